/- A part of the proof: what the functions compute. -/
import Derived.Test.YtdkeelhebopgkaaGreatDoorDataA
import Derived.Test.YtdkeelhebopgkaaGreatDoorExtA
set_option linter.all false
open Go.Proofs.Tryz renaming prog → e8
open Nat renaming reduceLeDiff → e9,reduceEqDiff → fa,reduceAdd → fg,reduceSub → fi,reduceBEq → fj,reduceMul → fk,reduceLT → fo,le_trans → fz,le_of_eq → fA
open Int renaming reduceToNat → fb,reduceBEq → fm,reduceLE → fp,reduceLT → fq,reduceEq → fw
open Option renaming getD_some → fc
open List renaming replicate → fy
open Subtype renaming mk → fB
open Go.Abs.AV renaming any → qA
noncomputable section
open Go.Proofs.Tryz
namespace Go.Abs
variable {m m2 m3:Nat}
variable (n:Nat)
open Go.Proofs
attribute [go_sem] f134 f90 f49 f86 f87 f116 f145 f182 f31 f32 f183 f148 f156 f186 f135 f238 f136 f151 f212 f70 f73 f56 f191 f192 f194 f193 f157 f158 f121 f289 f216 f198 f218 f244 f245 f270 f221 f165 f18 f24 f51 f41 f83 f40 f84 f146 f117 f147 f207 f184 f150 f211 f93 f58 f59 f74 f159 f160 f120 f190 f162 f195 f243 f260 f222 f126 f23 f50 f43 f16 f85 f115 f188 f152 f153 f187 f103 f79 f124 f161 f199 f220
set_option maxRecDepth 100000
set_option maxHeartbeats 4000000
@[reducible] def aeH:kU Bool:=oI e8 f134 n (nH e8 [.tmp 2] mX)
def LY:NA (aeH n) (nq .u8) 17:=mB
def Lo:=fu fun n=>(LY n).1
def acX: ∀n:Nat,xm e8 134 (nq .u8) mX (Lo n):=Cb fun n=>zd (LY n) (gd kj ko) func134 ntmps134 results134
@[reducible] def afZ:kU Bool:=oI e8 f90 n (nH e8 [.tmp 2] mX)
def Ot:NA (afZ n) (nq .u8) 9:=mB
def NB:=fu fun n=>(Ot n).1
def aeI: ∀n:Nat,xm e8 90 (nq .u8) mX (NB n):=Cb fun n=>zd (Ot n) (gd kj ko) func90 ntmps90 results90
@[go_sem]def PF:yd:=⟨[],[],(zK::zA::zA::zT (nP nO)::zK::mN (mN (mN (zA::[])))),[],none,none⟩
@[reducible] def SL:kU Bool:=oI e8 f49 n (nH e8 [.tmp 2] mX) (rG:=q9 [([0,1,0,1,1],PF)])
@[go_sem]abbrev PH(v0:Str)(v1:List Str)(v2:Int):jZ:=⟨(.str (sb v0)::qA::qA:: .mb false 1 (mp nB v1):: .int .i64 v2::mY (mY (mY (qA::[])))),[],0,[]⟩
abbrev DK:=Str->(List Str)->Int->Option Bool
abbrev abA(K:List Kt)(Z:DK):Prop:= ∀v0 v1 v2,run (SL n) K (PH v0 v1 v2)=Z v0 v1 v2
def DL:LB (abA n) [0,1,0,1,1] [.blk 0,.cut [1,1,1],.at [1,1,1]]:=mB
def DM:Nat->DK:=yC ((DL n).1)
def Y8{n:Nat}:DM n (m+1)=(DL n).1 (DM n m):=rfl
@[go_sem]def Xu(m:Nat):=BK (DL n) (DM n) m
def Ku:NA (SL n) mI 18:=mB
def EF:=fu fun n=>(Ku n).1
def PI: ∀n:Nat,xm e8 49 mI mX (EF n):=Cb fun n=>zd (Ku n) (gd kj ko) func49 ntmps49 results49
@[go_sem]def Ye:yd:=⟨[],[],(zK::zA::zA::zK::zK::mN (mN (zA::zA::zA::[]))),[],none,none⟩
@[reducible] def aar:kU Bool:=oI e8 f86 n (nH e8 [.tmp 2] mX) (rG:=q9 [([0,1,0,1,1],Ye)])
@[go_sem]abbrev Yf(v0:Int)(v1:Str)(v2:Int):jZ:=⟨(.int .u8 v0::qA::qA:: .str (sb v1):: .int .i64 v2::mY (mY (qA::qA::qA::[]))),[],0,[]⟩
abbrev Yg:=Int->Str->Int->Option Bool
abbrev af0(K:List Kt)(Z:Yg):Prop:= ∀v0 v1 v2,run (aar n) K (Yf v0 v1 v2)=Z v0 v1 v2
def Ou:LB (af0 n) [0,1,0,1,1] [.blk 0,.cut [1,1,1],.at [1,1,1]]:=mB
def Ov:Nat->Yg:=yC ((Ou n).1)
def arE{n:Nat}:Ov n (m+1)=(Ou n).1 (Ov n m):=rfl
@[go_sem]def abB(m:Nat):=BK (Ou n) (Ov n) m
def aas:NA (aar n) (nq .u8) 16:=mB
def Rn:=fu fun n=>(aas n).1
def af1: ∀n:Nat,xm e8 86 (nq .u8) mX (Rn n):=Cb fun n=>zd (aas n) (gd kj ko) func86 ntmps86 results86
@[reducible] def af2:kU (List Str):=oI e8 f87 n (nH e8 [.tmp 0] (aqF nO))
def Ow:SC0 (af2 n) 2:=mB
def NC:=fu fun n=>(Ow n).1
def aeJ: ∀n:Nat,aqP e8 87 (aqF nO) (NC n):=azt fun n=>azs (Ow n) (gd kj ko) func87 ntmps87 results87
@[reducible] def aix:kU Bool:=oI e8 f116 n (nH e8 [.tmp 2] mX)
def Ro:NA (aix n) (lM jY.kH) 8:=mB
def A8:=fu fun n=>(Ro n).1
def EG: ∀n:Nat,xm e8 116 (lM jY.kH) mX (A8 n):=Cb fun n=>zd (Ro n) (gd kj ko) func116 ntmps116 results116
open Go.Proofs
@[reducible] def af3:kU Bool:=oI e8 f145 n (nH e8 [.tmp 2] mX)
def Ox:NA (af3 n) (lM jY.kH) 12:=mB
def ND:=fu fun n=>(Ox n).1
def aeK: ∀n:Nat,xm e8 145 (lM jY.kH) mX (ND n):=Cb fun n=>zd (Ox n) (gd kj ko) func145 ntmps145 results145
@[reducible] def aeL:kU Bool:=oI e8 f182 n (nH e8 [.tmp 2] mX)
def LZ:NA (aeL n) (nq .u8) 21:=mB
def Lp:=fu fun n=>(LZ n).1
def acY: ∀n:Nat,xm e8 182 (nq .u8) mX (Lp n):=Cb fun n=>zd (LZ n) (gd kj ko) func182 ntmps182 results182
@[go_sem]def kz:=(CH (QV (alC Syntax.kH 8 kP)) (CH (QV (alC (cI .i64) 1 kP)) (CH (QV (alC (cI .i64) 1 kP)) Fv)))
@[reducible] def A9:kU (Tg×Unit):=oI e8 f31 n (CT e8 [] [] [0,1,2] 3 kz kP)
def Fw:{B:Syntax->Int->Int->Option (Tg×Unit) // ∀(o0:Syntax)(o1:Int)(o2:Int),run (A9 n) [.ops (rj (A9 n) [0]) ((rj (A9 n) [0]).toList.drop 1),.cut [1],.at [1]] (jZ.put {slots:=((lS 0 (lS 1 (lS 2 kP))).enc (kz.lens ((o0,()),(o1,()),(o2,()),())) ())++fy (15-((lS 0 (lS 1 (lS 2 kP))).enc (kz.lens ((o0,()),(o1,()),(o2,()),())) ()).length) qA,heap:=(kz.enc (kz.lens ((o0,()),(o1,()),(o2,()),())) ((o0,()),(o1,()),(o2,()),())),low:=(kz.enc (kz.lens ((o0,()),(o1,()),(o2,()),())) ((o0,()),(o1,()),(o2,()),())).length} (some 5) (.raw .nilIface))=B o0 o1 o2}:=mB
def uS:=fu fun n=>(Fw n).1
def Xv: ∀(n:Nat)(o0:Syntax)(o1:Int)(o2:Int)(r:(Tg×Unit)),uS n o0 o1 o2=some r->FnT e8 (afO e8 31) ((lS 0 (lS 1 (lS 2 kP))).enc (kz.lens ((o0,()),(o1,()),(o2,()),())) ()) (kz.enc (kz.lens ((o0,()),(o1,()),(o2,()),())) ((o0,()),(o1,()),(o2,()),())) (fun o H'=>o=(enR kz kP r).1/\H'=(enR kz kP r).2)
 |0,_,_,_,_,h=>by cases h
 |n+1,o0,o1,o2,r,h=>by
  exact aap (M:=A9 n) (p1:=[]) (b1:=[0,1,2]) (args:=((lS 0 (lS 1 (lS 2 kP))).enc (kz.lens ((o0,()),(o1,()),(o2,()),())) ())) ⟨kj,ko,qS _,rq _,vg,vi,wM,wm⟩ func31 rfl (jV) (rn (fz (jQ (jV)) (fA (kz.sz _ _).symm)) _ ((lS 0 (lS 1 (lS 2 kP))).nb (kz.lens ((o0,()),(o1,()),(o2,()),())) ())) (fun x hx=>B6 (fz (jQ (jV)) (fA (kz.sz _ _).symm)) _ (kz.nb _ _ x hx)) ntmps31 results31 (low:=3) (by rfl) rfl (((Fw n).2 o0 o1 o2).trans h)
@[go_sem]def j9:=(mh (Oq 66 (lM kr.kH)) kP)
@[go_sem]abbrev Ff(F:kr->Option (Unit×T8))(b:Unit)(a:T8):=F a.1
@[go_sem]def SM(F:kr->Option (Unit×T8)):=aag [] Fv j9 Fv (mh (lM kr.kH) kP) (Ff F)
@[reducible] def acZ:kU (Unit×T8):=oI e8 f32 n (CT e8 [.cell 2 66] [] [] 0 Fv (mh (lM kr.kH) kP))
def Fg:SX (acZ n) j9 Fv 14 Ff:=mC
def Jj:=fu fun n=>(Fg n).1
def abC: ∀n:Nat,Xt e8 32 j9 Fv Fv (mh (lM kr.kH) kP) (Ff (Jj n)):=abw fun n=>abv (Fg n) (gd kj ko) func32 ntmps32 results32
@[reducible] def Xw:kU Str:=oI e8 f183 n (nH e8 [.tmp 2] (akr 207 (zI cS))) (cut:=Y3 [([1,1],[0])])
def KL:NA (Xw n) mI 4:=mB
def NE:=fu fun n=>(KL n).1
def Vo: ∀n:Nat,xm e8 183 mI (akr 207 (zI cS)) (NE n):=Cb fun n=>zd (KL n) (gd kj ko) func183 ntmps183 results183
def mD:wy:=(avp [] (sub [0,1,0,1,1] ((f148.body).getD .skip)))
@[go_sem,go_sem]def wN:mD.ps.size=1/\ ∀j:Int,pG mD.js j=none:=⟨jV,fun j=>(by show pG [] j=none;unfold pG aoH;cases (j==0)<;>rfl)⟩
@[go_sem]def kN:=(CH (aqy mD (alZ (lS 1 (aae 7 kP)))) (CH (QV (ZE 2 kP)) (CH ogM Fv)))
@[go_sem]def lD:=(CH (ogL mD (alZ (lS 1 (aae 7 kP)))) (CH (QV (ZE 2 kP)) (CH ogM Fv)))
def lA:kU (Tw×(Bool×Unit)) where
 body:= .seq (aey (sub [0,1,0,1,1] ((f148.body).getD .skip))) (anL (sub [0,1,0,1,1] ((f148.body).getD .skip)))
 P:=e8
 cl:=nR []
 cd:=JB []
 rG:=q9 []
 cut:=Y3 []
 n:=n
 out:=(fun _=>none)
 nH:=aaj [] [] [0,1,2] 3 lD
 uR:=mg []
def JI:(lA n).P=e8/\(lA n).cl=nR []/\(lA n).cd=JB []/\(lA n).rG=q9 []/\(lA n).cut=Y3 []/\(lA n).n=n/\(lA n).out=(fun _=>none)/\(lA n).nH=aaj [] [] [0,1,2] 3 lD/\(lA n).uR=mg []:=⟨rfl,rfl,rfl,rfl,rfl,rfl,rfl,rfl,rfl⟩
def JJ:(lA n).body= .seq (aey (sub [0,1,0,1,1] ((f148.body).getD .skip))) (anL (sub [0,1,0,1,1] ((f148.body).getD .skip))):=rfl
def JK:Code.seq (aey (sub [0,1,0,1,1] ((f148.body).getD .skip))) (anL (sub [0,1,0,1,1] ((f148.body).getD .skip)))=Code.seq mD.assign mD.body:=jV
attribute [go_sem] JI JJ wN
def AU:{B:Str->T9->Option (Tw×(Bool×Unit)) // ∀(a0:Str)(o0:T9),run (lA n) [.at [0],.rb,.at [1],.rd] {slots:=Px ((alZ (lS 1 (aae 7 kP))).enc (kN.lens ((),(),o0,())) ()) [5] ((mh mI kP).enc (kN.lens ((),(),o0,())) (a0,())),heap:=(kN.enc (kN.lens ((),(),o0,())) ((),(),o0,())),low:=(kN.enc (kN.lens ((),(),o0,())) ((),(),o0,())).length}=B a0 o0}:=mB
def Cw:=fu fun n=>(AU n).1
def IX: ∀(n:Nat)(a0:Str)(o0:T9)(r:(Tw×(Bool×Unit))),Cw n a0 o0=some r->FnT e8 (U2 e8) ((mh mI kP).enc (kN.lens ((),(),o0,())) (a0,())) (kN.enc (kN.lens ((),(),o0,())) ((),(),o0,())) (fun o H'=>o= .ret (uE ((mh mX kP).enc (lD.lens r.1) r.2))/\H'=lD.enc (lD.lens r.1) r.1)
 |0,_,_,_,h=>by cases h
 |n+1,a0,o0,r,h=>by
  exact aoY (M:=lA n) (lk:=mD) (slots:=((alZ (lS 1 (aae 7 kP))).enc (kN.lens ((),(),o0,())) ())) ⟨kj,ko,qS _,rq _,vg,vi,wM,wm⟩ JK (jV) ⟨jV,jV⟩ rfl (rn (fz (jQ (jV)) (fA (kN.sz _ _).symm)) _ ((mh mI kP).nb _ _)) (fun x hx=>B6 (fz (jQ (jV)) (fA (kN.sz _ _).symm)) _ (kN.nb _ _ x hx)) (fun e σ hs=>akN (js:=[]) (pos:=[]) (base:=[0,1,2]) (low:=3) (os:=lD) (e:=e) (σ:=σ) (r:=r) (by rfl) hs) (((AU n).2 a0 o0).trans h)
open Go.Proofs
@[reducible] def af4:kU Int:=oI e8 f156 n (nH e8 [.tmp 2] (nq .i64))
def Oy:NA (af4 n) (nq .u8) 28:=mB
def AW:=fu fun n=>(Oy n).1
def CU: ∀n:Nat,xm e8 156 (nq .u8) (nq .i64) (AW n):=Cb fun n=>zd (Oy n) (gd kj ko) func156 ntmps156 results156
def GQ:yd:=⟨[],[],(zK::mN (mN (zK::zK::zA::zK::wv (mL (mN (mN (mN (zA::[])))))))),[oA nO],none,none⟩
def NF:yd:=⟨[],[],(zK::mN (mN (zK::zK::zK::zK::wv (mL (mN (mN (mN (zA::[])))))))),[oA nO],none,none⟩
def NG:yd:=⟨[],[],(zK::zA::zA::zK::zK::zK::zK::wv (mL (mL (zA::zA::zA::[])))),[],none,none⟩
@[reducible] def DN:kU (List Str):=oI e8 f186 n (nH e8 [.tmp 2] (nP nO)) (rG:=q9 [([0,0,1,1,1,1,0,1,0,0,0,1,1,1,1,1,1,1,1,1,1,1,1],GQ),([0,0,1,1,1,1,1,1,1,1,1,1,1,1],NF),([0,0,1,1,1,1,1,1,1,1,1,1],GQ),([0,1,0,1,1,1,1],NG)])
attribute [go_sem] GQ NF NG
abbrev NH(v0:Str)(v1 v2:Int)(r0:List Str)(c0:Nat):jZ:=⟨(.str (sb v0)::mY (mY (.acc 0 c0:: .int .i64 v1::qA:: .int .i64 v2::wu (mQ (mY (mY (mY (qA::[])))))))),[.acc false 1 (mp nB r0)],0,[]⟩
abbrev NI(m2:Nat):List Kt:=[.blk 6,.cut [1,1,1,1,1,0,1,0,0,0,1,1,1,1,1,1,1,1,1,1,1,1],.at [1,1,1,1,1,0,1,0,0,0,1,1,1,1,1,1,1,1,1,1,1,1],.blk 5,.lp m2 [0,0,1,1,1,1,1,1,1,1,1,1,1,1],.blk 4,.cut [1,1,1,1,1,1,1,1,1,1,1,1,1],.at [1,1,1,1,1,1,1,1,1,1,1,1,1]]
abbrev GR:=Str->Int->Int->(List Str)->Option (List Str)
abbrev NJ(K:List Kt)(Z:GR):Prop:= ∀v0 v1 v2 r0 c0,c0=r0.length->run (DN n) K (NH v0 v1 v2 r0 c0)=Z v0 v1 v2 r0
abbrev NK(v0:Str)(v1 v2 v3:Int)(r0:List Str)(c0:Nat):jZ:=⟨(.str (sb v0)::mY (mY (.acc 0 c0:: .int .i64 v1:: .int .i64 v2:: .int .i64 v3::wu (mQ (mY (mY (mY (qA::[])))))))),[.acc false 1 (mp nB r0)],0,[]⟩
abbrev Cy:List Kt:=[.blk 4,.cut [1,1,1,1,1,1,1,1,1,1,1,1,1],.at [1,1,1,1,1,1,1,1,1,1,1,1,1]]
abbrev Cz:=Str->Int->Int->Int->(List Str)->Option (List Str)
abbrev GS(K:List Kt)(Z:Cz):Prop:= ∀v0 v1 v2 v3 r0 c0,c0=r0.length->run (DN n) K (NK v0 v1 v2 v3 r0 c0)=Z v0 v1 v2 v3 r0
abbrev NL:List Kt:=[.blk 2,.cut [1,1,1,1,1,1,1,1,1,1,1],.at [1,1,1,1,1,1,1,1,1,1,1]]
abbrev NM(v0:Str)(v1 v2 v3 v4:Int):jZ:=⟨(.str (sb v0)::qA::qA:: .int .i64 v1:: .int .i64 v2:: .int .u8 v3:: .int .i64 v4::wu (mQ (mQ (qA::qA::qA::[])))),[],0,[]⟩
abbrev NN:=Str->Int->Int->Int->Int->Option (List Str)
abbrev aat(K:List Kt)(Z:NN):Prop:= ∀v0 v1 v2 v3 v4,run (DN n) K (NM v0 v1 v2 v3 v4)=Z v0 v1 v2 v3 v4
attribute [go_sem] NH NI NK Cy NL NM
def GU:LB2 (GS n) [0,0,1,1,1,1,1,1,1,1,1,1,1,1] Cy (NJ n) [0,0,1,1,1,1,0,1,0,0,0,1,1,1,1,1,1,1,1,1,1,1,1] NI:=mB
def GV(X2:Cz):Nat->GR:=yC ((GU n).1 X2)
def amh{n:Nat}(X2:Cz):GV n X2 (m+1)=(GU n).1 X2 (GV n X2 m):=rfl
def Vp{X2}(h2:GS n (.lq m2 [0,0,1,1,1,1,1,1,1,1,1,1,1,1]::Cy) X2)(m:Nat):=an7 (GU n) h2 (GV n X2) m
def GW:LB (GS n) [0,0,1,1,1,1,1,1,1,1,1,1,1,1] Cy:=by
 apply fB;intro m X0 ih v0 v1 v2 v3 r0 c0 ec0;subst ec0;simp (config:={maxSteps:=100000000}) only[go_sem,fg,fi,e9,fa,fj,fk,fo,fp,fq,fb,fm,fw,f186,fc,mixed,Vp n ih,ih];exact rfl
def GX:Nat->Cz:=yC ((GW n).1)
def ami{n:Nat}:GX n (m+1)=(GW n).1 (GX n m):=rfl
@[go_sem]def Vq(m:Nat):=BK (GW n) (GX n) m
def GY:LB (NJ n) [0,0,1,1,1,1,1,1,1,1,1,1] NL:=mB
def GZ:Nat->GR:=yC ((GY n).1)
def amj{n:Nat}:GZ n (m+1)=(GY n).1 (GZ n m):=rfl
@[go_sem]def Vr(m:Nat):=BK (GY n) (GZ n) m
def G1:LB (aat n) [0,1,0,1,1,1,1] [.blk 0,.cut [1,1,1,1,1],.at [1,1,1,1,1]]:=mB
def G2:Nat->NN:=yC ((G1 n).1)
def amk{n:Nat}:G2 n (m+1)=(G1 n).1 (G2 n m):=rfl
@[go_sem]def Vs(m:Nat):=BK (G1 n) (G2 n) m
def PJ:NA (DN n) mI 106:=mB
def Vt:=fu fun n=>(PJ n).1
def aau: ∀n:Nat,xm e8 186 mI (nP nO) (Vt n):=Cb fun n=>zd (PJ n) (gd kj ko) func186 ntmps186 results186
@[reducible] def Xx:kU Int:=oI e8 f135 n (nH e8 [.tmp 4] (nq .i64)) (cl:=nR [(175,uC mI (nq .u8) (nq .i64) (Al n))])
def KM:SC2 (Xx n) mI (nq .u8) 8:=mB
def strings_IndexByte:=fu fun n=>(KM n).1
def JL: ∀n:Nat,GO e8 135 mI (nq .u8) (nq .i64) (strings_IndexByte n):=LX fun n=>Ks (KM n) (gd (ke (pJ (Gz n)) kj) ko) func135 ntmps135 results135
@[reducible] def Oz:kU Bool:=oI e8 f238 n (nH e8 [.tmp 2] mX)
def ze:NA (Oz n) (nq .i32) 17:=mB
def wO:=fu fun n=>(ze n).1
def MY: ∀n:Nat,xm e8 238 (nq .i32) mX (wO n):=Cb fun n=>zd (ze n) (gd kj ko) func238 ntmps238 results238
@[reducible] def G3:kU Bool:=oI e8 f136 n (nH e8 [.tmp 4] mX)
def tN:SC2 (G3 n) mI mI 18:=mB
def uT:=fu fun n=>(tN n).1
def GA: ∀n:Nat,GO e8 136 mI mI mX (uT n):=LX fun n=>Ks (tN n) (gd kj ko) func136 ntmps136 results136
@[go_sem]def FS:yd:=⟨[],[],(zK::mN (zK::mL (mL (mN (mN (mN (zA::[]))))))),[oC [zK,zK,zK,zK,zK],oK,oK,oK],none,none⟩
@[go_sem]def kJ:=(CH (QV (mh mI (mh (nq .i64) (ZE 1 (ZE 2 (ZE 3 kP)))))) (CH ogM (CH ogM (CH ogM Fv))))
@[go_sem]def mZ:=(mh (nq .i64) (mh (nq .i64) (mh (nq .i64) kP)))
@[go_sem]abbrev nD(F:Str->Int->T9->T9->T9->Option Tz)(b:Ti)(a:Unit):=F b.1.1 b.1.2.1 b.2.1 b.2.2.1 b.2.2.2.1
@[go_sem]def tO(F:Str->Int->T9->T9->T9->Option Tz):=aag [.arg 0 [],.obj 0 2 [],.obj 0 3 [],.obj 0 4 []] kJ (lS 0 kP) kJ mZ (nD F)
@[reducible] def Ba:kU Tz:=oI e8 f151 n (CT e8 [.tmp 2,.tmp 3,.tmp 4] [] [0,1,2,3] 4 kJ mZ) (rG:=q9 [([0,1,0,1],FS)]) (vf:=mg []) (vJ:=mg [])
@[go_sem]def Rp:an6 (Ba n) [0,0,0,1,0,0,1,0,1] [0,0,1] [0,0,1,0,0,1,0,0,1,0,1] [0,1,1]:=⟨jV,jV,jV,jV⟩
@[go_sem]abbrev FT(v0:Int)(v1:Str)(v2:Int)(r1 r2 r3:List (Str×Bool)):jZ:=⟨(.ptr 0 0::mY (.int .i64 v0::mQ (mQ (mY (mY (mY (qA::[]))))))),[.cells [.str (sb v1),.int .i64 v2,.map 1,.map 2,.map 3],.map (mp DG r1),.map (mp DG r2),.map (mp DG r3)],4,[]⟩
abbrev nS:=Int->Str->Int->T9->T9->T9->Option Tz
abbrev PK(K:List Kt)(Z:nS):Prop:= ∀v0 v1 v2 r1 r2 r3,run (Ba n) K (FT v0 v1 v2 r1 r2 r3)=Z v0 v1 v2 r1 r2 r3
def sR:LB (PK n) [0,1,0,1] [.blk 0,.cut [1,1],.at [1,1]]:=mB
def vQ:Nat->nS:=yC ((sR n).1)
def DZ{n:Nat}:vQ n (m+1)=(sR n).1 (vQ n m):=rfl
@[go_sem]def L0(m:Nat):=BK (sR n) (vQ n) m
def Bb:SX (Ba n) (lS 0 kP) kJ 51 nD:=mC
def yE:=fu fun n=>(Bb n).1
def PL: ∀n:Nat,Xt e8 151 (lS 0 kP) kJ kJ mZ (nD (yE n)):=abw fun n=>abv (Bb n) (gd kj ko) func151 ntmps151 results151
open Go.Proofs
@[reducible] def Lq:kU Bool:=oI e8 f212 n (nH e8 [.tmp 2] mX)
def wP:NA (Lq n) (nq .i64) 5:=mB
def strings_shouldUseASCIISet:=fu fun n=>(wP n).1
def Kv: ∀n:Nat,xm e8 212 (nq .i64) mX (strings_shouldUseASCIISet n):=Cb fun n=>zd (wP n) (gd kj ko) func212 ntmps212 results212
@[go_sem]def KN:yd:=⟨[],[],(zA::zA::zA::zK::zK::mN (zA::zA::zT (nP jY.row)::zK::zK::mN (zT (nP nO)::zK::zK::mL []))),[oK,oA nO],none,none⟩
@[go_sem]def KO:yd:=⟨[(4,1,true)],[],(zA::zA::zA::zK::zK::mN (zA::zA::zT (nP jY.row)::zK::zK::mL (mN (zA::zA::zA::[])))),[oK,oA nO],none,none⟩
@[reducible] def Fx:kU (List Str):=oI e8 f70 n (nH e8 [.tmp 2] (nP nO)) (rG:=q9 [([0,1,1,0,0,1,1,0,0,1,0,1,1,1],KN),([0,1,0,1,1,1],KO)])
abbrev KP(v0:List jY)(v1 v2:Int)(v3:List Str)(v4 v5:Int)(r0:List (Str×Bool))(r1:List Str)(c1:Nat):jZ:=⟨(qA::qA::qA:: .map 0:: .acc 1 c1::mY (qA::qA:: .mb false 4 (mp jY.cells v0):: .int .i64 v1:: .int .i64 v2::mY (.mb false 1 (mp nB v3):: .int .i64 v4:: .int .i64 v5::mQ []))),[.map (mp DG r0),.acc true 1 (mp nB r1)],0,[]⟩
abbrev KQ(m2:Nat):List Kt:=[.blk 2,.blk 1,.cut [1,1,1,0,0,1,0,1,1,1],.at [1,1,1,0,0,1,0,1,1,1],.lp m2 [0,1,0,1,1,1],.blk 0,.cut [1,1,1,1],.at [1,1,1,1]]
abbrev KR:=(List jY)->Int->Int->(List Str)->Int->Int->T9->(List Str)->Option (List Str)
abbrev Xy(K:List Kt)(Z:KR):Prop:= ∀v0 v1 v2 v3 v4 v5 r0 r1 c1,c1=r1.length->run (Fx n) K (KP v0 v1 v2 v3 v4 v5 r0 r1 c1)=Z v0 v1 v2 v3 v4 v5 r0 r1
abbrev KS(v0:List jY)(v1 v2:Int)(r0:List (Str×Bool))(r1:List Str)(c1:Nat):jZ:=⟨(qA::qA::qA:: .map 0:: .acc 1 c1::mY (qA::qA:: .mb false 4 (mp jY.cells v0):: .int .i64 v1:: .int .i64 v2::mQ (mY (qA::qA::qA::[])))),[.map (mp DG r0),.acc true 1 (mp nB r1)],0,[]⟩
abbrev zM:=(List jY)->Int->Int->T9->(List Str)->Option (List Str)
abbrev El(K:List Kt)(Z:zM):Prop:= ∀v0 v1 v2 r0 r1 c1,c1=r1.length->run (Fx n) K (KS v0 v1 v2 r0 r1 c1)=Z v0 v1 v2 r0 r1
attribute [go_sem] KP KQ KS
def wz:LB2 (El n) [0,1,0,1,1,1] [.blk 0,.cut [1,1,1,1],.at [1,1,1,1]] (Xy n) [0,1,1,0,0,1,1,0,0,1,0,1,1,1] KQ:=mB
def zN(X2:zM):Nat->KR:=yC ((wz n).1 X2)
def Ie{n:Nat}(X2:zM):zN n X2 (m+1)=(wz n).1 X2 (zN n X2 m):=rfl
def Rr{X2}(h2:El n (.lq m2 [0,1,0,1,1,1]::[.blk 0,.cut [1,1,1,1],.at [1,1,1,1]]) X2)(m:Nat):=an7 (wz n) h2 (zN n X2) m
def wA:LB (El n) [0,1,0,1,1,1] [.blk 0,.cut [1,1,1,1],.at [1,1,1,1]]:=by
 apply fB;intro m X0 ih v0 v1 v2 r0 r1 c1 ec1;subst ec1;simp (config:={maxSteps:=100000000}) only[go_sem,fg,fi,e9,fa,fj,fk,fo,fp,fq,fb,fm,fw,f70,fc,mixed,Rr n ih,ih];exact rfl
def zO:Nat->zM:=yC ((wA n).1)
def If{n:Nat}:zO n (m+1)=(wA n).1 (zO n m):=rfl
@[go_sem]def Rt(m:Nat):=BK (wA n) (zO n) m
def Fy:NA (Fx n) (nP jY.row) 37:=mB
def Am:=fu fun n=>(Fy n).1
def Xz: ∀n:Nat,xm e8 70 (nP jY.row) (nP nO) (Am n):=Cb fun n=>zd (Fy n) (gd kj ko) func70 ntmps70 results70
@[go_sem]def kZ:=(CH (QV (lS 1 kP)) (CH (QV (alC jX.kH 6 kP)) Fv))
@[reducible] def MZ:kU TI:=oI e8 f73 n (CT e8 [] [] [0,1] 2 kZ kP)
def yn:{B:jX->Option TI // ∀(o0:jX),run (MZ n) [.at []] (ait (lS 0 kP) kZ ((),(o0,()),()) () 8)=B o0}:=mB
def nf:=fu fun n=>(yn n).1
def L1: ∀(n:Nat)(o0:jX)(r:TI),nf n o0=some r->SD e8 73 (lS 0 kP) kZ ((),(o0,()),()) () kZ kP r
 |0,_,_,h=>by cases h
 |n+1,o0,r,h=>by
  exact okD (((yn n).2 o0).trans h) (gd kj ko) func73 ntmps73 results73
@[reducible] def Cc:kU kI:=oI e8 f56 n (nH e8 [.cell 2 45] (lM kI.kH)) (vf:=mg []) (vJ:=mg [])
@[go_sem]def Ui:tM (Cc n) [0,1]=true:=jV
@[go_sem]def Uj:Ej (Cc n) [0,1] 3 10 7 10 8 10 9 10:=⟨jV,jV,jV,jV⟩
def Cd:NA (Cc n) (zI jX.kH) 13:=mB
def lG:=fu fun n=>(Cd n).1
def lJ: ∀n:Nat,xm e8 56 (zI jX.kH) (lM kI.kH) (lG n):=Cb fun n=>zd (Cd n) (gd kj ko) func56 ntmps56 results56
@[reducible] def qI:kU (Tn×Unit):=oI e8 f191 n (aqn e8 [.tmp 2] 0 nO (rsA 0 (fun(b:Tn)=>b.1.length) JD))
def An:{B:Str->List Str->Option (Tn×Unit) // ∀x xs,run (qI n) [.at []] {slots:=[(nP nO).enc (x::xs)]++fy 7 qA,heap:=[],low:=0}=B x xs}:=by
 apply fB;intro x xs;simp (config:={maxSteps:=100000000}) only[go_sem,fg,fi,e9,fa,fj,fk,fo,fp,fq,fb,fm,fw,f191,fc,mixed];exact rfl
def OA(c:Nat):run (qI n) [.at []] {slots:=[.raw (.slice none 0 c)]++fy 7 qA,heap:=[],low:=0}=some (([],()),()):=by simp (config:={maxSteps:=100000000}) only[go_sem,fg,fi,e9,fa,fj,fk,fo,fp,fq,fb,fm,fw,f191,fc,mixed]
def OB(a:Addr)(c:Nat):run (qI n) [.at []] {slots:=[.raw (.slice (some a) 0 c)]++fy 7 qA,heap:=[],low:=0}=some (([],()),()):=by simp (config:={maxSteps:=100000000}) only[go_sem,fg,fi,e9,fa,fj,fk,fo,fp,fq,fb,fm,fw,f191,fc,mixed]
def xP:Nat->(List Str)->Option (Tn×Unit)
 |0,_=>none
 |_+1,[]=>some (([],()),())
 |n+1,x::xs=>(An n).1 x xs
def OC: ∀(n:Nat)(a0:(List Str))(r:(Tn×Unit)),xP n a0=some r->FnG e8 191 (((asT (nP nO) Ln):GM Unit _).enc () (a0,())) (uD.enc ()) (fun o H'=>o= .ret (uE ((rsA 0 (fun(b:Tn)=>b.1.length) JD).enc r.1 r.2))/\H'=(vO (oaT true nO) uD).enc r.1)
 |0,_,_,h=>by cases h
 |n+1,[],r,h=>by
  cases h
  exact aeC fun base c=>by
   cases base with
   |none=>exact Ct (M:=qI n) ⟨kj,ko,qS _,rq _,vg,vi,wM,wm⟩ func191 rfl rfl ⟨trivial,trivial⟩ (fun _ h=>by cases h) ntmps191 results191 (fun σ hs=>aii hs) (OA n c)
   |some a=>exact Ct (M:=qI n) ⟨kj,ko,qS _,rq _,vg,vi,wM,wm⟩ func191 rfl rfl ⟨trivial,trivial⟩ (fun _ h=>by cases h) ntmps191 results191 (fun σ hs=>aii hs) (OB n a c)
 |n+1,x::xs,r,h=>by
  exact Ct (M:=qI n) ⟨kj,ko,qS _,rq _,vg,vi,wM,wm⟩ func191 rfl rfl ⟨(nP nO).nb 0 _,trivial⟩ (uD.nb _ _) ntmps191 results191 (fun σ hs=>aii hs) (((An n).2 x xs).trans h)
@[reducible] def pF:kU TP:=oI e8 f192 n (anW e8 [.tmp 2] 0 j7.row (rsA 0 (fun(b:(Tj×Unit))=>b.1.length) JD))
def wx:{B:j7->List j7->Option TP // ∀x xs,run (pF n) [.at []] {slots:=[(nP j7.row).enc (x::xs)]++fy 7 qA,heap:=[],low:=0}=B x xs}:=by
 apply fB;intro x xs;simp (config:={maxSteps:=100000000}) only[go_sem,fg,fi,e9,fa,fj,fk,fo,fp,fq,fb,fm,fw,f192,fc,mixed];exact rfl
def JM(c:Nat):run (pF n) [.at []] {slots:=[.raw (.slice none 0 c)]++fy 7 qA,heap:=[],low:=0}=some (([],()),()):=by simp (config:={maxSteps:=100000000}) only[go_sem,fg,fi,e9,fa,fj,fk,fo,fp,fq,fb,fm,fw,f192,fc,mixed]
def JN(a:Addr)(c:Nat):run (pF n) [.at []] {slots:=[.raw (.slice (some a) 0 c)]++fy 7 qA,heap:=[],low:=0}=some (([],()),()):=by simp (config:={maxSteps:=100000000}) only[go_sem,fg,fi,e9,fa,fj,fk,fo,fp,fq,fb,fm,fw,f192,fc,mixed]
def tP:Nat->Tj->Option TP
 |0,_=>none
 |_+1,[]=>some (([],()),())
 |n+1,x::xs=>(wx n).1 x xs
def JO: ∀(n:Nat)(a0:Tj)(r:TP),tP n a0=some r->FnG e8 192 (((asT (nP j7.row) Ln):GM Unit _).enc () (a0,())) (uD.enc ()) (fun o H'=>o= .ret (uE ((rsA 0 (fun(b:(Tj×Unit))=>b.1.length) JD).enc r.1 r.2))/\H'=(vO (oaT false j7.row) uD).enc r.1)
 |0,_,_,h=>by cases h
 |n+1,[],r,h=>by
  cases h
  exact aeC fun base c=>by
   cases base with
   |none=>exact Ct (M:=pF n) ⟨kj,ko,qS _,rq _,vg,vi,wM,wm⟩ func192 rfl rfl ⟨trivial,trivial⟩ (fun _ h=>by cases h) ntmps192 results192 (fun σ hs=>Xf hs) (JM n c)
   |some a=>exact Ct (M:=pF n) ⟨kj,ko,qS _,rq _,vg,vi,wM,wm⟩ func192 rfl rfl ⟨trivial,trivial⟩ (fun _ h=>by cases h) ntmps192 results192 (fun σ hs=>Xf hs) (JN n a c)
 |n+1,x::xs,r,h=>by
  exact Ct (M:=pF n) ⟨kj,ko,qS _,rq _,vg,vi,wM,wm⟩ func192 rfl rfl ⟨(nP j7.row).nb 0 _,trivial⟩ (uD.nb _ _) ntmps192 results192 (fun σ hs=>Xf hs) (((wx n).2 x xs).trans h)
open Go.Proofs
@[reducible] def qJ:kU (Tu×Unit):=oI e8 f194 n (anW e8 [.tmp 2] 0 Syntax.row (rsA 0 (fun(b:Tu)=>b.1.length) JD))
def Ao:{B:Syntax->List Syntax->Option (Tu×Unit) // ∀x xs,run (qJ n) [.at []] {slots:=[(nP Syntax.row).enc (x::xs)]++fy 7 qA,heap:=[],low:=0}=B x xs}:=by
 apply fB;intro x xs;simp (config:={maxSteps:=100000000}) only[go_sem,fg,fi,e9,fa,fj,fk,fo,fp,fq,fb,fm,fw,f194,fc,mixed];exact rfl
def OD(c:Nat):run (qJ n) [.at []] {slots:=[.raw (.slice none 0 c)]++fy 7 qA,heap:=[],low:=0}=some (([],()),()):=by simp (config:={maxSteps:=100000000}) only[go_sem,fg,fi,e9,fa,fj,fk,fo,fp,fq,fb,fm,fw,f194,fc,mixed]
def OE(a:Addr)(c:Nat):run (qJ n) [.at []] {slots:=[.raw (.slice (some a) 0 c)]++fy 7 qA,heap:=[],low:=0}=some (([],()),()):=by simp (config:={maxSteps:=100000000}) only[go_sem,fg,fi,e9,fa,fj,fk,fo,fp,fq,fb,fm,fw,f194,fc,mixed]
def xQ:Nat->(List Syntax)->Option (Tu×Unit)
 |0,_=>none
 |_+1,[]=>some (([],()),())
 |n+1,x::xs=>(Ao n).1 x xs
def OF: ∀(n:Nat)(a0:(List Syntax))(r:(Tu×Unit)),xQ n a0=some r->FnG e8 194 (((asT (nP Syntax.row) Ln):GM Unit _).enc () (a0,())) (uD.enc ()) (fun o H'=>o= .ret (uE ((rsA 0 (fun(b:Tu)=>b.1.length) JD).enc r.1 r.2))/\H'=(vO (oaT false Syntax.row) uD).enc r.1)
 |0,_,_,h=>by cases h
 |n+1,[],r,h=>by
  cases h
  exact aeC fun base c=>by
   cases base with
   |none=>exact Ct (M:=qJ n) ⟨kj,ko,qS _,rq _,vg,vi,wM,wm⟩ func194 rfl rfl ⟨trivial,trivial⟩ (fun _ h=>by cases h) ntmps194 results194 (fun σ hs=>Xf hs) (OD n c)
   |some a=>exact Ct (M:=qJ n) ⟨kj,ko,qS _,rq _,vg,vi,wM,wm⟩ func194 rfl rfl ⟨trivial,trivial⟩ (fun _ h=>by cases h) ntmps194 results194 (fun σ hs=>Xf hs) (OE n a c)
 |n+1,x::xs,r,h=>by
  exact Ct (M:=qJ n) ⟨kj,ko,qS _,rq _,vg,vi,wM,wm⟩ func194 rfl rfl ⟨(nP Syntax.row).nb 0 _,trivial⟩ (uD.nb _ _) ntmps194 results194 (fun σ hs=>Xf hs) (((Ao n).2 x xs).trans h)
@[reducible] def qo:kU (List kf):=oI e8 f193 n (nH e8 [.tmp 2] (nP kf.row))
def zf:{B:kf->List kf->Option (List kf) // ∀x xs,run (qo n) [.at []] {slots:=[(nP kf.row).enc (x::xs)]++fy 7 qA,heap:=[]}=B x xs}:=by
 apply fB;intro x xs;simp (config:={maxSteps:=100000000}) only[go_sem,fg,fi,e9,fa,fj,fk,fo,fp,fq,fb,fm,fw,f193,fc,mixed];exact rfl
def M1(c:Nat):run (qo n) [.at []] {slots:=[.raw (.slice none 0 c)]++fy 7 qA,heap:=[]}=some []:=by simp (config:={maxSteps:=100000000}) only[go_sem,fg,fi,e9,fa,fj,fk,fo,fp,fq,fb,fm,fw,f193,fc,mixed]
def M2(a:Addr)(c:Nat):run (qo n) [.at []] {slots:=[.raw (.slice (some a) 0 c)]++fy 7 qA,heap:=[]}=some []:=by simp (config:={maxSteps:=100000000}) only[go_sem,fg,fi,e9,fa,fj,fk,fo,fp,fq,fb,fm,fw,f193,fc,mixed]
def wQ:Nat->(List kf)->Option (List kf)
 |0,_=>none
 |_+1,[]=>some []
 |n+1,x::xs=>(zf n).1 x xs
def M3: ∀(n:Nat)(a0:(List kf))(r:(List kf)),wQ n a0=some r->IR e8 193 [(nP kf.row).enc a0] (fun v=>v=(nP kf.row).enc r)
 |0,_,_,h=>by cases h
 |n+1,[],r,h=>by
  cases h
  exact atd fun base c=>by
   cases base with
   |none=>exact adv (M:=qo n) ⟨kj,ko,qS _,rq _,vg,vi,wM,wm⟩ func193 rfl rfl ⟨trivial,trivial⟩ ntmps193 results193 (fun σ hs=>Z9 (P:=e8) (rs:=[.tmp 2]) (t:=(nP kf.row)) (σ:=σ) hs) (M1 n c)
   |some a=>exact adv (M:=qo n) ⟨kj,ko,qS _,rq _,vg,vi,wM,wm⟩ func193 rfl rfl ⟨trivial,trivial⟩ ntmps193 results193 (fun σ hs=>Z9 (P:=e8) (rs:=[.tmp 2]) (t:=(nP kf.row)) (σ:=σ) hs) (M2 n a c)
 |n+1,x::xs,r,h=>by
  exact adv (M:=qo n) ⟨kj,ko,qS _,rq _,vg,vi,wM,wm⟩ func193 rfl rfl ⟨(nP kf.row).nb 0 _,trivial⟩ ntmps193 results193 (fun σ hs=>Z9 (P:=e8) (rs:=[.tmp 2]) (t:=(nP kf.row)) (σ:=σ) hs) (((zf n).2 x xs).trans h)
@[reducible] def zP:kU Int:=oI e8 f157 n (nH e8 [.tmp 2] (nq .i64)) (vf:=mg []) (vJ:=mg [])
@[go_sem]def XA:an5 (zP n) [0,1,1] [0,1,1,1]:=⟨jV,jV⟩
@[go_sem]def XB:Ej (zP n) [0,1,1] 3 12 7 12 9 12 10 12/\Py (zP n) [0,1,1] 11 12=true:=⟨⟨jV,jV,jV,jV⟩,jV⟩
def Em:NA (zP n) (zI jX.kH) 35:=mB
def nT:=fu fun n=>(Em n).1
def qW: ∀n:Nat,xm e8 157 (zI jX.kH) (nq .i64) (nT n):=Cb fun n=>zd (Em n) (gd kj ko) func157 ntmps157 results157
@[reducible] def PM:kU Tx:=oI e8 f158 n (nH e8 [.tmp 2] (akr 190 (zI (cL kg.row)))) (cut:=Y3 [([1,1],[0])])
def Ap:NA (PM n) (nP kg.row) 4:=mB
def Ce:=fu fun n=>(Ap n).1
def OH: ∀n:Nat,xm e8 158 (nP kg.row) (akr 190 (zI (cL kg.row))) (Ce n):=Cb fun n=>zd (Ap n) (gd kj ko) func158 ntmps158 results158
def oB:wy:=(avp [] (sub [0,1,0,1] ((f121.body).getD .skip)))
@[go_sem,go_sem]def Bc:oB.ps.size=2/\ ∀j:Int,pG oB.js j=none:=⟨jV,fun j=>(by show pG [] j=none;unfold pG aoH;cases (j==0)<;>rfl)⟩
def rI:=(mh (nq .i64) (mh (lM kg.kH) kP))
def kX:=(CH (aqy oB (aae 3 (lS 1 (alZ (lS 2 (aae 23 kP)))))) (CH (QV (alC Syntax.kH 8 kP)) (CH (QV (alC Syntax.kH 8 kP)) Fv)))
def mc:=(CH (ogL oB (aae 3 (lS 1 (alZ (lS 2 (aae 23 kP)))))) (CH (QV (alC Syntax.kH 8 kP)) (CH (QV (alC Syntax.kH 8 kP)) Fv)))
attribute [go_sem] rI kX mc
def l6:kU (Tp×(Bool×Unit)) where
 body:= .seq (aey (sub [0,1,0,1] ((f121.body).getD .skip))) (anL (sub [0,1,0,1] ((f121.body).getD .skip)))
 P:=e8
 cl:=nR []
 cd:=JB []
 rG:=q9 []
 cut:=Y3 []
 n:=n
 out:=(fun _=>none)
 nH:=aaj [] [] [0,1,2] 3 mc
 uR:=mg []
def OI:(l6 n).P=e8/\(l6 n).cl=nR []/\(l6 n).cd=JB []/\(l6 n).rG=q9 []/\(l6 n).cut=Y3 []/\(l6 n).n=n/\(l6 n).out=(fun _=>none)/\(l6 n).nH=aaj [] [] [0,1,2] 3 mc/\(l6 n).uR=mg []:=⟨rfl,rfl,rfl,rfl,rfl,rfl,rfl,rfl,rfl⟩
def OJ:(l6 n).body= .seq (aey (sub [0,1,0,1] ((f121.body).getD .skip))) (anL (sub [0,1,0,1] ((f121.body).getD .skip))):=rfl
def OK:Code.seq (aey (sub [0,1,0,1] ((f121.body).getD .skip))) (anL (sub [0,1,0,1] ((f121.body).getD .skip)))=Code.seq oB.assign oB.body:=jV
attribute [go_sem] OI OJ Bc
def zg:{B:Int->kg->Syntax->Syntax->Option (Tp×(Bool×Unit)) // ∀(a0:Int)(a1:kg)(o0:Syntax)(o1:Syntax),run (l6 n) [.at [0],.rb,.at [1],.rd] {slots:=Px ((aae 3 (lS 1 (alZ (lS 2 (aae 23 kP))))).enc (kX.lens ((),(o0,()),(o1,()),())) ()) [11,12] (rI.enc (kX.lens ((),(o0,()),(o1,()),())) (a0,a1,())),heap:=(kX.enc (kX.lens ((),(o0,()),(o1,()),())) ((),(o0,()),(o1,()),())),low:=(kX.enc (kX.lens ((),(o0,()),(o1,()),())) ((),(o0,()),(o1,()),())).length}=B a0 a1 o0 o1}:=mB
def Be:=fu fun n=>(zg n).1
def M4: ∀(n:Nat)(a0:Int)(a1:kg)(o0:Syntax)(o1:Syntax)(r:(Tp×(Bool×Unit))),Be n a0 a1 o0 o1=some r->FnT e8 (U2 e8) (rI.enc (kX.lens ((),(o0,()),(o1,()),())) (a0,a1,())) (kX.enc (kX.lens ((),(o0,()),(o1,()),())) ((),(o0,()),(o1,()),())) (fun o H'=>o= .ret (uE ((mh mX kP).enc (mc.lens r.1) r.2))/\H'=mc.enc (mc.lens r.1) r.1)
 |0,_,_,_,_,_,h=>by cases h
 |n+1,a0,a1,o0,o1,r,h=>by
  exact aoY (M:=l6 n) (lk:=oB) (slots:=((aae 3 (lS 1 (alZ (lS 2 (aae 23 kP))))).enc (kX.lens ((),(o0,()),(o1,()),())) ())) ⟨kj,ko,qS _,rq _,vg,vi,wM,wm⟩ OK (jV) ⟨jV,jV⟩ rfl (rn (fz (jQ (jV)) (fA (kX.sz _ _).symm)) _ (rI.nb _ _)) (fun x hx=>B6 (fz (jQ (jV)) (fA (kX.sz _ _).symm)) _ (kX.nb _ _ x hx)) (fun e σ hs=>akN (js:=[]) (pos:=[]) (base:=[0,1,2]) (low:=3) (os:=mc) (e:=e) (σ:=σ) (r:=r) (by rfl) hs) (((zg n).2 a0 a1 o0 o1).trans h)
@[reducible] def Lr:kU TI:=oI e8 f289 n (CT e8 [] [] [0,1] 2 kZ kP)
def wR:{B:jX->Option TI // ∀(o0:jX),run (Lr n) [.at []] (ait (lS 0 kP) kZ ((),(o0,()),()) () 8)=B o0}:=mB
def pu:=fu fun n=>(wR n).1
def Kw: ∀(n:Nat)(o0:jX)(r:TI),pu n o0=some r->SD e8 289 (lS 0 kP) kZ ((),(o0,()),()) () kZ kP r
 |0,_,_,h=>by cases h
 |n+1,o0,r,h=>by
  exact okD (((wR n).2 o0).trans h) (gd kj ko) func289 ntmps289 results289
open Go.Proofs
@[go_sem]def G4:yd:=⟨[],[],(zT (nP nO)::zK::mN (zA::zK::zK::mN (mN (zA::zA::[])))),[],none,none⟩
@[reducible] def Ig:kU Int:=oI e8 f216 n (nH e8 [.tmp 4] (nq .i64)) (rG:=q9 [([0,1,0,1],G4)])
@[go_sem]abbrev G5(v0:List Str)(v1:Str)(v2 v3:Int):jZ:=⟨(.mb false 1 (mp nB v0):: .str (sb v1)::mY (qA:: .int .i64 v2:: .int .i64 v3::mY (mY (qA::qA::[])))),[],0,[]⟩
abbrev G6:=(List Str)->Str->Int->Int->Option Int
abbrev Ru(K:List Kt)(Z:G6):Prop:= ∀v0 v1 v2 v3,run (Ig n) K (G5 v0 v1 v2 v3)=Z v0 v1 v2 v3
def tQ:LB (Ru n) [0,1,0,1] [.blk 0,.cut [1,1],.at [1,1]]:=mB
def wS:Nat->G6:=yC ((tQ n).1)
def EH{n:Nat}:wS n (m+1)=(tQ n).1 (wS n m):=rfl
@[go_sem]def M5(m:Nat):=BK (tQ n) (wS n) m
def Cf:SC2 (Ig n) (nP nO) mI 19:=mB
def zQ:=fu fun n=>(Cf n).1
def Rv: ∀n:Nat,GO e8 216 (nP nO) mI (nq .i64) (zQ n):=LX fun n=>Ks (Cf n) (gd kj ko) func216 ntmps216 results216
@[go_sem]def kw:=(CH (QV (lS 4 kP)) (CH (QV (alC Syntax.kH 8 kP)) (CH (QV (alC (cI .i64) 1 kP)) (CH (QV (alC (cI .i64) 1 kP)) (CH (QV (lS 5 (mh (nP Syntax.row) (mh (nq .i64) kP)))) (CH (QV (ZE 6 (ZE 7 (ZE 8 (mh (nq .i64) kP))))) (CH (afY (lM jY.kH)) (CH (afY (lM jY.kH)) (CH ogM Fv)))))))))
@[reducible] def pO:kU (Tf×Unit):=oI e8 f198 n (CT e8 [] [] [0,1,2,3,4,5,6,7,8] 9 kw kP)
def Cg:{B:Syntax->Int->Int->(List Syntax)->Int->Int->Td->Td->T9->Option (Tf×Unit) // ∀(o0:Syntax)(o1:Int)(o2:Int)(o3:(List Syntax))(o4:Int)(o5:Int)(o6:Td)(o7:Td)(o8:T9),run (pO n) [.ops (rj (pO n) [0]) ((rj (pO n) [0]).toList.drop 1),.cut [1],.at [1]] (jZ.put {slots:=((lS 0 (lS 1 (lS 2 (lS 3 kP)))).enc (kw.lens ((),(o0,()),(o1,()),(o2,()),(o3,o4,()),(o5,()),o6,o7,o8,())) ())++fy (23-((lS 0 (lS 1 (lS 2 (lS 3 kP)))).enc (kw.lens ((),(o0,()),(o1,()),(o2,()),(o3,o4,()),(o5,()),o6,o7,o8,())) ()).length) qA,heap:=(kw.enc (kw.lens ((),(o0,()),(o1,()),(o2,()),(o3,o4,()),(o5,()),o6,o7,o8,())) ((),(o0,()),(o1,()),(o2,()),(o3,o4,()),(o5,()),o6,o7,o8,())),low:=(kw.enc (kw.lens ((),(o0,()),(o1,()),(o2,()),(o3,o4,()),(o5,()),o6,o7,o8,())) ((),(o0,()),(o1,()),(o2,()),(o3,o4,()),(o5,()),o6,o7,o8,())).length} (some 7) (.raw .nilIface))=B o0 o1 o2 o3 o4 o5 o6 o7 o8}:=mB
def wB:=fu fun n=>(Cg n).1
def Rw: ∀(n:Nat)(o0:Syntax)(o1:Int)(o2:Int)(o3:(List Syntax))(o4:Int)(o5:Int)(o6:Td)(o7:Td)(o8:T9)(r:(Tf×Unit)),wB n o0 o1 o2 o3 o4 o5 o6 o7 o8=some r->FnT e8 (afO e8 198) ((lS 0 (lS 1 (lS 2 (lS 3 kP)))).enc (kw.lens ((),(o0,()),(o1,()),(o2,()),(o3,o4,()),(o5,()),o6,o7,o8,())) ()) (kw.enc (kw.lens ((),(o0,()),(o1,()),(o2,()),(o3,o4,()),(o5,()),o6,o7,o8,())) ((),(o0,()),(o1,()),(o2,()),(o3,o4,()),(o5,()),o6,o7,o8,())) (fun o H'=>o=(enR kw kP r).1/\H'=(enR kw kP r).2)
 |0,_,_,_,_,_,_,_,_,_,_,h=>by cases h
 |n+1,o0,o1,o2,o3,o4,o5,o6,o7,o8,r,h=>by
  exact aap (M:=pO n) (p1:=[]) (b1:=[0,1,2,3,4,5,6,7,8]) (args:=((lS 0 (lS 1 (lS 2 (lS 3 kP)))).enc (kw.lens ((),(o0,()),(o1,()),(o2,()),(o3,o4,()),(o5,()),o6,o7,o8,())) ())) ⟨kj,ko,qS _,rq _,vg,vi,wM,wm⟩ func198 rfl (jV) (rn (fz (jQ (jV)) (fA (kw.sz _ _).symm)) _ ((lS 0 (lS 1 (lS 2 (lS 3 kP)))).nb (kw.lens ((),(o0,()),(o1,()),(o2,()),(o3,o4,()),(o5,()),o6,o7,o8,())) ())) (fun x hx=>B6 (fz (jQ (jV)) (fA (kw.sz _ _).symm)) _ (kw.nb _ _ x hx)) ntmps198 results198 (low:=9) (by rfl) rfl (((Cg n).2 o0 o1 o2 o3 o4 o5 o6 o7 o8).trans h)
@[go_sem]def rz:=(lS 0 (lS 1 (lS 2 (lS 3 (mh (Oq 202 Vk) kP)))))
def Ch:{B:Unit->Syntax->Int->Int->(List Syntax)->Int->Int->Td->Td->T9->Option (Tf×Unit) // ∀(a0:Unit)(o0:Syntax)(o1:Int)(o2:Int)(o3:(List Syntax))(o4:Int)(o5:Int)(o6:Td)(o7:Td)(o8:T9),run (pO n) [.ops (rj (pO n) [0]) ((rj (pO n) [0]).toList.drop 1),.cut [1],.at [1]] (jZ.put {slots:=((lS 0 (lS 1 (lS 2 (lS 3 kP)))).enc (kw.lens ((),(o0,()),(o1,()),(o2,()),(o3,o4,()),(o5,()),o6,o7,o8,())) ())++fy (23-((lS 0 (lS 1 (lS 2 (lS 3 kP)))).enc (kw.lens ((),(o0,()),(o1,()),(o2,()),(o3,o4,()),(o5,()),o6,o7,o8,())) ()).length) qA,heap:=(kw.enc (kw.lens ((),(o0,()),(o1,()),(o2,()),(o3,o4,()),(o5,()),o6,o7,o8,())) ((),(o0,()),(o1,()),(o2,()),(o3,o4,()),(o5,()),o6,o7,o8,())),low:=(kw.enc (kw.lens ((),(o0,()),(o1,()),(o2,()),(o3,o4,()),(o5,()),o6,o7,o8,())) ((),(o0,()),(o1,()),(o2,()),(o3,o4,()),(o5,()),o6,o7,o8,())).length} (some 7) ((Oq 202 Vk).enc a0))=B a0 o0 o1 o2 o3 o4 o5 o6 o7 o8}:=mB
def ui:=fu fun n=>(Ch n).1
def Rx: ∀(n:Nat)(a0:Unit)(o0:Syntax)(o1:Int)(o2:Int)(o3:(List Syntax))(o4:Int)(o5:Int)(o6:Td)(o7:Td)(o8:T9)(r:(Tf×Unit)),ui n a0 o0 o1 o2 o3 o4 o5 o6 o7 o8=some r->FnT e8 (afP e8 198) (rz.enc (kw.lens ((),(o0,()),(o1,()),(o2,()),(o3,o4,()),(o5,()),o6,o7,o8,())) (a0,())) (kw.enc (kw.lens ((),(o0,()),(o1,()),(o2,()),(o3,o4,()),(o5,()),o6,o7,o8,())) ((),(o0,()),(o1,()),(o2,()),(o3,o4,()),(o5,()),o6,o7,o8,())) (fun o H'=>o=(enR kw kP r).1/\H'=(enR kw kP r).2)
 |0,_,_,_,_,_,_,_,_,_,_,_,h=>by cases h
 |n+1,a0,o0,o1,o2,o3,o4,o5,o6,o7,o8,r,h=>by
  exact aao (M:=pO n) (p1:=[]) (b1:=[0,1,2,3,4,5,6,7,8]) (args:=((lS 0 (lS 1 (lS 2 (lS 3 kP)))).enc (kw.lens ((),(o0,()),(o1,()),(o2,()),(o3,o4,()),(o5,()),o6,o7,o8,())) ())) (x:=(Oq 202 Vk).enc a0) ⟨kj,ko,qS _,rq _,vg,vi,wM,wm⟩ func198 rfl (jV) (rn (fz (jQ (jV)) (fA (kw.sz _ _).symm)) _ (rz.nb (kw.lens ((),(o0,()),(o1,()),(o2,()),(o3,o4,()),(o5,()),o6,o7,o8,())) (a0,()))) (fun x hx=>B6 (fz (jQ (jV)) (fA (kw.sz _ _).symm)) _ (kw.nb _ _ x hx)) ntmps198 results198 (low:=9) (by rfl) rfl (((Ch n).2 a0 o0 o1 o2 o3 o4 o5 o6 o7 o8).trans h)
@[go_sem]def k8:=(CH (QV (ZE 1 (ZE 2 (ZE 3 (mh (nq .i64) kP))))) (CH (afY (lM jY.kH)) (CH (afY (lM jY.kH)) (CH ogM Fv))))
@[go_sem]abbrev zR(F:Option (T7×Unit))(b:Unit)(a:Unit):=F
@[go_sem]def KT(F:Option (T7×Unit)):=aag [] Fv kP k8 (lS 0 kP) (zR F)
@[reducible] def XC:kU (T7×Unit):=oI e8 f218 n (CT e8 [.tmp 0] [.arg 0 [],.obj 0 0 [],.obj 0 1 [],.obj 0 2 []] [] 0 k8 (lS 0 kP))
def En:SX (XC n) kP Fv 6 zR:=mC
def CA:=fu fun n=>(En n).1
def Vu: ∀n:Nat,Xt e8 218 kP Fv k8 (lS 0 kP) (zR (CA n)):=abw fun n=>abv (En n) (gd kj ko) func218 ntmps218 results218
@[reducible] def ac0:kU Bool:=oI e8 f244 n (nH e8 [.tmp 2] mX)
def Kx:NA (ac0 n) (lM jY.kH) 8:=mB
def zh:=fu fun n=>(Kx n).1
def DO: ∀n:Nat,xm e8 244 (lM jY.kH) mX (zh n):=Cb fun n=>zd (Kx n) (gd kj ko) func244 ntmps244 results244
@[reducible] def abD:kU Bool:=oI e8 f245 n (nH e8 [.tmp 2] mX)
def IY:NA (abD n) (lM jY.kH) 12:=mB
def Aq:=fu fun n=>(IY n).1
def G7: ∀n:Nat,xm e8 245 (lM jY.kH) mX (Aq n):=Cb fun n=>zd (IY n) (gd kj ko) func245 ntmps245 results245
open Go.Proofs
@[reducible] def af5:kU Bool:=oI e8 f270 n (nH e8 [.tmp 2] mX)
def OM:NA (af5 n) (nq .u8) 21:=mB
def NO:=fu fun n=>(OM n).1
def aeM: ∀n:Nat,xm e8 270 (nq .u8) mX (NO n):=Cb fun n=>zd (OM n) (gd kj ko) func270 ntmps270 results270
@[go_sem]def kv:=(CH (QV (lS 1 (mh (nP Syntax.row) (mh (nq .i64) kP)))) (CH (QV (ZE 2 (ZE 3 (ZE 4 (mh (nq .i64) kP))))) (CH (afY (lM jY.kH)) (CH (afY (lM jY.kH)) (CH ogM Fv)))))
@[go_sem]abbrev u6(F:(List Syntax)->Int->Int->Td->Td->T9->Option TQ)(b:Ta)(a:Unit):=F b.1.1 b.1.2.1 b.2.1.1 b.2.2.1 b.2.2.2.1 b.2.2.2.2.1
@[go_sem]def zi(F:(List Syntax)->Int->Int->Td->Td->T9->Option TQ):=aag [.arg 0 [],.obj 0 0 [],.obj 1 0 [],.obj 1 1 [],.obj 1 2 []] kv (lS 0 kP) kv (mh mI (mh mX kP)) (u6 F)
@[reducible] def EI:kU TQ:=oI e8 f221 n (CT e8 [.tmp 2,.tmp 3] [] [0,1,2,3,4] 5 kv (mh mI (mh mX kP))) (vf:=mg []) (vJ:=mg [])
@[go_sem]def ON:an5 (EI n) [0,0,1] [0,1,1]:=⟨jV,jV⟩
def zj:SX (EI n) (lS 0 kP) kv 39 u6:=mC
def tR:=fu fun n=>(zj n).1
def D0: ∀n:Nat,Xt e8 221 (lS 0 kP) kv kv (mh mI (mh mX kP)) (u6 (tR n)):=abw fun n=>abv (zj n) (gd kj ko) func221 ntmps221 results221
@[reducible] def M6:kU Bool:=oI e8 f165 n (nH e8 [.tmp 4] mX)
def yo:SC2 (M6 n) (lM kI.kH) mI 14:=mB
def vR:=fu fun n=>(yo n).1
def L2: ∀n:Nat,GO e8 165 (lM kI.kH) mI mX (vR n):=LX fun n=>Ks (yo n) (gd kj ko) func165 ntmps165 results165
@[go_sem]def Vv:yd:=⟨[],[],(zA::zK::zK::zA::zA::zK::mL (mN (mN (mN (zA::[]))))),[oT Syntax.kH],none,none⟩
@[reducible] def Yh(X:Syntax->Int->Option Int)(n:Nat):kU Int:=oI e8 f18 n (nH e8 [.tmp 4] (nq .i64)) (cl:=nR [(18,uC (lM Syntax.kH) (nq .i64) (nq .i64) X)]) (rG:=q9 [([0,1,0,1,1],Vv)])
@[go_sem]abbrev Vw(v0 v1:Int)(o0:Syntax):jZ:=⟨(qA:: .int .i64 v0:: .ptr 0 0::qA::qA:: .int .i64 v1::mQ (mY (mY (mY (qA::[]))))),[.cells (Syntax.cells o0)],0,[]⟩
abbrev Vx:=Int->Int->Syntax->Option Int
abbrev aeN(X:Syntax->Int->Option Int)(n:Nat)(K:List Kt)(Z:Vx):Prop:= ∀v0 v1 o0,run (Yh X n) K (Vw v0 v1 o0)=Z v0 v1 o0
def xA(X:Syntax->Int->Option Int)(n:Nat):LB (aeN X n) [0,1,0,1,1] [.blk 0,.cut [1,1,1],.at [1,1,1]]:=mB
def xB(X:Syntax->Int->Option Int)(n:Nat):Nat->Vx:=yC ((xA X n).1)
def DP(X:Syntax->Int->Option Int){n:Nat}:xB X n (m+1)=(xA X n).1 (xB X n m):=rfl
@[go_sem]def aav(X:Syntax->Int->Option Int)(n:Nat)(m:Nat):=BK (xA X n) (xB X n) m
def Jk(X:Syntax->Int->Option Int)(n:Nat):SC2 (Yh X n) (lM Syntax.kH) (nq .i64) 35:=mB
def qX:Nat->Syntax->Int->Option Int
 |0,_,_=>none
 |n+1,a0,a1=>(Jk (qX n) n).1 a0 a1
def L3: ∀n:Nat,GO e8 18 (lM Syntax.kH) (nq .i64) (nq .i64) (qX n)
 |0=>fun _ _ _ h=>(by cases h)
 |n+1=>by
  have aeO:=L3 n;exact Ks (Jk (qX n) n) (gd (ke (pJ (aeO)) kj) ko) func18 ntmps18 results18
@[go_sem]def Vy:yd:=⟨[],[],(zA::zK::zA::zK::zK::mL (mL (mL (mN (mN (mN (zA::zA::[]))))))),[oT Syntax.kH],none,none⟩
@[reducible] def Yi(X:Syntax->Option Bool)(n:Nat):kU Bool:=oI e8 f24 n (nH e8 [.tmp 2] mX) (cl:=nR [(24,ny (lM Syntax.kH) mX X)]) (rG:=q9 [([0,1,0,1,1,1],Vy)])
@[go_sem]abbrev Vz(v0 v1:Int)(o0:Syntax):jZ:=⟨(qA:: .ptr 0 0::qA:: .int .i64 v0:: .int .i64 v1::mQ (mQ (mQ (mY (mY (mY (qA::qA::[]))))))),[.cells (Syntax.cells o0)],0,[]⟩
abbrev VA:=Int->Int->Syntax->Option Bool
abbrev aeP(X:Syntax->Option Bool)(n:Nat)(K:List Kt)(Z:VA):Prop:= ∀v0 v1 o0,run (Yi X n) K (Vz v0 v1 o0)=Z v0 v1 o0
def CV(X:Syntax->Option Bool)(n:Nat):LB (aeP X n) [0,1,0,1,1,1] [.blk 1,.cut [1,1,1,1],.at [1,1,1,1]]:=mB
def Ar(X:Syntax->Option Bool)(n:Nat):Nat->VA:=yC ((CV X n).1)
def PN(X:Syntax->Option Bool){n:Nat}:Ar X n (m+1)=(CV X n).1 (Ar X n m):=rfl
@[go_sem]def aaw(X:Syntax->Option Bool)(n:Nat)(m:Nat):=BK (CV X n) (Ar X n) m
def OO(X:Syntax->Option Bool)(n:Nat):NA (Yi X n) (lM Syntax.kH) 67:=mB
def oU:Nat->Syntax->Option Bool
 |0,_=>none
 |n+1,a0=>(OO (oU n) n).1 a0
def VB: ∀n:Nat,xm e8 24 (lM Syntax.kH) mX (oU n)
 |0=>fun _ _ h=>(by cases h)
 |n+1=>by
  have aeQ:=VB n;exact zd (OO (oU n) n) (gd (ke (lF (aeQ)) kj) ko) func24 ntmps24 results24
@[reducible] def ac1(X:Int->Option Str)(n:Nat):kU Str:=oI e8 f51 n (nH e8 [.tmp 2] mI) (cl:=nR [(51,ny (nq .i64) mI X)])
def Ky(X:Int->Option Str)(n:Nat):NA (ac1 X n) (nq .i64) 16:=mB
def xh:Nat->Int->Option Str
 |0,_=>none
 |n+1,a0=>(Ky (xh n) n).1 a0
def DQ: ∀n:Nat,xm e8 51 (nq .i64) mI (xh n)
 |0=>fun _ _ h=>(by cases h)
 |n+1=>by
  have abE:=DQ n;exact zd (Ky (xh n) n) (gd (ke (lF (abE)) kj) ko) func51 ntmps51 results51
open Go.Proofs
@[go_sem]def G8:yd:=⟨[],[],(zT (nP nO)::zT (nP nO)::mN (mN (zA::zA::zK::zK::mN (mN (mN []))))),[],none,none⟩
@[reducible] def Ci:kU Bool:=oI e8 f41 n (nH e8 [.tmp 4] mX) (rG:=q9 [([0,1,0,1,1],G8)]) (vf:=mg []) (vJ:=mg [])
@[go_sem]def Uk:tM (Ci n) [0,1,0,0,1,1,0,0,1,0,1,1]=true:=jV
@[go_sem]abbrev G9(v0 v1:List Str)(v2 v3:Int):jZ:=⟨(.mb false 1 (mp nB v0):: .mb false 1 (mp nB v1)::mY (mY (qA::qA:: .int .i64 v2:: .int .i64 v3::mY (mY (mY []))))),[],0,[]⟩
abbrev He:=(List Str)->(List Str)->Int->Int->Option Bool
abbrev Ry(K:List Kt)(Z:He):Prop:= ∀v0 v1 v2 v3,run (Ci n) K (G9 v0 v1 v2 v3)=Z v0 v1 v2 v3
def tS:LB (Ry n) [0,1,0,1,1] [.blk 0,.cut [1,1,1],.at [1,1,1]]:=mB
def tT:Nat->He:=yC ((tS n).1)
def EJ{n:Nat}:tT n (m+1)=(tS n).1 (tT n m):=rfl
@[go_sem]def M7(m:Nat):=BK (tS n) (tT n) m
def Cj:SC2 (Ci n) (nP nO) (nP nO) 26:=mB
def zU:=fu fun n=>(Cj n).1
def Rz: ∀n:Nat,GO e8 41 (nP nO) (nP nO) mX (zU n):=LX fun n=>Ks (Cj n) (gd kj ko) func41 ntmps41 results41
@[go_sem]def D1:yd:=⟨[],[],(zT (nP kf.row)::zT (nP kf.row)::mN (mN (zA::zA::zK::zK::mN (mN (mN []))))),[],none,none⟩
@[reducible] def zk:kU Bool:=oI e8 f83 n (nH e8 [.tmp 4] mX) (rG:=q9 [([0,1,0,1,1],D1)]) (vf:=mg []) (vJ:=mg [])
@[go_sem]def OP:tM (zk n) [0,1,0,0,1,1,0,0,1,0,1,1]=true:=jV
@[go_sem]abbrev D2(v0 v1:List kf)(v2 v3:Int):jZ:=⟨(.mb false 2 (mp kf.cells v0):: .mb false 2 (mp kf.cells v1)::mY (mY (qA::qA:: .int .i64 v2:: .int .i64 v3::mY (mY (mY []))))),[],0,[]⟩
abbrev D3:=(List kf)->(List kf)->Int->Int->Option Bool
abbrev M8(K:List Kt)(Z:D3):Prop:= ∀v0 v1 v2 v3,run (zk n) K (D2 v0 v1 v2 v3)=Z v0 v1 v2 v3
def rJ:LB (M8 n) [0,1,0,1,1] [.blk 0,.cut [1,1,1],.at [1,1,1]]:=mB
def rK:Nat->D3:=yC ((rJ n).1)
def CB{n:Nat}:rK n (m+1)=(rJ n).1 (rK n m):=rfl
@[go_sem]def Kz(m:Nat):=BK (rJ n) (rK n) m
def zl:SC2 (zk n) (nP kf.row) (nP kf.row) 26:=mB
def wT:=fu fun n=>(zl n).1
def M9: ∀n:Nat,GO e8 83 (nP kf.row) (nP kf.row) mX (wT n):=LX fun n=>Ks (zl n) (gd kj ko) func83 ntmps83 results83
@[go_sem]def L4:yd:=⟨[],[],(zT (nP nO)::zT (nP nO)::zA::zA::zA::zK::mL (mN [])),[],none,none⟩
@[reducible] def Hf:kU Bool:=oI e8 f40 n (nH e8 [.tmp 4] mX) (rG:=q9 [([0,1,0,1,1],L4)]) (vf:=mg []) (vJ:=mg [])
@[go_sem]def aax:tM (Hf n) [0,0,0,1,0,0,1,0,1,1]=true:=jV
@[go_sem]abbrev L5(v0 v1:List Str)(v2:Int):jZ:=⟨(.mb false 1 (mp nB v0):: .mb false 1 (mp nB v1)::qA::qA::qA:: .int .i64 v2::mQ (mY [])),[],0,[]⟩
abbrev L6:=(List Str)->(List Str)->Int->Option Bool
abbrev Y9(K:List Kt)(Z:L6):Prop:= ∀v0 v1 v2,run (Hf n) K (L5 v0 v1 v2)=Z v0 v1 v2
def xC:LB (Y9 n) [0,1,0,1,1] [.blk 0,.cut [1,1,1],.at [1,1,1]]:=mB
def xD:Nat->L6:=yC ((xC n).1)
def JP{n:Nat}:xD n (m+1)=(xC n).1 (xD n m):=rfl
@[go_sem]def Ul(m:Nat):=BK (xC n) (xD n) m
def Hg:SC2 (Hf n) (nP nO) (nP nO) 26:=mB
def Fh:=fu fun n=>(Hg n).1
def Za: ∀n:Nat,GO e8 40 (nP nO) (nP nO) mX (Fh n):=LX fun n=>Ks (Hg n) (gd kj ko) func40 ntmps40 results40
open Go.Proofs
@[reducible] def aeR:kU Bool:=oI e8 f84 n (nH e8 [.tmp 2] mX) (cl:=nR [(134,ny (nq .u8) mX (Lo n))])
def L7:NA (aeR n) (nq .u8) 9:=mB
def Hh:=fu fun n=>(L7 n).1
def SN: ∀n:Nat,xm e8 84 (nq .u8) mX (Hh n):=Cb fun n=>zd (L7 n) (gd (ke (lF (acX n)) kj) ko) func84 ntmps84 results84
@[go_sem]def Yj:yd:=⟨[],[],(zK::zA::zA::zK::zK::mL (mL (mN (mN [])))),[],none,none⟩
@[reducible] def aay:kU Bool:=oI e8 f146 n (nH e8 [.tmp 2] mX) (cl:=nR [(182,ny (nq .u8) mX (Lp n))]) (rG:=q9 [([0,1,0,1,1,1],Yj)])
@[go_sem]abbrev Yk(v0:Str)(v1:Bool)(v2:Int):jZ:=⟨(.str (sb v0)::qA::qA:: .bool v1:: .int .i64 v2::mQ (mQ (mY (mY [])))),[],0,[]⟩
abbrev Yl:=Str->Bool->Int->Option Bool
abbrev af6(K:List Kt)(Z:Yl):Prop:= ∀v0 v1 v2,run (aay n) K (Yk v0 v1 v2)=Z v0 v1 v2
def EK:LB (af6 n) [0,1,0,1,1,1] [.blk 0,.cut [1,1,1,1],.at [1,1,1,1]]:=mB
def EL:Nat->Yl:=yC ((EK n).1)
def SO{n:Nat}:EL n (m+1)=(EK n).1 (EL n m):=rfl
@[go_sem]def abF(m:Nat):=BK (EK n) (EL n) m
def RA:NA (aay n) mI 45:=mB
def RB:=fu fun n=>(RA n).1
def af7: ∀n:Nat,xm e8 146 mI mX (RB n):=Cb fun n=>zd (RA n) (gd (ke (lF (acY n)) kj) ko) func146 ntmps146 results146
@[reducible] def aiy:kU Str:=oI e8 f117 n (nH e8 [.tmp 2] mI) (cl:=nR [(116,ny (lM jY.kH) mX (A8 n))])
def RC:NA (aiy n) (lM jY.kH) 13:=mB
def IZ:=fu fun n=>(RC n).1
def Ym: ∀n:Nat,xm e8 117 (lM jY.kH) mI (IZ n):=Cb fun n=>zd (RC n) (gd (ke (lF (EG n)) kj) ko) func117 ntmps117 results117
@[go_sem]def VC:yd:=⟨[],[],(zA::zK::zK::zA::zA::zA::zK::mL (zA::[])),[oT jY.kH],none,none⟩
@[reducible] def Yn:kU Bool:=oI e8 f147 n (nH e8 [.tmp 4] mX) (cl:=nR [(116,ny (lM jY.kH) mX (A8 n))]) (rG:=q9 [([0,1,0,1,1,1],VC)])
@[go_sem]abbrev VD(v0:Str)(v1:Int)(o0:jY):jZ:=⟨(qA:: .str (sb v0):: .ptr 0 0::qA::qA::qA:: .int .i64 v1::mQ (qA::[])),[.cells (jY.cells o0)],0,[]⟩
abbrev VE:=Str->Int->jY->Option Bool
abbrev aeS(K:List Kt)(Z:VE):Prop:= ∀v0 v1 o0,run (Yn n) K (VD v0 v1 o0)=Z v0 v1 o0
def CW:LB (aeS n) [0,1,0,1,1,1] [.blk 0,.cut [1,1,1,1],.at [1,1,1,1]]:=mB
def As:Nat->VE:=yC ((CW n).1)
def PO{n:Nat}:As n (m+1)=(CW n).1 (As n m):=rfl
@[go_sem]def aaz(m:Nat):=BK (CW n) (As n) m
def OQ:SC2 (Yn n) (lM jY.kH) mI 24:=mB
def JQ:=fu fun n=>(OQ n).1
def aeT: ∀n:Nat,GO e8 147 (lM jY.kH) mI mX (JQ n):=LX fun n=>Ks (OQ n) (gd (ke (lF (EG n)) kj) ko) func147 ntmps147 results147
@[go_sem]def uj:=(lS 0 (lS 1 (lS 2 (mh (Oq 66 (lM kr.kH)) kP))))
@[reducible] def sN:kU (Tg×Unit):=oI e8 f31 n (CT e8 [] [] [0,1,2] 3 kz kP) (cl:=nR [(32,SM (Jj n))]) (vf:=mg []) (vJ:=mg [])
@[go_sem]def Zb:tM (sN n) [1,0,1,1]=true:=jV
@[go_sem]def Zd:Ej (sN n) [1,0,1,1] 2 6 5 6 2 7 4 7/\aqN (sN n) [1,0,1,1] 5 7 6 7:=⟨⟨jV,jV,jV,jV⟩,jV,jV⟩
def Bf:{B:kr->Syntax->Int->Int->Option (Tg×Unit) // ∀(a0:kr)(o0:Syntax)(o1:Int)(o2:Int),run (sN n) [.ops (rj (sN n) [0]) ((rj (sN n) [0]).toList.drop 1),.cut [1],.at [1]] (jZ.put {slots:=((lS 0 (lS 1 (lS 2 kP))).enc (kz.lens ((o0,()),(o1,()),(o2,()),())) ())++fy (15-((lS 0 (lS 1 (lS 2 kP))).enc (kz.lens ((o0,()),(o1,()),(o2,()),())) ()).length) qA,heap:=(kz.enc (kz.lens ((o0,()),(o1,()),(o2,()),())) ((o0,()),(o1,()),(o2,()),())),low:=(kz.enc (kz.lens ((o0,()),(o1,()),(o2,()),())) ((o0,()),(o1,()),(o2,()),())).length} (some 5) ((Oq 66 (lM kr.kH)).enc a0))=B a0 o0 o1 o2}:=mB
def rA:=fu fun n=>(Bf n).1
def XD: ∀(n:Nat)(a0:kr)(o0:Syntax)(o1:Int)(o2:Int)(r:(Tg×Unit)),rA n a0 o0 o1 o2=some r->FnT e8 (afP e8 31) (uj.enc (kz.lens ((o0,()),(o1,()),(o2,()),())) (a0,())) (kz.enc (kz.lens ((o0,()),(o1,()),(o2,()),())) ((o0,()),(o1,()),(o2,()),())) (fun o H'=>o=(enR kz kP r).1/\H'=(enR kz kP r).2)
 |0,_,_,_,_,_,h=>by cases h
 |n+1,a0,o0,o1,o2,r,h=>by
  exact aao (M:=sN n) (p1:=[]) (b1:=[0,1,2]) (args:=((lS 0 (lS 1 (lS 2 kP))).enc (kz.lens ((o0,()),(o1,()),(o2,()),())) ())) (x:=(Oq 66 (lM kr.kH)).enc a0) ⟨(ke (Cu (abC n)) kj),ko,qS _,rq _,vg,vi,wM,wm⟩ func31 rfl (jV) (rn (fz (jQ (jV)) (fA (kz.sz _ _).symm)) _ (uj.nb (kz.lens ((o0,()),(o1,()),(o2,()),())) (a0,()))) (fun x hx=>B6 (fz (jQ (jV)) (fA (kz.sz _ _).symm)) _ (kz.nb _ _ x hx)) ntmps31 results31 (low:=3) (by rfl) rfl (((Bf n).2 a0 o0 o1 o2).trans h)
@[go_sem]def Hi:yd:=⟨[],[],(zK::zT (zI cS)::zA::zK::zK::mL (mL (mL (zA::zA::zA::[])))),[oL [zA,zK,zA,zA,zA,zA,zA,zA,zA],oC [zK],oK],none,none⟩
@[go_sem]abbrev xR(F:Str->T9->Option (Tw×Unit))(b:(Unit×(Unit×(T9×Unit))))(a:(Str×Unit)):=F a.1 b.2.2.1
@[go_sem]def Ih(F:Str->T9->Option (Tw×Unit)):=aag [.arg 0 [],.obj 0 1 [],.obj 1 0 []] kN (ZE 0 (mh (zI cS) kP)) lD kP (xR F)
@[reducible] def Ii:kU (Tw×Unit):=oI e8 f207 n (CT e8 [] [] [0,1,2] 3 lD kP) (rG:=q9 [([0,1,0,1],Hi)]) (cy:=akL [(0,asJ [.obj 0 1 [],.obj 1 0 []] kN (mh mI kP) lD (mh mX kP) (fun(b:(Unit×(Unit×(T9×Unit))))(a:(Str×Unit))=>(Cw n) a.1 b.2.2.1))])
@[go_sem]abbrev Hj(v0:Str)(v1 v2 j0:Int)(r2:List (Str×Bool)):jZ:=⟨(.map 0:: .pp [.str (sb v0)]::qA:: .int .i64 v1:: .int .i64 v2::mQ (mQ (mQ (qA::qA::qA::[])))),[.loop mD [qA,.ptr 1 0,qA,qA,qA,qA,qA,qA,qA] (stJ mD j0) j0,.cells [.map 2],.map (mp DG r2)],3,[]⟩
abbrev Hl:=Str->Int->Int->Int->T9->Option (Tw×Unit)
abbrev RD(K:List Kt)(Z:Hl):Prop:= ∀v0 v1 v2 j0 r2,run (Ii n) K (Hj v0 v1 v2 j0 r2)=Z v0 v1 v2 j0 r2
def Bg:LB (RD n) [0,1,0,1] [.blk 0,.cut [1,1],.at [1,1]]:=mB
def Bh:Nat->Hl:=yC ((Bg n).1)
def af8{n:Nat}:Bh n (m+1)=(Bg n).1 (Bh n m):=rfl
@[go_sem]def Na(m:Nat):=BK (Bg n) (Bh n) m
def Ij:SX (Ii n) (ZE 0 (mh (zI cS) kP)) kN 56 xR:=mC
def KU:=fu fun n=>(Ij n).1
def RE: ∀n:Nat,Xt e8 207 (ZE 0 (mh (zI cS) kP)) kN lD kP (xR (KU n)):=abw fun n=>abv (Ij n) (gd kj ko (y:=(aah (fun _ _ _ _ _ h=>ao5 (fun b a r h=>(IX n) a.1 b.2.2.1 r h) h) acl))) func207 ntmps207 results207
open Go.Proofs
@[reducible] def aeU:kU Bool:=oI e8 f184 n (nH e8 [.tmp 2] mX) (cl:=nR [(156,ny (nq .u8) (nq .i64) (AW n))])
def L8:NA (aeU n) (nq .u8) 15:=mB
def wU:=fu fun n=>(L8 n).1
def KA: ∀n:Nat,xm e8 184 (nq .u8) mX (wU n):=Cb fun n=>zd (L8 n) (gd (ke (lF (CU n)) kj) ko) func184 ntmps184 results184
@[reducible] def af9:kU (List Str):=oI e8 f150 n (nH e8 [.tmp 0] (nP nO)) (cl:=nR [(186,ny mI (nP nO) (Vt n))])
def Yo:SC0 (af9 n) 2:=mB
def JR:=fu fun n=>(Yo n).1
def VF: ∀n:Nat,aqP e8 150 (nP nO) (JR n):=azt fun n=>azs (Yo n) (gd (ke (lF (aau n)) kj) ko) func150 ntmps150 results150
def JS:yd:=⟨[],[],(wv (wv (mL (mL (mN (mN (mN (zA::zA::zA::zK::mN (mN (zA::zA::zA::[])))))))))),[oK],none,none⟩
def JT:yd:=⟨[],[],(zK::mN (zA::zA::zK::zK::zK::zA::zA::zK::wv (wv (mL (mL (mN (mN (mN (zA::zA::[]))))))))),[],none,none⟩
def JU:yd:=⟨[],[],(zK::mN (zA::zA::zK::zK::zK::wv (wv (mL (mL (mL (zA::[]))))))),[],none,none⟩
@[reducible] def wC:kU Int:=oI e8 f211 n (nH e8 [.tmp 4] (nq .i64)) (cl:=nR [(135,uC mI (nq .u8) (nq .i64) (strings_IndexByte n)),(238,ny (nq .i32) mX (wO n))]) (cd:=JB [(135,qa (uC mI (nq .u8) (nq .i64) (strings_IndexByte n)))]) (rG:=q9 [([0,1,0,0,1,1,1,0,1],JS),([0,1,0,1,0,0,1,0,0,0,1,1,1,1,0,1,1,1,1,1,1,0,1],JT),([0,0,1,1,1,1,0,1,1,1,1,1,1,0,1],JU)]) (vf:=mg []) (vJ:=mg [])
def XE:atp (wC n) [0,0,0,0,1,0,0,0,1,1,1,1,0,1,1,1,1,1,1,0,1] [0,0,0,1,0,0,1,0,1,0,0,1,0,0,0,1,1,1,1,0,1,1,1,1,1,1,0,1] [0,0,1,0,0,0,1,0,0,0,1,1,1,1,0,1,1,1,1,1,1,0,1]:=⟨jV,jV,jV⟩
attribute [go_sem] XE JS JT JU
abbrev JV(iv0:Str)(ip0:Nat):jZ:=⟨(wu (wu (mQ (mQ (mY (mY (mY (qA::qA::qA:: .ptr 0 0::mY (mY (qA::qA::qA::[])))))))))),[.iter (sb iv0) ip0],0,[]⟩
abbrev JW:List Kt:=[.blk 9,.cut [1,0,1,1,1,0,1],.at [1,0,1,1,1,0,1],.blk 0]
abbrev JX:=Str->Nat->Option Int
abbrev VG(K:List Kt)(Z:JX):Prop:= ∀iv0 ip0,run (wC n) K (JV iv0 ip0)=Z iv0 ip0
abbrev JY(v0 v1:Str)(v2 v3 v4:Int):jZ:=⟨(.str (sb v0)::mY (qA::qA:: .str (sb v1):: .int .i64 v2:: .int .i64 v3::qA::qA:: .int .i64 v4::wu (wu (mQ (mQ (mY (mY (mY (qA::qA::[]))))))))),[],0,[]⟩
abbrev JZ(m3:Nat):List Kt:=[.blk 3,.cut [1,1,0,0,1,0,0,0,1,1,1,1,0,1,1,1,1,1,1,0,1],.at [1,1,0,0,1,0,0,0,1,1,1,1,0,1,1,1,1,1,1,0,1],.blk 2,.lp m3 [0,0,1,1,1,1,0,1,1,1,1,1,1,0,1],.blk 1,.cut [1,1,1,1,1,0,1,1,1,1,1,1,0,1],.at [1,1,1,1,1,0,1,1,1,1,1,1,0,1],.blk 0]
abbrev J0:=Str->Str->Int->Int->Int->Option Int
abbrev VH(K:List Kt)(Z:J0):Prop:= ∀v0 v1 v2 v3 v4,run (wC n) K (JY v0 v1 v2 v3 v4)=Z v0 v1 v2 v3 v4
abbrev J1(v0 v1:Str)(v2 v3:Int):jZ:=⟨(.str (sb v0)::mY (qA::qA:: .str (sb v1):: .int .i64 v2:: .int .i64 v3::wu (wu (mQ (mQ (mQ (qA::[]))))))),[],0,[]⟩
abbrev yF:List Kt:=[.blk 1,.cut [1,1,1,1,1,0,1,1,1,1,1,1,0,1],.at [1,1,1,1,1,0,1,1,1,1,1,1,0,1],.blk 0]
abbrev yG:=Str->Str->Int->Int->Option Int
abbrev CX(K:List Kt)(Z:yG):Prop:= ∀v0 v1 v2 v3,run (wC n) K (J1 v0 v1 v2 v3)=Z v0 v1 v2 v3
attribute [go_sem] JV JW JY JZ J1 yF
def CY:LB (VG n) [0,1,0,0,1,1,1,0,1] JW:=mB
def CZ:Nat->JX:=yC ((CY n).1)
def aiz{n:Nat}:CZ n (m+1)=(CY n).1 (CZ n m):=rfl
@[go_sem]def FU(m:Nat):=BK (CY n) (CZ n) m
def C0:LB2 (CX n) [0,0,1,1,1,1,0,1,1,1,1,1,1,0,1] yF (VH n) [0,1,0,1,0,0,1,0,0,0,1,1,1,1,0,1,1,1,1,1,1,0,1] JZ:=mB
def C1(X3:yG):Nat->J0:=yC ((C0 n).1 X3)
def aiA{n:Nat}(X3:yG):C1 n X3 (m+1)=(C0 n).1 X3 (C1 n X3 m):=rfl
def PP{X3}(h3:CX n (.lq m3 [0,0,1,1,1,1,0,1,1,1,1,1,1,0,1]::yF) X3)(m:Nat):=an7 (C0 n) h3 (C1 n X3) m
def yH:LB (CX n) [0,0,1,1,1,1,0,1,1,1,1,1,1,0,1] yF:=by
 apply fB;intro m X0 ih v0 v1 v2 v3;simp (config:={maxSteps:=100000000}) only[go_sem,fg,fi,e9,fa,fj,fk,fo,fp,fq,fb,fm,fw,f211,fc,mixed,FU n,PP n ih,ih];exact rfl
def yI:Nat->yG:=yC ((yH n).1)
def RG{n:Nat}:yI n (m+1)=(yH n).1 (yI n m):=rfl
@[go_sem]def PQ(m:Nat):=BK (yH n) (yI n) m
def Eo:SC2 (wC n) mI (nq .i32) 187:=mB
def nu:=fu fun n=>(Eo n).1
def J2: ∀n:Nat,GO e8 211 mI (nq .i32) (nq .i64) (nu n):=LX fun n=>Ks (Eo n) (gd (ke (pJ (JL n)) (ke (lF (MY n)) kj)) (ng (vh (JL n)) ko)) func211 ntmps211 results211
@[reducible] def XF:kU Bool:=oI e8 f93 n (nH e8 [.tmp 4] mX) (cl:=nR [(136,uC mI mI mX (uT n))])
def Ep:SC2 (XF n) mI mI 8:=mB
def CC:=fu fun n=>(Ep n).1
def VI: ∀n:Nat,GO e8 93 mI mI mX (CC n):=LX fun n=>Ks (Ep n) (gd (ke (pJ (GA n)) kj) ko) func93 ntmps93 results93
@[reducible] def J3:kU Int:=oI e8 f58 n (nH e8 [.tmp 2] (nq .i64)) (cd:=JB [(56,qa (ny (zI jX.kH) (lM kI.kH) (lG n)))]) (vf:=mg []) (vJ:=mg [])
@[go_sem]def VJ:tM (J3 n) [0,1]=true:=jV
def C2:NA (J3 n) (zI jX.kH) 11:=mB
def oN:=fu fun n=>(C2 n).1
def rV: ∀n:Nat,xm e8 58 (zI jX.kH) (nq .i64) (oN n):=Cb fun n=>zd (C2 n) (gd kj (ng (mr (lJ n)) ko)) func58 ntmps58 results58
@[reducible] def C3:kU (Tc×(Str×Unit)):=oI e8 f59 n (aih e8 [.tmp 2] (vO (za jX.kH) uD) (Nv mI JD) 1) (cl:=nR [(56,AQ (qa (ny (zI jX.kH) (lM kI.kH) (lG n))))]) (vf:=mg []) (vJ:=mg [])
@[go_sem]def VK:tM (C3 n) [0,0,1,1]=true:=jV
def C4:{B:jX->Option (Tc×(Str×Unit)) // ∀(a0:jX),run (C3 n) [.at []] (ini ((Om 0 Ln).enc (a0,()) ()) 26 ((vO (za jX.kH) uD).enc (a0,())))=B a0}:=mB
def kW:=fu fun n=>(C4 n).1
def lB: ∀(n:Nat)(a0:jX)(r:(Tc×(Str×Unit))),kW n a0=some r->FnG e8 59 ((Om 0 Ln).enc (a0,()) ()) ((vO (za jX.kH) uD).enc (a0,())) (fun o H'=>o= .ret (uE ((Nv mI JD).enc r.1 r.2))/\H'=(vO (za jX.kH) uD).enc r.1)
 |0,_,_,h=>by cases h
 |n+1,a0,r,h=>by
  exact Ct (M:=C3 n) ⟨(ke (oP (mr (lJ n))) kj),ko,qS _,rq _,vg,vi,wM,wm⟩ func59 rfl rfl (by simp only[go_sem,fg,fi,e9,fa,fj,fk,fo,fp,fq,fb,fm,fw]) ((vO (za jX.kH) uD).nb _ _) ntmps59 results59 (fun σ hs=>adx hs) (((C4 n).2 a0).trans h)
open Go.Proofs
@[reducible] def Ze:kU Bool:=oI e8 f74 n (nH e8 [.tmp 6] mX) (cl:=nR [(56,ny (zI jX.kH) (lM kI.kH) (lG n))])
def Fz:SC3 (Ze n) (zI jX.kH) (nq .i64) mI 20:=mB
def sS:=fu fun n=>(Fz n).1
def wD: ∀n:Nat,aiv e8 74 (zI jX.kH) (nq .i64) mI mX (sS n):=azu fun n=>atq (Fz n) (gd (ke (lF (lJ n)) kj) ko) func74 ntmps74 results74
@[reducible] def RH:kU Bool:=oI e8 f159 n (nH e8 [.tmp 2] mX) (cl:=nR [(56,ny (zI jX.kH) (lM kI.kH) (lG n)),(166,uC mI mI mX (strings_Contains n))])
def Bi:NA (RH n) (zI jX.kH) 15:=mB
def sU:=fu fun n=>(Bi n).1
def At: ∀n:Nat,xm e8 159 (zI jX.kH) mX (sU n):=Cb fun n=>zd (Bi n) (gd (ke (lF (lJ n)) (ke (pJ (Ek n)) kj)) ko) func159 ntmps159 results159
def PT:yd:=⟨[],[],(zA::zK::zK::mL (mL (zA::zA::zA::zK::zK::mN (mN (mN (zA::zA::[])))))),[oC [zK,zK,zK,zK,zK,zK,zK,zK],oK,oA nO,oA j7.row,oA Syntax.row],none,none⟩
def PU:yd:=⟨[],[],(zA::zK::zK::mN (mN (mN (zK::zK::mL (mL (mN (zA::[]))))))),[oC [zK,zK,zK,zK,zK,zT (nP Syntax.row),zK,zK],oK,oA nO,oA j7.row],none,none⟩
@[reducible] def uw(X:Syntax->Option Syntax)(n:Nat):kU Syntax:=oI e8 f160 n (nH e8 [.cell 2 29] (lM Syntax.kH)) (cl:=nR [(191,Aj [] uD (asT (nP nO) Ln) (vO (oaT true nO) uD) (rsA 0 (fun(b:Tn)=>b.1.length) JD) (fun(b:Unit) a=>(xP n) a.1)),(192,Aj [] uD (asT (nP j7.row) Ln) (vO (oaT false j7.row) uD) (rsA 0 (fun(b:(Tj×Unit))=>b.1.length) JD) (fun(b:Unit) a=>(tP n) a.1)),(194,Aj [] uD (asT (nP Syntax.row) Ln) (vO (oaT false Syntax.row) uD) (rsA 0 (fun(b:Tu)=>b.1.length) JD) (fun(b:Unit) a=>(xQ n) a.1))]) (cd:=JB [(160,qa (ny (lM Syntax.kH) (lM Syntax.kH) X)),(193,qa (ny (nP kf.row) (nP kf.row) (wQ n)))]) (rG:=q9 [([0,1,0,1,1,1,1,1],PT),([0,1,0,1,1,1],PU)]) (cut:=Y3 [([1,1,1,1,1,1],[3,4])]) (vf:=mg []) (vJ:=mg [])
def ac2(X:Syntax->Option Syntax)(n:Nat):an5 (uw X n) [1,0,0,1,1,0,0,1,0,1,1,1] [1,0,0,1,1,0,0,1,0,1,1,1,1,1]:=⟨jV,jV⟩
def ac3(X:Syntax->Option Syntax)(n:Nat):Ej (uw X n) [1,0,0,1,1,0,0,1,0,1,1,1] 1 12 4 12 6 12 8 12/\Py (uw X n) [1,0,0,1,1,0,0,1,0,1,1,1] 10 12=true/\Ej (uw X n) [1,0,0,1,1,0,0,1,0,1,1,1,1,1] 1 10 4 10 6 10 7 10/\Py (uw X n) [1,0,0,1,1,0,0,1,0,1,1,1,1,1] 9 10=true:=⟨⟨jV,jV,jV,jV⟩,jV,⟨jV,jV,jV,jV⟩,jV⟩
attribute [go_sem] ac2 ac3 PT PU
@[go_sem]abbrev PV(v0 v1 v2:Int)(v3:Str)(v4 v5 v6:Int)(r2:List Str)(r3:List j7)(r4:List Syntax)(c2:Nat)(c3:Nat)(c4:Nat):jZ:=⟨(qA:: .ptr 0 0:: .ptr 1 0::mQ (mQ (qA::qA::qA:: .int .i64 v0:: .int .i64 v1::mY (mY (mY (qA::qA::[])))))),[.cells [.int .i64 v2,.str (sb v3),.int .i64 v4,.acc 2 c2,.acc 3 c3,.acc 4 c4,.int .i64 v5,.int .i64 v6],.cells [.int .i64 0,.str (sb []),.int .i64 0,.mb true 0 [],.mb true 0 [],.mb true 0 [],.int .i64 0,.int .i64 0],.acc true 1 (mp nB r2),.acc false 2 (mp j7.cells r3),.acc false 8 (mp Syntax.cells r4)],0,[]⟩
abbrev PW:=Int->Int->Int->Str->Int->Int->Int->(List Str)->Tj->(List Syntax)->Option Syntax
abbrev abG(X:Syntax->Option Syntax)(n:Nat)(K:List Kt)(Z:PW):Prop:= ∀v0 v1 v2 v3 v4 v5 v6 r2 r3 r4 c2 c3 c4,c2=r2.length->c3=r3.length->c4=r4.length->run (uw X n) K (PV v0 v1 v2 v3 v4 v5 v6 r2 r3 r4 c2 c3 c4)=Z v0 v1 v2 v3 v4 v5 v6 r2 r3 r4
@[go_sem]abbrev PX(v0 v1 v2:Int)(v3:Str)(v4:Int)(v5:List Syntax)(v6 v7:Int)(r2:List Str)(r3:List j7)(c2:Nat)(c3:Nat):jZ:=⟨(qA:: .ptr 0 0:: .ptr 1 0::mY (mY (mY (.int .i64 v0:: .int .i64 v1::mQ (mQ (mY (qA::[]))))))),[.cells [.int .i64 v2,.str (sb v3),.int .i64 v4,.acc 2 c2,.acc 3 c3,.mb false 8 (mp Syntax.cells v5),.int .i64 v6,.int .i64 v7],.cells [.int .i64 0,.str (sb []),.int .i64 0,.mb true 0 [],.mb true 0 [],.mb true 0 [],.int .i64 0,.int .i64 0],.acc true 1 (mp nB r2),.acc false 2 (mp j7.cells r3)],0,[]⟩
abbrev PY:=Int->Int->Int->Str->Int->(List Syntax)->Int->Int->(List Str)->Tj->Option Syntax
abbrev abH(X:Syntax->Option Syntax)(n:Nat)(K:List Kt)(Z:PY):Prop:= ∀v0 v1 v2 v3 v4 v5 v6 v7 r2 r3 c2 c3,c2=r2.length->c3=r3.length->run (uw X n) K (PX v0 v1 v2 v3 v4 v5 v6 v7 r2 r3 c2 c3)=Z v0 v1 v2 v3 v4 v5 v6 v7 r2 r3
def Au(X:Syntax->Option Syntax)(n:Nat):LB (abG X n) [0,1,0,1,1,1,1,1] [.blk 2,.cut [1,1,1,1,1,1],.at [1,1,1,1,1,1]]:=mB
def Av(X:Syntax->Option Syntax)(n:Nat):Nat->PW:=yC ((Au X n).1)
def L9(X:Syntax->Option Syntax){n:Nat}:Av X n (m+1)=(Au X n).1 (Av X n m):=rfl
@[go_sem]def XG(X:Syntax->Option Syntax)(n:Nat)(m:Nat):=BK (Au X n) (Av X n) m
def Aw(X:Syntax->Option Syntax)(n:Nat):LB (abH X n) [0,1,0,1,1,1] [.blk 0,.cut [1,1,1,1],.at [1,1,1,1]]:=mB
def Ax(X:Syntax->Option Syntax)(n:Nat):Nat->PY:=yC ((Aw X n).1)
def Ma(X:Syntax->Option Syntax){n:Nat}:Ax X n (m+1)=(Aw X n).1 (Ax X n m):=rfl
@[go_sem]def XH(X:Syntax->Option Syntax)(n:Nat)(m:Nat):=BK (Aw X n) (Ax X n) m
def KB(X:Syntax->Option Syntax)(n:Nat):NA (uw X n) (lM Syntax.kH) 54:=mB
def tH:Nat->Syntax->Option Syntax
 |0,_=>none
 |n+1,a0=>(KB (tH n) n).1 a0
def PZ: ∀n:Nat,xm e8 160 (lM Syntax.kH) (lM Syntax.kH) (tH n)
 |0=>fun _ _ h=>(by cases h)
 |n+1=>by
  have abI:=PZ n;exact zd (KB (tH n) n) (gd (ke (pq (fun b a r h=>(OC n) a.1 r h)) (ke (pq (fun b a r h=>(JO n) a.1 r h)) (ke (pq (fun b a r h=>(OF n) a.1 r h)) kj))) (ng (mr (abI)) (ng (mr (M3 n)) ko))) func160 ntmps160 results160
@[reducible] def yJ:kU (Tc×(Syntax×Unit)):=oI e8 f120 n (aih e8 [.cell 2 29] (vO (za jX.kH) uD) (Nv (lM Syntax.kH) JD) 1) (co:=MW [(157,SK (qa (ny (zI jX.kH) (nq .i64) (nT n))))]) (vf:=mg [157]) (vJ:=mg [])
@[go_sem]def VM:tM (yJ n) [0,1]=true:=jV
@[go_sem]def VN:aqO (yJ n) [0,1] 3 7 3 9 7 9:=⟨jV,jV,jV⟩
def C5:{B:jX->Option (Tc×(Syntax×Unit)) // ∀(a0:jX),run (yJ n) [.at []] (ini ((Om 0 Ln).enc (a0,()) ()) 12 ((vO (za jX.kH) uD).enc (a0,())))=B a0}:=Cv
def uU:=fu fun n=>(C5 n).1
def Ik: ∀(n:Nat)(a0:jX)(r:(Tc×(Syntax×Unit))),uU n a0=some r->FnG e8 120 ((Om 0 Ln).enc (a0,()) ()) ((vO (za jX.kH) uD).enc (a0,())) (fun o H'=>o= .ret (uE ((Nv (lM Syntax.kH) JD).enc r.1 r.2))/\H'=(vO (za jX.kH) uD).enc r.1)
 |0,_,_,h=>by cases h
 |n+1,a0,r,h=>by
  exact Ct (M:=yJ n) ⟨kj,ko,qS _,rq _,vg,vi,wM,(mP (JG (mr (qW n))) sQ)⟩ func120 rfl rfl (by simp only[go_sem,fg,fi,e9,fa,fj,fk,fo,fp,fq,fb,fm,fw]) ((vO (za jX.kH) uD).nb _ _) ntmps120 results120 (fun σ hs=>adx hs) (((C5 n).2 a0).trans h)
@[go_sem]def C6:yd:=⟨[],[],(zK::zT (zI (cL kg.row))::zA::zK::mN (mN (mN (zA::zA::zA::[])))),[oL [zA,zA,zA,zK,zA,zK,zA,zA,zA,zA,zA,zA,zA,zA,zA,zA,zA,zA,zA,zA,zA,zA,zA,zA,zA,zA,zA,zA,zA],oT Syntax.kH,oT Syntax.kH],none,none⟩
@[go_sem]def tU:=(ZE 0 (mh (zI (cL kg.row)) kP))
@[go_sem]abbrev uy(F:Tx->Syntax->Syntax->Option (Tp×Unit))(b:TR)(a:(Tx×Unit)):=F a.1 b.2.1.1 b.2.2.1.1
@[go_sem]def D4(F:Tx->Syntax->Syntax->Option (Tp×Unit)):=aag [.arg 0 [],.obj 0 3 [],.obj 0 5 []] kX tU mc kP (uy F)
@[reducible] def D5:kU (Tp×Unit):=oI e8 f190 n (CT e8 [] [] [0,1,2] 3 mc kP) (rG:=q9 [([0,1],C6)]) (cy:=akL [(0,asJ [.obj 0 3 [],.obj 0 5 []] kX rI mc (mh mX kP) (fun(b:TR)(a:(Int×(kg×Unit)))=>(Be n) a.1 a.2.1 b.2.1.1 b.2.2.1.1))])
@[go_sem]abbrev C7(v0:List kg)(v1 j0:Int)(o1 o2:Syntax):jZ:=⟨(.map 0:: .pp [.mb false 9 (mp kg.cells v0)]::qA:: .int .i64 v1::mY (mY (mY (qA::qA::qA::[])))),[.loop oB [qA,qA,qA,.ptr 1 0,qA,.ptr 2 0,qA,qA,qA,qA,qA,qA,qA,qA,qA,qA,qA,qA,qA,qA,qA,qA,qA,qA,qA,qA,qA,qA,qA] (stJ oB j0) j0,.cells (Syntax.cells o1),.cells (Syntax.cells o2)],3,[]⟩
abbrev C8:=Tx->Int->Int->Syntax->Syntax->Option (Tp×Unit)
abbrev Mb(K:List Kt)(Z:C8):Prop:= ∀v0 v1 j0 o1 o2,run (D5 n) K (C7 v0 v1 j0 o1 o2)=Z v0 v1 j0 o1 o2
def qY:LB (Mb n) [0,1] [.blk 0]:=mB
def tV:Nat->C8:=yC ((qY n).1)
def BP{n:Nat}:tV n (m+1)=(qY n).1 (tV n m):=rfl
@[go_sem]def J4(m:Nat):=BK (qY n) (tV n) m
def yp:SX (D5 n) tU kX 19 uy:=mC
def Ay:=fu fun n=>(yp n).1
def Mc: ∀n:Nat,Xt e8 190 tU kX mc kP (uy (Ay n)):=abw fun n=>abv (yp n) (gd kj ko (y:=(aah (fun _ _ _ _ _ h=>ao5 (fun b a r h=>(M4 n) a.1 a.2.1 b.2.1.1 b.2.2.1.1 r h) h) acl))) func190 ntmps190 results190
@[go_sem]def jW:=(CH (QV (alC jX.kH 6 kP)) Fv)
@[go_sem]abbrev vS(F:jX->Option TB)(b:T6)(a:Unit):=F b.1.1
@[go_sem]def P0(F:jX->Option TB):=aag [.arg 0 []] jW (lS 0 kP) jW (mh mI kP) (vS F)
@[reducible] def FV:kU TB:=oI e8 f59 n (CT e8 [.tmp 2] [] [0] 1 jW (mh mI kP)) (cl:=nR [(56,AQ (qa (ny (zI jX.kH) (lM kI.kH) (lG n))))]) (vf:=mg []) (vJ:=mg [])
@[go_sem]def P1:tM (FV n) [0,0,1,1]=true:=jV
def Az:SX (FV n) (lS 0 kP) jW 26 vS:=mC
def xS:=fu fun n=>(Az n).1
def OR: ∀n:Nat,Xt e8 59 (lS 0 kP) jW jW (mh mI kP) (vS (xS n)):=abw fun n=>abv (Az n) (gd (ke (oP (mr (lJ n))) kj) ko) func59 ntmps59 results59
open Go.Proofs
@[reducible] def RI:kU Bool:=oI e8 f162 n (nH e8 [.tmp 2] mX) (cl:=nR [(56,ny (zI jX.kH) (lM kI.kH) (lG n))])
def Bj:NA (RI n) (zI jX.kH) 48:=mB
def vm:=fu fun n=>(Bj n).1
def FW: ∀n:Nat,xm e8 162 (zI jX.kH) mX (vm n):=Cb fun n=>zd (Bj n) (gd (ke (lF (lJ n)) kj) ko) func162 ntmps162 results162
@[reducible] def OS:kU Bool:=oI e8 f195 n (nH e8 [.tmp 4] mX) (cl:=nR [(216,uC (nP nO) mI (nq .i64) (zQ n))])
def zm:SC2 (OS n) (nP nO) mI 9:=mB
def mR:=fu fun n=>(zm n).1
def D6: ∀n:Nat,GO e8 195 (nP nO) mI mX (mR n):=LX fun n=>Ks (zm n) (gd (ke (pJ (Rv n)) kj) ko) func195 ntmps195 results195
@[go_sem]abbrev wV(F:jY->Int->Td->Td->T9->Option TL)(b:T7)(a:(jY×Unit)):=F a.1 b.1.1 b.2.1 b.2.2.1 b.2.2.2.1
@[go_sem]def Ho(F:jY->Int->Td->Td->T9->Option TL):=uF false [.arg 0 [],.obj 0 0 [],.obj 0 1 [],.obj 0 2 []] k8 (lS 0 (mh (lM jY.kH) kP)) k8 (ZE 2 (mh mI (mh (nP nO) kP))) k8 (ZE 1 (mh mI (mh (nP nO) kP))) (wV F)
@[reducible] def Hp:kU TL:=oI e8 f243 n (aam e8 [.tmp 4,.tmp 5,.tmp 6] [] [0,1,2,3] 4 k8 (ZE 2 (mh mI (mh (nP nO) kP))) [] k8 (ZE 1 (mh mI (mh (nP nO) kP)))) (cl:=nR [(244,ny (lM jY.kH) mX (zh n))]) (vf:=mg []) (vJ:=mg [])
@[go_sem]def RJ:an5 (Hp n) [0,0,1,0,1] [0,1,1]:=⟨jV,jV⟩
def Bk:SX (Hp n) (lS 0 (mh (lM jY.kH) kP)) k8 31 wV:=mC
def C9:=fu fun n=>(Bk n).1
def P2: ∀n:Nat,qR e8 243 (lS 0 (mh (lM jY.kH) kP)) k8 false k8 (ZE 2 (mh mI (mh (nP nO) kP))) k8 (ZE 1 (mh mI (mh (nP nO) kP))) (wV (C9 n)):=Rm fun n=>aBq (Bk n) (gd (ke (lF (DO n)) kj) ko) func243 ntmps243 results243
@[go_sem]def aaA:yd:=⟨[],[],(zK::zA::zA::zK::zA::zA::zA::zK::zK::mL (mN (mN (mN (zA::zA::[]))))),[],none,none⟩
@[reducible] def acs:kU Bool:=oI e8 f260 n (nH e8 [.tmp 2] mX) (cl:=nR [(270,ny (nq .u8) mX (NO n))]) (rG:=q9 [([0,1,0,1,1],aaA)])
@[go_sem]abbrev aaB(v0:Str)(v1:Bool)(v2 v3:Int):jZ:=⟨(.str (sb v0)::qA::qA:: .bool v1::qA::qA::qA:: .int .i64 v2:: .int .i64 v3::mQ (mY (mY (mY (qA::qA::[]))))),[],0,[]⟩
abbrev aaC:=Str->Bool->Int->Int->Option Bool
abbrev aiB(K:List Kt)(Z:aaC):Prop:= ∀v0 v1 v2 v3,run (acs n) K (aaB v0 v1 v2 v3)=Z v0 v1 v2 v3
def Hq:LB (aiB n) [0,1,0,1,1] [.blk 0,.cut [1,1,1],.at [1,1,1]]:=mB
def Hr:Nat->aaC:=yC ((Hq n).1)
def VO{n:Nat}:Hr n (m+1)=(Hq n).1 (Hr n m):=rfl
@[go_sem]def ac4(m:Nat):=BK (Hq n) (Hr n) m
def VP:NA (acs n) mI 39:=mB
def Xg:=fu fun n=>(VP n).1
def aiC: ∀n:Nat,xm e8 260 mI mX (Xg n):=Cb fun n=>zd (VP n) (gd (ke (lF (aeM n)) kj) ko) func260 ntmps260 results260
@[reducible] def ac5:kU Int:=oI e8 f222 n (nH e8 [.tmp 4] (nq .i64)) (cl:=nR [(244,ny (lM jY.kH) mX (zh n)),(245,ny (lM jY.kH) mX (Aq n))])
def KC:SC2 (ac5 n) (lM jY.kH) (nq .i64) 51:=mB
def EM:=fu fun n=>(KC n).1
def P3: ∀n:Nat,GO e8 222 (lM jY.kH) (nq .i64) (nq .i64) (EM n):=LX fun n=>Ks (KC n) (gd (ke (lF (DO n)) (ke (lF (G7 n)) kj)) ko) func222 ntmps222 results222
@[go_sem]def EN:yd:=⟨[(6,1,true)],[],(mN (zA::zT (tyF 165)::zK::mL (mN (zT (nP kI.row)::zK::zK::mL (mN (mN (zA::zA::zA::[]))))))),[oT jX.kH,oA nO],none,none⟩
@[reducible] def AA:kU (Tc×Tn):=oI e8 f126 n (aih e8 [.tmp 4] (vO (za jX.kH) uD) (Nv (nP nO) JD) 1) (cl:=nR [(165,uC (lM kI.kH) mI mX (vR n)),(166,uC mI mI mX (strings_Contains n))]) (rG:=q9 [([0,1,0,1,1,1,1],EN)])
@[go_sem]abbrev EO(v0:List kI)(v1 v2:Int)(o0:jX)(r1:List Str)(c1:Nat):jZ:=⟨(mY (qA:: .func (.func 165) [] []:: .acc 1 c1::mQ (mY (.mb false 3 (mp kI.cells v0):: .int .i64 v1:: .int .i64 v2::mQ (mY (mY (qA::qA::qA::[]))))))),[.cells (jX.cells o0),.acc true 1 (mp nB r1)],1,[]⟩
abbrev EP:=(List kI)->Int->Int->jX->(List Str)->Option (Tc×Tn)
abbrev OT(K:List Kt)(Z:EP):Prop:= ∀v0 v1 v2 o0 r1 c1,c1=r1.length->run (AA n) K (EO v0 v1 v2 o0 r1 c1)=Z v0 v1 v2 o0 r1
def sr:LB (OT n) [0,1,0,1,1,1,1] [.blk 0,.cut [1,1,1,1,1],.at [1,1,1,1,1]]:=mB
def su:Nat->EP:=yC ((sr n).1)
def Da{n:Nat}:su n (m+1)=(sr n).1 (su n m):=rfl
@[go_sem]def Ls(m:Nat):=BK (sr n) (su n) m
def AB:{B:jX->Int->Option (Tc×Tn) // ∀(a0:jX)(a1:Int),run (AA n) [.at []] (ini ((Om 0 (asT (nq .i64) Ln)).enc (a0,()) (a1,())) 57 ((vO (za jX.kH) uD).enc (a0,())))=B a0 a1}:=mB
def xT:=fu fun n=>(AB n).1
def OU: ∀(n:Nat)(a0:jX)(a1:Int)(r:(Tc×Tn)),xT n a0 a1=some r->FnG e8 126 ((Om 0 (asT (nq .i64) Ln)).enc (a0,()) (a1,())) ((vO (za jX.kH) uD).enc (a0,())) (fun o H'=>o= .ret (uE ((Nv (nP nO) JD).enc r.1 r.2))/\H'=(vO (za jX.kH) uD).enc r.1)
 |0,_,_,_,h=>by cases h
 |n+1,a0,a1,r,h=>by
  exact Ct (M:=AA n) ⟨(ke (pJ (L2 n)) (ke (pJ (Ek n)) kj)),ko,qS _,rq _,vg,vi,wM,wm⟩ func126 rfl rfl (by simp only[go_sem,fg,fi,e9,fa,fj,fk,fo,fp,fq,fb,fm,fw]) ((vO (za jX.kH) uD).nb _ _) ntmps126 results126 (fun σ hs=>adx hs) (((AB n).2 a0 a1).trans h)
open Go.Proofs
@[go_sem]def VQ:yd:=⟨[],[],(zA::zK::zA::zK::mL (mN (mN (zA::zA::zA::[])))),[oT Syntax.kH],none,none⟩
@[reducible] def Yp(X:Syntax->Option Bool)(n:Nat):kU Bool:=oI e8 f23 n (nH e8 [.tmp 2] mX) (cl:=nR [(23,ny (lM Syntax.kH) mX X),(49,ny mI mX (EF n))]) (rG:=q9 [([0,1,0,1,1],VQ)])
@[go_sem]abbrev VR(v0:Int)(o0:Syntax):jZ:=⟨(qA:: .ptr 0 0::qA:: .int .i64 v0::mQ (mY (mY (qA::qA::qA::[])))),[.cells (Syntax.cells o0)],0,[]⟩
abbrev VS:=Int->Syntax->Option Bool
abbrev aeV(X:Syntax->Option Bool)(n:Nat)(K:List Kt)(Z:VS):Prop:= ∀v0 o0,run (Yp X n) K (VR v0 o0)=Z v0 o0
def Db(X:Syntax->Option Bool)(n:Nat):LB (aeV X n) [0,1,0,1,1] [.blk 0,.cut [1,1,1],.at [1,1,1]]:=mB
def AC(X:Syntax->Option Bool)(n:Nat):Nat->VS:=yC ((Db X n).1)
def P4(X:Syntax->Option Bool){n:Nat}:AC X n (m+1)=(Db X n).1 (AC X n m):=rfl
@[go_sem]def aaD(X:Syntax->Option Bool)(n:Nat)(m:Nat):=BK (Db X n) (AC X n) m
def OV(X:Syntax->Option Bool)(n:Nat):NA (Yp X n) (lM Syntax.kH) 31:=mB
def xj:Nat->Syntax->Option Bool
 |0,_=>none
 |n+1,a0=>(OV (xj n) n).1 a0
def VT: ∀n:Nat,xm e8 23 (lM Syntax.kH) mX (xj n)
 |0=>fun _ _ h=>(by cases h)
 |n+1=>by
  have aeW:=VT n;exact zd (OV (xj n) n) (gd (ke (lF (aeW)) (ke (lF (PI n)) kj)) ko) func23 ntmps23 results23
@[go_sem]def Md:yd:=⟨[],[],(zA::zK::zA::zK::zK::mL (mL (mL (zA::zA::zA::[])))),[oT j7.kH],none,none⟩
@[reducible] def Hs:kU Str:=oI e8 f50 n (nH e8 [.tmp 2] mI) (cl:=nR [(51,ny (nq .i64) mI (xh n))]) (cd:=JB [(51,qa (ny (nq .i64) mI (xh n)))]) (rG:=q9 [([0,1,0,1,1,1],Md)]) (vf:=mg []) (vJ:=mg [])
@[go_sem]def aaE:tM (Hs n) [1,1,1,1,1,1,0,0,1,0,0,1,0,1,1,1]=true:=jV
@[go_sem]abbrev Me(v0:Str)(v1:Int)(o0:j7):jZ:=⟨(qA:: .ptr 0 0::qA:: .str (sb v0):: .int .i64 v1::mQ (mQ (mQ (qA::qA::qA::[])))),[.cells (j7.cells o0)],0,[]⟩
abbrev Mf:=Str->Int->j7->Option Str
abbrev Zf(K:List Kt)(Z:Mf):Prop:= ∀v0 v1 o0,run (Hs n) K (Me v0 v1 o0)=Z v0 v1 o0
def uV:LB (Zf n) [0,1,0,1,1,1] [.blk 0,.cut [1,1,1,1],.at [1,1,1,1]]:=mB
def xE:Nat->Mf:=yC ((uV n).1)
def Dc{n:Nat}:xE n (m+1)=(uV n).1 (xE n m):=rfl
@[go_sem]def Um(m:Nat):=BK (uV n) (xE n) m
def Ht:NA (Hs n) (lM j7.kH) 56:=mB
def BQ:=fu fun n=>(Ht n).1
def Zg: ∀n:Nat,xm e8 50 (lM j7.kH) mI (BQ n):=Cb fun n=>zd (Ht n) (gd (ke (lF (DQ n)) kj) (ng (mr (DQ n)) ko)) func50 ntmps50 results50
@[reducible] def aga:kU Bool:=oI e8 f43 n (nH e8 [.tmp 4] mX) (cl:=nR [(83,uC (nP kf.row) (nP kf.row) mX (wT n))])
def OW:SC2 (aga n) (lM j7.kH) (lM j7.kH) 17:=mB
def NP:=fu fun n=>(OW n).1
def aeX: ∀n:Nat,GO e8 43 (lM j7.kH) (lM j7.kH) mX (NP n):=LX fun n=>Ks (OW n) (gd (ke (pJ (M9 n)) kj) ko) func43 ntmps43 results43
def VU:yd:=⟨[],[],(zA::zA::zK::zK::zK::mN (zA::zA::zK::wv (wv (mN [])))),[oT Syntax.kH,oT Syntax.kH],none,none⟩
def VV:yd:=⟨[],[],(zA::zA::zK::zK::zK::zA::zA::zK::zK::zK::zK::wv (wv (mN (zA::[])))),[oT Syntax.kH,oT Syntax.kH,oT j7.kH,oT j7.kH],none,none⟩
def VW:yd:=⟨[],[],(zA::zA::zK::zK::zK::zA::zA::zK::wv (wv (mN (mN [])))),[oT Syntax.kH,oT Syntax.kH],none,none⟩
@[reducible] def u7(X:Syntax->Syntax->Bool->Option Bool)(n:Nat):kU Bool:=oI e8 f16 n (nH e8 [.tmp 6] mX) (cl:=nR [(40,uC (nP nO) (nP nO) mX (Fh n))]) (cd:=JB [(16,qa (Vg (lM Syntax.kH) (lM Syntax.kH) mX mX X))]) (rG:=q9 [([0,1,0,1,1,1],VU),([0,1,1,1,0,0,1,0,0,1,0,1,1],VV),([0,1,0,1,1],VW)]) (vf:=mg []) (vJ:=mg [])
def agb(X:Syntax->Syntax->Bool->Option Bool)(n:Nat):atp (u7 X n) [0,0,0,1,0,0,1,0,1,1] [0,0,0,1,0,0,1,0,1,1,1] [0,0,0,1,0,0,1,1,1,0,0,1,0,0,1,0,1,1]:=⟨jV,jV,jV⟩
def agc(X:Syntax->Syntax->Bool->Option Bool)(n:Nat):Ej (u7 X n) [0,0,0,1,0,0,1,0,1,1] 1 12 3 12 4 12 10 12/\Ej (u7 X n) [0,0,0,1,0,0,1,0,1,1] 11 12 1 13 3 13 4 13/\Ej (u7 X n) [0,0,0,1,0,0,1,0,1,1] 6 13 8 13 9 13 10 13/\aqO (u7 X n) [0,0,0,1,0,0,1,0,1,1] 11 13 12 13 10 11:=⟨⟨jV,jV,jV,jV⟩,⟨jV,jV,jV,jV⟩,⟨jV,jV,jV,jV⟩,jV,jV,jV⟩
attribute [go_sem] agb agc VU VV VW
abbrev VX(v0:Bool)(v1:Int)(o0 o1:Syntax):jZ:=⟨(qA::qA:: .bool v0:: .ptr 0 0:: .ptr 1 0::mY (qA::qA:: .int .i64 v1::wu (wu (mY [])))),[.cells (Syntax.cells o0),.cells (Syntax.cells o1)],0,[]⟩
abbrev AD:=Bool->Int->Syntax->Syntax->Option Bool
abbrev aeY(X:Syntax->Syntax->Bool->Option Bool)(n:Nat)(K:List Kt)(Z:AD):Prop:= ∀v0 v1 o0 o1,run (u7 X n) K (VX v0 v1 o0 o1)=Z v0 v1 o0 o1
abbrev VY(v0:Bool)(v1 v2:Int)(o0 o1:Syntax)(o2 o3:j7):jZ:=⟨(qA::qA:: .bool v0:: .ptr 0 0:: .ptr 1 0::qA::qA:: .int .i64 v1:: .ptr 2 0:: .ptr 3 0:: .int .i64 v2::wu (wu (mY (qA::[])))),[.cells (Syntax.cells o0),.cells (Syntax.cells o1),.cells (j7.cells o2),.cells (j7.cells o3)],0,[]⟩
abbrev VZ(m3:Nat):List Kt:=[.blk 2,.blk 1,.cut [1,1,0,0,1,0,1,1],.at [1,1,0,0,1,0,1,1],.lp m3 [0,1,0,1,1],.blk 0,.cut [1,1,1],.at [1,1,1]]
abbrev V0:=Bool->Int->Int->Syntax->Syntax->j7->j7->Option Bool
abbrev aeZ(X:Syntax->Syntax->Bool->Option Bool)(n:Nat)(K:List Kt)(Z:V0):Prop:= ∀v0 v1 v2 o0 o1 o2 o3,run (u7 X n) K (VY v0 v1 v2 o0 o1 o2 o3)=Z v0 v1 v2 o0 o1 o2 o3
abbrev V1(v0:Bool)(v1:Int)(o0 o1:Syntax):jZ:=⟨(qA::qA:: .bool v0:: .ptr 0 0:: .ptr 1 0::qA::qA:: .int .i64 v1::wu (wu (mY (mY [])))),[.cells (Syntax.cells o0),.cells (Syntax.cells o1)],0,[]⟩
abbrev Mg(X:Syntax->Syntax->Bool->Option Bool)(n:Nat)(K:List Kt)(Z:AD):Prop:= ∀v0 v1 o0 o1,run (u7 X n) K (V1 v0 v1 o0 o1)=Z v0 v1 o0 o1
attribute [go_sem] VX VY VZ V1
def Dd(X:Syntax->Syntax->Bool->Option Bool)(n:Nat):LB (aeY X n) [0,1,0,1,1,1] [.blk 4,.cut [1,1,1,1],.at [1,1,1,1]]:=mB
def AE(X:Syntax->Syntax->Bool->Option Bool)(n:Nat):Nat->AD:=yC ((Dd X n).1)
def P5(X:Syntax->Syntax->Bool->Option Bool){n:Nat}:AE X n (m+1)=(Dd X n).1 (AE X n m):=rfl
@[go_sem]def NQ(X:Syntax->Syntax->Bool->Option Bool)(n:Nat)(m:Nat):=BK (Dd X n) (AE X n) m
def De(X:Syntax->Syntax->Bool->Option Bool)(n:Nat):LB2 (Mg X n) [0,1,0,1,1] [.blk 0,.cut [1,1,1],.at [1,1,1]] (aeZ X n) [0,1,1,1,0,0,1,0,0,1,0,1,1] VZ:=mB
def Hu(X:Syntax->Syntax->Bool->Option Bool)(n:Nat)(X3:AD):Nat->V0:=yC ((De X n).1 X3)
def P6(X:Syntax->Syntax->Bool->Option Bool){n:Nat}(X3:AD):Hu X n X3 (m+1)=(De X n).1 X3 (Hu X n X3 m):=rfl
def aaF(X:Syntax->Syntax->Bool->Option Bool)(n:Nat){X3}(h3:Mg X n (.lq m3 [0,1,0,1,1]::[.blk 0,.cut [1,1,1],.at [1,1,1]]) X3)(m:Nat):=an7 (De X n) h3 (Hu X n X3) m
def Df(X:Syntax->Syntax->Bool->Option Bool)(n:Nat):LB (Mg X n) [0,1,0,1,1] [.blk 0,.cut [1,1,1],.at [1,1,1]]:=by
 apply fB;intro m X0 ih v0 v1 o0 o1;simp (config:={maxSteps:=100000000}) only[go_sem,fg,fi,e9,fa,fj,fk,fo,fp,fq,fb,fm,fw,f16,fc,mixed,NQ X n,aaF X n ih,ih];exact rfl
def vo(X:Syntax->Syntax->Bool->Option Bool)(n:Nat):Nat->AD:=yC ((Df X n).1)
def P7(X:Syntax->Syntax->Bool->Option Bool){n:Nat}:vo X n (m+1)=(Df X n).1 (vo X n m):=rfl
@[go_sem]def aaG(X:Syntax->Syntax->Bool->Option Bool)(n:Nat)(m:Nat):=BK (Df X n) (vo X n) m
def OX(X:Syntax->Syntax->Bool->Option Bool)(n:Nat):SC3 (u7 X n) (lM Syntax.kH) (lM Syntax.kH) mX 144:=mB
def qZ:Nat->Syntax->Syntax->Bool->Option Bool
 |0,_,_,_=>none
 |n+1,a0,a1,a2=>(OX (qZ n) n).1 a0 a1 a2
def V2: ∀n:Nat,aiv e8 16 (lM Syntax.kH) (lM Syntax.kH) mX mX (qZ n)
 |0=>fun _ _ _ _ h=>(by cases h)
 |n+1=>by
  have ae0:=V2 n;exact atq (OX (qZ n) n) (gd (ke (pJ (Za n)) kj) (ng (LS (ae0)) ko)) func16 ntmps16 results16
open Go.Proofs
@[go_sem]def Mh:yd:=⟨[],[],(zK::zK::mL (mN (mN (mN [])))),[],none,none⟩
@[reducible] def NR:kU Int:=oI e8 f85 n (nH e8 [.tmp 4] (nq .i64)) (cl:=nR [(84,ny (nq .u8) mX (Hh n)),(90,ny (nq .u8) mX (NB n))]) (rG:=q9 [([0,0,1],Mh)])
@[go_sem]abbrev Mi(v0:Str)(v1:Int):jZ:=⟨(.str (sb v0):: .int .i64 v1::mQ (mY (mY (mY [])))),[],0,[]⟩
abbrev Bl:=Str->Int->Option Int
abbrev Zh(K:List Kt)(Z:Bl):Prop:= ∀v0 v1,run (NR n) K (Mi v0 v1)=Z v0 v1
def xF:LB (Zh n) [0,0,1] [.blk 0,.cut [1,1],.at [1,1]]:=mB
def xG:Nat->Bl:=yC ((xF n).1)
def J5{n:Nat}:xG n (m+1)=(xF n).1 (xG n m):=rfl
@[go_sem]def Un(m:Nat):=BK (xF n) (xG n) m
def Hv:SC2 (NR n) mI (nq .i64) 30:=mB
def Fi:=fu fun n=>(Hv n).1
def Zi: ∀n:Nat,GO e8 85 mI (nq .i64) (nq .i64) (Fi n):=LX fun n=>Ks (Hv n) (gd (ke (lF (SN n)) (ke (lF (aeI n)) kj)) ko) func85 ntmps85 results85
@[reducible] def P8:kU Bool:=oI e8 f115 n (nH e8 [.tmp 4] mX) (cd:=JB [(116,qa (ny (lM jY.kH) mX (A8 n))),(117,qa (ny (lM jY.kH) mI (IZ n))),(147,qa (uC (lM jY.kH) mI mX (JQ n)))]) (vf:=mg []) (vJ:=mg [])
@[go_sem]def abJ:tM (P8 n) [0,1]=true:=jV
def I0:SC2 (P8 n) (lM jY.kH) (lM jY.kH) 23:=mB
def AF:=fu fun n=>(I0 n).1
def NS: ∀n:Nat,GO e8 115 (lM jY.kH) (lM jY.kH) mX (AF n):=LX fun n=>Ks (I0 n) (gd kj (ng (mr (EG n)) (ng (mr (Ym n)) (ng (vh (aeT n)) ko)))) func115 ntmps115 results115
@[go_sem]abbrev DR(F:Option ((T9×Unit)×Unit))(b:Unit)(a:Unit):=F
@[go_sem]def I1(F:Option ((T9×Unit)×Unit)):=aag [] Fv kP (CH ogM Fv) (ZE 0 kP) (DR F)
@[reducible] def P9:kU ((T9×Unit)×Unit):=oI e8 f148 n (CT e8 [.tmp 0] [.arg 0 []] [] 0 (CH ogM Fv) (ZE 0 kP)) (cl:=nR [(183,ny mI (akr 207 (zI cS)) (NE n)),(207,Ih (KU n))]) (js:=azb [([0,1,0,1,1],[])])
@[go_sem]def Zj:lkM (P9 n) [0,1,0,1,1]=mD:=rfl
def Qa:SX (P9 n) kP Fv 9 DR:=mC
def Dg:=fu fun n=>(Qa n).1
def NT: ∀n:Nat,Xt e8 148 kP Fv (CH ogM Fv) (ZE 0 kP) (DR (Dg n)):=abw fun n=>abv (Qa n) (gd (ke (lF (Vo n)) (ke (Cu (RE n)) kj)) ko) func148 ntmps148 results148
@[reducible] def RM:kU Bool:=oI e8 f188 n (nH e8 [.tmp 4] mX) (cl:=nR [(211,uC mI (nq .i32) (nq .i64) (nu n))])
def Hw:SC2 (RM n) mI (nq .i32) 9:=mB
def vp:=fu fun n=>(Hw n).1
def Qb: ∀n:Nat,GO e8 188 mI (nq .i32) mX (vp n):=LX fun n=>Ks (Hw n) (gd (ke (pJ (J2 n)) kj) ko) func188 ntmps188 results188
@[go_sem]def Ck:yd:=⟨[],[],(zK::mN (zK::wv (mL (mN (mN (mN [])))))),[oC [zK,zK,zK,zK,zK],oK,oK,oK],none,none⟩
@[reducible] def Dh:kU Tz:=oI e8 f152 n (CT e8 [.tmp 2,.tmp 3,.tmp 4] [] [0,1,2,3] 4 kJ mZ) (cl:=nR [(156,ny (nq .u8) (nq .i64) (AW n)),(184,ny (nq .u8) mX (wU n))]) (rG:=q9 [([0,0,0,0,0,0,1,1],Ck),([0,0,1,1],Ck)]) (vf:=mg []) (vJ:=mg [])
@[go_sem]def V3:an5 (Dh n) [0,0,1,0,0,1,1,1,1] [0,1,1,1]:=⟨jV,jV⟩
@[go_sem]abbrev Il(v0:Int)(v1:Str)(v2:Int)(r1 r2 r3:List (Str×Bool)):jZ:=⟨(.ptr 0 0::mY (.int .i64 v0::wu (mQ (mY (mY (mY [])))))),[.cells [.str (sb v1),.int .i64 v2,.map 1,.map 2,.map 3],.map (mp DG r1),.map (mp DG r2),.map (mp DG r3)],4,[]⟩
@[go_sem]abbrev Im(m2:Nat):List Kt:=[.blk 2,.cut [1,0,0,0,0,1,1],.at [1,0,0,0,0,1,1],.blk 1,.lp m2 [0,0,1,1],.blk 0,.cut [1,1,1],.at [1,1,1]]
abbrev xU(K:List Kt)(Z:nS):Prop:= ∀v0 v1 v2 r1 r2 r3,run (Dh n) K (Il v0 v1 v2 r1 r2 r3)=Z v0 v1 v2 r1 r2 r3
def uG:LB2 (xU n) [0,0,1,1] [.blk 0,.cut [1,1,1],.at [1,1,1]] (xU n) [0,0,0,0,0,0,1,1] Im:=mB
def rW(X2:nS):Nat->nS:=yC ((uG n).1 X2)
def FX{n:Nat}(X2:nS):rW n X2 (m+1)=(uG n).1 X2 (rW n X2 m):=rfl
def OY{X2}(h2:xU n (.lq m2 [0,0,1,1]::[.blk 0,.cut [1,1,1],.at [1,1,1]]) X2)(m:Nat):=an7 (uG n) h2 (rW n X2) m
def xV:LB (xU n) [0,0,1,1] [.blk 0,.cut [1,1,1],.at [1,1,1]]:=by
 apply fB;intro m X0 ih v0 v1 v2 r1 r2 r3;simp (config:={maxSteps:=100000000}) only[go_sem,fg,fi,e9,fa,fj,fk,fo,fp,fq,fb,fm,fw,f152,fc,mixed,OY n ih,ih];exact rfl
def qx:Nat->nS:=yC ((xV n).1)
def Qc{n:Nat}:qx n (m+1)=(xV n).1 (qx n m):=rfl
@[go_sem]def OZ(m:Nat):=BK (xV n) (qx n) m
def Di:SX (Dh n) (lS 0 kP) kJ 98 nD:=mC
def Bm:=fu fun n=>(Di n).1
def Uo: ∀n:Nat,Xt e8 152 (lS 0 kP) kJ kJ mZ (nD (Bm n)):=abw fun n=>abv (Di n) (gd (ke (lF (CU n)) (ke (lF (KA n)) kj)) ko) func152 ntmps152 results152
@[go_sem]def FY:yd:=⟨[],[],(zK::mN (zK::wv (mN (mN (mN (zA::zA::[])))))),[oC [zK,zK,zK,zK,zK],oK,oK,oK],none,none⟩
@[reducible] def Bn:kU Tz:=oI e8 f153 n (CT e8 [.tmp 2,.tmp 3,.tmp 4] [] [0,1,2,3] 4 kJ mZ) (cl:=nR [(156,ny (nq .u8) (nq .i64) (AW n)),(184,ny (nq .u8) mX (wU n))]) (rG:=q9 [([0,0,1,1],FY)]) (vf:=mg []) (vJ:=mg [])
@[go_sem]def RN:atp (Bn n) [0,0,1,0,0,1,1,1] [0,0,1,1,1,0,0,1,1,1] [0,1,1,0,0,1,1,1]:=⟨jV,jV,jV⟩
@[go_sem]abbrev FZ(v0:Int)(v1:Str)(v2:Int)(r1 r2 r3:List (Str×Bool)):jZ:=⟨(.ptr 0 0::mY (.int .i64 v0::wu (mY (mY (mY (qA::qA::[])))))),[.cells [.str (sb v1),.int .i64 v2,.map 1,.map 2,.map 3],.map (mp DG r1),.map (mp DG r2),.map (mp DG r3)],4,[]⟩
abbrev Qd(K:List Kt)(Z:nS):Prop:= ∀v0 v1 v2 r1 r2 r3,run (Bn n) K (FZ v0 v1 v2 r1 r2 r3)=Z v0 v1 v2 r1 r2 r3
def sV:LB (Qd n) [0,0,1,1] [.blk 0,.cut [1,1,1],.at [1,1,1]]:=mB
def sW:Nat->nS:=yC ((sV n).1)
def D7{n:Nat}:sW n (m+1)=(sV n).1 (sW n m):=rfl
@[go_sem]def Mj(m:Nat):=BK (sV n) (sW n) m
def Bo:SX (Bn n) (lS 0 kP) kJ 84 nD:=mC
def yK:=fu fun n=>(Bo n).1
def Qe: ∀n:Nat,Xt e8 153 (lS 0 kP) kJ kJ mZ (nD (yK n)):=abw fun n=>abv (Bo n) (gd (ke (lF (CU n)) (ke (lF (KA n)) kj)) ko) func153 ntmps153 results153
open Go.Proofs
@[go_sem]def KV:yd:=⟨[],[],(zA::zK::mL (mL (mN (mN (zA::zA::zA::zK::mN (mN (zA::[]))))))),[oK],none,none⟩
@[go_sem]def KW:yd:=⟨[],[],(zK::mN (zA::zK::zA::zK::mL (mL (mN (mN (mN (zA::zA::[]))))))),[oC [zA]],none,none⟩
@[reducible] def FA:kU Int:=oI e8 f187 n (nH e8 [.tmp 4] (nq .i64)) (cl:=nR [(211,uC mI (nq .i32) (nq .i64) (nu n)),(212,ny (nq .i64) mX (strings_shouldUseASCIISet n))]) (rG:=q9 [([0,1,0,1,1,1,1],KV),([0,1,0,0,1,1,0,1,0,1,1,1],KW)])
abbrev KX(v0 iv0:Str)(ip0:Nat):jZ:=⟨(qA:: .str (sb v0)::mQ (mQ (mY (mY (qA::qA::qA:: .ptr 0 0::mY (mY (qA::[]))))))),[.iter (sb iv0) ip0],0,[]⟩
abbrev KY:=Str->Str->Nat->Option Int
abbrev XI(K:List Kt)(Z:KY):Prop:= ∀v0 iv0 ip0,run (FA n) K (KX v0 iv0 ip0)=Z v0 iv0 ip0
abbrev KZ(v0:Str)(v1:Int):jZ:=⟨(.str (sb v0)::mY (qA:: .ptr 0 0::qA:: .int .i64 v1::mQ (mQ (mY (mY (mY (qA::qA::[]))))))),[.cells [qA]],0,[]⟩
abbrev K1:List Kt:=[.blk 0,.cut [1,0,1,1,0,1,0,1,1,1],.at [1,0,1,1,0,1,0,1,1,1],.cut [1,1,1,1],.at [1,1,1,1]]
abbrev XJ(K:List Kt)(Z:Bl):Prop:= ∀v0 v1,run (FA n) K (KZ v0 v1)=Z v0 v1
attribute [go_sem] KX KZ K1
def zV:LB (XI n) [0,1,0,1,1,1,1] [.blk 2,.cut [1,1,1,1,1],.at [1,1,1,1,1]]:=mB
def wE:Nat->KY:=yC ((zV n).1)
def Up{n:Nat}:wE n (m+1)=(zV n).1 (wE n m):=rfl
@[go_sem]def RO(m:Nat):=BK (zV n) (wE n) m
def Er:LB (XJ n) [0,1,0,0,1,1,0,1,0,1,1,1] K1:=mB
def Es:Nat->Bl:=yC ((Er n).1)
def ajh{n:Nat}:Es n (m+1)=(Er n).1 (Es n m):=rfl
@[go_sem]def RQ(m:Nat):=BK (Er n) (Es n) m
def FB:{B:Str->Str->Option Int // ∀(a0:Str)(a1:Str),run (FA n) [.at []] (ini [mI.enc a0,mI.enc a1] 55)=B a0 a1}:=mB
def strings_IndexAny:=fu fun n=>(FB n).1
def XK: ∀(n:Nat)(a0:Str)(a1:Str)(r:Int),strings_IndexAny n a0 a1=some r->IR e8 187 [mI.enc a0,mI.enc a1] (fun v=>v=(nq .i64).enc r)
 |0,_,_,_,h=>by cases h
 |n+1,a0,a1,r,h=>by
  exact okC (((FB n).2 a0 a1).trans h) (gd (ke (pJ (J2 n)) (ke (lF (Kv n)) kj)) ko) func187 ⟨mI.nb 0 _,mI.nb 0 _,trivial⟩ ntmps187 results187
@[go_sem]abbrev ol(F:Int->jX->Option Ts)(b:T6)(a:(Int×Unit)):=F a.1 b.1.1
@[go_sem]def lu(F:Int->jX->Option Ts):=uF true [.arg 0 []] jW (lS 0 (mh (nq .i64) kP)) jW kP jW j9 (ol F)
@[reducible] def RR:kU Ts:=oI e8 f103 n (py e8 [] [] [0] 1 jW kP) (cl:=nR [(58,AQ (qa (ny (zI jX.kH) (nq .i64) (oN n))))]) (oz:=pz [] [0] 1 jW j9)
def Bp:SX (RR n) (lS 0 (mh (nq .i64) kP)) jW 9 ol:=yD
def me:=fu fun n=>(Bp n).1
def sX: ∀n:Nat,qR e8 103 (lS 0 (mh (nq .i64) kP)) jW true jW kP jW j9 (ol (me n)):=Rm fun n=>A6 (Bp n) (gd (ke (oP (mr (rV n))) kj) ko) func103 ntmps103 results103
@[reducible] def RS:kU Bool:=oI e8 f79 n (nH e8 [.tmp 4] mX) (cl:=nR [(74,Vg (zI jX.kH) (nq .i64) mI mX (sS n))])
def Bq:SC2 (RS n) (zI jX.kH) mI 8:=mB
def mF:=fu fun n=>(Bq n).1
def nU: ∀n:Nat,GO e8 79 (zI jX.kH) mI mX (mF n):=LX fun n=>Ks (Bq n) (gd (ke (aab (wD n)) kj) ko) func79 ntmps79 results79
@[go_sem]def SQ:yd:=⟨[(5,9,true)],[],(zA::zA::zA::zK::zA::zK::zA::zA::zT (nP nO)::zK::zK::mN (mN (mN []))),[oT Syntax.kH,oA kg.row],none,none⟩
@[reducible] def V4:kU Tx:=oI e8 f124 n (nH e8 [.tmp 4] (nP kg.row)) (cl:=nR [(160,ny (lM Syntax.kH) (lM Syntax.kH) (tH n))]) (rG:=q9 [([0,1,0,1,1],SQ)])
@[go_sem]abbrev SR(v0:List Str)(v1 v2:Int)(o0:Syntax)(r1:List kg)(c1:Nat):jZ:=⟨(qA::qA::qA:: .ptr 0 0::qA:: .acc 1 c1::qA::qA:: .mb false 1 (mp nB v0):: .int .i64 v1:: .int .i64 v2::mY (mY (mY []))),[.cells (Syntax.cells o0),.acc true 9 (mp kg.cells r1)],0,[]⟩
abbrev SS:=(List Str)->Int->Int->Syntax->Tx->Option Tx
abbrev ac6(K:List Kt)(Z:SS):Prop:= ∀v0 v1 v2 o0 r1 c1,c1=r1.length->run (V4 n) K (SR v0 v1 v2 o0 r1 c1)=Z v0 v1 v2 o0 r1
def BR:LB (ac6 n) [0,1,0,1,1] [.blk 0,.cut [1,1,1],.at [1,1,1]]:=mB
def BS:Nat->SS:=yC ((BR n).1)
def NU{n:Nat}:BS n (m+1)=(BR n).1 (BS n m):=rfl
@[go_sem]def Zk(m:Nat):=BK (BR n) (BS n) m
def Mk:SC2 (V4 n) (nP nO) (lM Syntax.kH) 23:=mB
def DS:=fu fun n=>(Mk n).1
def SU: ∀n:Nat,GO e8 124 (nP nO) (lM Syntax.kH) (nP kg.row) (DS n):=LX fun n=>Ks (Mk n) (gd (ke (lF (PZ n)) kj) ko) func124 ntmps124 results124
@[reducible] def Yq:kU Syntax:=oI e8 f121 n (nH e8 [.cell 6 29] (lM Syntax.kH)) (cl:=nR [(158,ny (nP kg.row) (akr 190 (zI (cL kg.row))) (Ce n)),(190,D4 (Ay n))]) (js:=azb [([0,1,0,1],[])])
@[go_sem]def ac7:lkM (Yq n) [0,1,0,1]=oB:=rfl
def O0:SC3 (Yq n) (lM Syntax.kH) (nP kg.row) (lM Syntax.kH) 29:=mB
def AX:=fu fun n=>(O0 n).1
def Ml: ∀n:Nat,aiv e8 121 (lM Syntax.kH) (nP kg.row) (lM Syntax.kH) (lM Syntax.kH) (AX n):=azu fun n=>atq (O0 n) (gd (ke (lF (OH n)) (ke (Cu (Mc n)) kj)) ko) func121 ntmps121 results121
@[reducible] def EQ:kU Bool:=oI e8 f161 n (nH e8 [.tmp 2] mX) (cl:=nR [(56,ny (zI jX.kH) (lM kI.kH) (lG n))]) (cd:=JB [(195,qa (uC (nP nO) mI mX (mR n)))]) (vf:=mg []) (vJ:=mg [])
@[go_sem]def O1:tM (EQ n) [0,1,1]=true:=jV
def zn:NA (EQ n) (zI jX.kH) 25:=mB
def tW:=fu fun n=>(zn n).1
def D8: ∀n:Nat,xm e8 161 (zI jX.kH) mX (tW n):=Cb fun n=>zd (zn n) (gd (ke (lF (lJ n)) kj) (ng (vh (D6 n)) ko)) func161 ntmps161 results161
open Go.Proofs
@[go_sem]def oV:=(mh (lM Syntax.kH) (mh (nq .i64) kP))
@[go_sem]abbrev pH(F:Int->(List Syntax)->Int->Int->Td->Td->T9->Option Tl)(b:Ta)(a:(Int×Unit)):=F a.1 b.1.1 b.1.2.1 b.2.1.1 b.2.2.1 b.2.2.2.1 b.2.2.2.2.1
@[go_sem]def wW(F:Int->(List Syntax)->Int->Int->Td->Td->T9->Option Tl):=uF true [.arg 0 [],.obj 0 0 [],.obj 1 0 [],.obj 1 1 [],.obj 1 2 []] kv (lS 0 (mh (nq .i64) kP)) kv oV kv (mh (Oq 202 Vk) kP) (pH F)
@[go_sem]def qK:=(lS 0 (mh (lM jY.kH) (mh (nq .i64) (mh (aqF Syntax.row) (mh (nq .i64) kP)))))
@[go_sem]abbrev rB(F:jY->Int->(List Syntax)->Int->(List Syntax)->Int->Int->Td->Td->T9->Option To)(b:Ta)(a:(jY×(Int×((List Syntax)×(Int×Unit))))):=F a.1 a.2.1 a.2.2.1 a.2.2.2.1 b.1.1 b.1.2.1 b.2.1.1 b.2.2.1 b.2.2.2.1 b.2.2.2.2.1
@[go_sem]def Br(F:jY->Int->(List Syntax)->Int->(List Syntax)->Int->Int->Td->Td->T9->Option To):=uF true [.arg 0 [],.obj 0 0 [],.obj 1 0 [],.obj 1 1 [],.obj 1 2 []] kv qK kv (mh (lM Syntax.kH) kP) kv (mh (Oq 202 Vk) kP) (rB F)
structure kA where
 mG:Int->(List Syntax)->Int->Int->Td->Td->T9->Option Tl
 lN:Int->(List Syntax)->Int->Int->Td->Td->T9->Option Tl
 nI:jY->Int->(List Syntax)->Int->(List Syntax)->Int->Int->Td->Td->T9->Option To
open Go.Proofs
@[go_sem]def F0:yd:=⟨[],[],(zK::zK::zA::zA::zK::zA::zK::zK::mL (mL (mL (mN (zA::zA::zA::[]))))),[oC [zK,zT (nP Syntax.row),zK],oC [zK,zK,zK,zK],oM (lM jY.kH),oM (lM jY.kH),oK,oK,oT Syntax.kH],none,none⟩
@[reducible] def Hx(X:kA)(n:Nat):kU Tl:=oI e8 f199 n (py e8 [.cell 4 29,.tmp 5] [] [0,1,2,3,4] 5 kv oV) (cl:=nR [(221,zi (tR n)),(222,uC (lM jY.kH) (nq .i64) (nq .i64) (EM n))]) (rG:=q9 [([0,1,1],F0)]) (oz:=pz [] [0,1,2,3,4] 5 kv (mh (Oq 202 Vk) kP)) (cp:=yj [(220,wW X.lN),(223,Br X.nI)]) (uR:=mg [220,223])
@[go_sem]abbrev F1(v0 v1:Int)(v2:List Syntax)(v3 v4:Int)(r2 r3:List (Str×jY))(r4:List (Str×Bool))(o6:Syntax):jZ:=⟨(.ptr 0 0:: .int .i64 v0::qA::qA:: .ptr 5 0::qA:: .ptr 6 0:: .int .i64 v1::mQ (mQ (mQ (mY (qA::qA::qA::[]))))),[.cells [.ptr 1 0,.mb false 8 (mp Syntax.cells v2),.int .i64 v3],.cells [.map 2,.map 3,.map 4,.int .i64 v4],.map (mp (KK (lM jY.kH)) r2),.map (mp (KK (lM jY.kH)) r3),.map (mp DG r4),.cells [.int .i64 0,.str (sb []),.int .i64 0,.mb true 0 [],.mb true 0 [],.mb true 0 [],.int .i64 0,.int .i64 0],.cells (Syntax.cells o6)],5,[]⟩
abbrev F2:=Int->Int->(List Syntax)->Int->Int->Td->Td->T9->Syntax->Option Tl
abbrev Qf(X:kA)(n:Nat)(K:List Kt)(Z:F2):Prop:= ∀v0 v1 v2 v3 v4 r2 r3 r4 o6,run (Hx X n) K (F1 v0 v1 v2 v3 v4 r2 r3 r4 o6)=Z v0 v1 v2 v3 v4 r2 r3 r4 o6
def qL(X:kA)(n:Nat):LB (Qf X n) [0,1,1] [.blk 0]:=Cv
def oW(X:kA)(n:Nat):Nat->F2:=yC ((qL X n).1)
def yq(X:kA){n:Nat}:oW X n (m+1)=(qL X n).1 (oW X n m):=rfl
@[go_sem]def Mm(X:kA)(n:Nat)(m:Nat):=BK (qL X n) (oW X n) m
def tX(X:kA)(n:Nat):SX (Hx X n) (lS 0 (mh (nq .i64) kP)) kv 63 pH:=yD
open Go.Proofs
@[reducible] def lH(X:kA)(n:Nat):kU Tl:=oI e8 f220 n (py e8 [.cell 4 29,.tmp 5] [] [0,1,2,3,4] 5 kv oV) (cl:=nR [(245,ny (lM jY.kH) mX (Aq n))]) (oz:=pz [] [0,1,2,3,4] 5 kv (mh (Oq 202 Vk) kP)) (co:=MW [(223,FR [.arg 0 [],.obj 0 0 [],.obj 1 0 [],.obj 1 1 [],.obj 1 2 []] kv qK kv (mh (lM Syntax.kH) kP) kv (mh (Oq 202 Vk) kP) (rB X.nI))]) (cp:=yj [(223,Br X.nI)]) (uR:=mg [223]) (vf:=mg [223]) (vJ:=mg [])
def Nb(X:kA)(n:Nat):an6 (lH X n) [0,0,1] [0,0,1,1,1,0,0,1,1,1,1,1] [0,1,1] [0,1,1,1,1]:=⟨jV,jV,jV,jV⟩
def Nc(X:kA)(n:Nat):Ej (lH X n) [0,0,1,1,1,0,0,1,1,1,1,1] 1 4 3 4 1 7 3 7/\Py (lH X n) [0,0,1,1,1,0,0,1,1,1,1,1] 4 7=true/\Ej (lH X n) [0,1,1] 3 11 7 11 8 11 9 11/\Py (lH X n) [0,1,1] 10 11=true/\Ej (lH X n) [0,1,1,1,1] 3 14 6 14 8 14 9 14/\Py (lH X n) [0,1,1,1,1] 13 14=true:=⟨⟨jV,jV,jV,jV⟩,jV,⟨jV,jV,jV,jV⟩,jV,⟨jV,jV,jV,jV⟩,jV⟩
def Nd(X:kA)(n:Nat):Ib (lH X n) [0,0,1,1,1,0,0,1,1,1,1,1] 4 5=false/\Ib (lH X n) [0,0,1,1,1,0,0,1,1,1,1,1] 4 6=false/\Ib (lH X n) [0,0,1,1,1,0,0,1,1,1,1,1] 4 7=true/\Ib (lH X n) [0,0,1,1,1,0,0,1,1,1,1,1] 4 8=true/\Oi (lH X n) [0,0,1,1,1,0,0,1,1,1,1,1] 4=false:=⟨jV,jV,jV,jV,jV⟩
attribute [go_sem] Nb Nc Nd
def n9(X:kA)(n:Nat):SX (lH X n) (lS 0 (mh (nq .i64) kP)) kv 83 pH:=yD
end Go.Abs
end
