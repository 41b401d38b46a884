/- A part of the proof: what the functions compute. -/
import Derived.Test.YtdkeelhebopgkaaGreatDoorDataA
import Derived.Test.YtdkeelhebopgkaaGreatDoorExtA
set_option linter.all false
open Go.Proofs.Tryz renaming prog→e8
open Nat renaming reduceLeDiff→e9,reduceEqDiff→fa,reduceAdd→fc,reduceSub→fg,reduceBEq→fi,reduceMul→fj,reduceLT→fm,le_trans→fy,le_of_eq→fz
open Int renaming reduceToNat→fb,reduceBEq→fk,reduceLE→fo,reduceLT→fp,reduceEq→fq
open Option renaming getD_some→fw
open List renaming replicate→fx
open Subtype renaming mk→fA
open Go.Abs.AV renaming any→qA
noncomputable section
open Go.Proofs.Tryz
namespace Go.Abs
variable {m m2 m3:Nat}
variable (n:Nat)
open Go.Proofs
attribute [go_sem] f134 f90 f49 f86 f87 f116 f145 f182 f31 f32 f183 f148 f156 f186 f135 f238 f136 f151 f212 f70 f73 f56 f191 f192 f194 f193 f157 f158 f121 f289 f216 f198 f218 f244 f245 f270 f221 f165 f48 f46 f89 f91 f81 f63 f38 f174 f130 f131 f169 f276 f227 f251 f40 f84 f146 f117 f147 f207 f184 f150 f211 f93 f58 f59 f74 f159 f160 f120 f190 f162 f195 f243 f260 f222 f126 f22 f61 f108 f62 f112 f229 f170 f133 f16 f85 f115 f188 f152 f153
set_option maxRecDepth 100000
set_option maxHeartbeats 4000000
@[reducible] def amQ:kR Bool:=nX e8 f134 n (nT e8 [.tmp 2] nk)
def QK:R2 (amQ n) (lR .u8) 17:=mB
def Qa:=fu fun n=>(QK n).1
def akH:∀n:Nat,zm e8 134 (lR .u8) nk (Qa n):=AH fun n=>Ap (QK n) (gd j9 ke) func134 ntmps134 results134
@[reducible] def aoc:kR Bool:=nX e8 f90 n (nT e8 [.tmp 2] nk)
def UK:R2 (aoc n) (lR .u8) 9:=mB
def N8:=fu fun n=>(UK n).1
def abI:∀n:Nat,zm e8 90 (lR .u8) nk (N8 n):=AH fun n=>Ap (UK n) (gd j9 ke) func90 ntmps90 results90
@[go_sem]def Wc:wH:=⟨[],[],(zK::zA::zA::zT (mZ mq)::zK::nf (nf (nf (zA::[])))),[],none,none⟩
@[reducible] def ZL:kR Bool:=nX e8 f49 n (nT e8 [.tmp 2] nk) (rK:=qF [([0,1,0,1,1],Wc)])
@[go_sem]abbrev Wd(v0:Str)(v1:List Str)(v2:Int):jX:=⟨(.str (sb v0)::qA::qA::.lS false 1 (mp nh v1)::.int .i64 v2::nv (nv (nv (qA::[])))),[],0,[]⟩
abbrev zn:=Str->(List Str)->Int->Option Bool
abbrev ajc(K:List Kt)(Z:zn):Prop:=∀v0 v1 v2,run (ZL n) K (Wd v0 v1 v2)=Z v0 v1 v2
def Gy:LB (ajc n) [0,1,0,1,1] [.qU 0,.cut [1,1,1],.at [1,1,1]]:=mB
def Gz:Nat->zn:=xb ((Gy n).1)
def agh{n:Nat}:Gz n (m+1)=(Gy n).1 (Gz n m):=rfl
@[go_sem]def aed(m:Nat):=yL (Gy n) (Gz n) m
def aMn:R2 (ZL n) mb 18:=mB
def HK:=fu fun n=>(aMn n).1
def We:∀n:Nat,zm e8 49 mb nk (HK n):=AH fun n=>Ap (aMn n) (gd j9 ke) func49 ntmps49 results49
@[go_sem]def afe:wH:=⟨[],[],(zK::zA::zA::zK::zK::nf (nf (zA::zA::zA::[]))),[],none,none⟩
@[reducible] def ahJ:kR Bool:=nX e8 f86 n (nT e8 [.tmp 2] nk) (rK:=qF [([0,1,0,1,1],afe)])
@[go_sem]abbrev aff(v0:Int)(v1:Str)(v2:Int):jX:=⟨(.int .u8 v0::qA::qA::.str (sb v1)::.int .i64 v2::nv (nv (qA::qA::qA::[]))),[],0,[]⟩
abbrev afg:=Int->Str->Int->Option Bool
abbrev aod(K:List Kt)(Z:afg):Prop:=∀v0 v1 v2,run (ahJ n) K (aff v0 v1 v2)=Z v0 v1 v2
def UL:LB (aod n) [0,1,0,1,1] [.qU 0,.cut [1,1,1],.at [1,1,1]]:=mB
def UM:Nat->afg:=xb ((UL n).1)
def aAu{n:Nat}:UM n (m+1)=(UL n).1 (UM n m):=rfl
@[go_sem]def ajd(m:Nat):=yL (UL n) (UM n) m
def ahK:R2 (ahJ n) (lR .u8) 16:=mB
def Ya:=fu fun n=>(ahK n).1
def aoe:∀n:Nat,zm e8 86 (lR .u8) nk (Ya n):=AH fun n=>Ap (ahK n) (gd j9 ke) func86 ntmps86 results86
@[reducible] def aof:kR (List Str):=nX e8 f87 n (nT e8 [.tmp 0] (awL mq))
def UN:SC0 (aof n) 2:=mB
def N9:=fu fun n=>(UN n).1
def abJ:∀n:Nat,azE e8 87 (awL mq) (N9 n):=aHz fun n=>aHy (UN n) (gd j9 ke) func87 ntmps87 results87
@[reducible] def aqW:kR Bool:=nX e8 f116 n (nT e8 [.tmp 2] nk)
def Yb:R2 (aqW n) (lJ jV.ku) 8:=mB
def zD:=fu fun n=>(Yb n).1
def Bi:∀n:Nat,zm e8 116 (lJ jV.ku) nk (zD n):=AH fun n=>Ap (Yb n) (gd j9 ke) func116 ntmps116 results116
open Go.Proofs
@[reducible] def aog:kR Bool:=nX e8 f145 n (nT e8 [.tmp 2] nk)
def UO:R2 (aog n) (lJ jV.ku) 12:=mB
def Jo:=fu fun n=>(UO n).1
def QL:∀n:Nat,zm e8 145 (lJ jV.ku) nk (Jo n):=AH fun n=>Ap (UO n) (gd j9 ke) func145 ntmps145 results145
@[reducible] def amR:kR Bool:=nX e8 f182 n (nT e8 [.tmp 2] nk)
def QM:R2 (amR n) (lR .u8) 21:=mB
def Qb:=fu fun n=>(QM n).1
def akI:∀n:Nat,zm e8 182 (lR .u8) nk (Qb n):=AH fun n=>Ap (QM n) (gd j9 ke) func182 ntmps182 results182
@[go_sem]def kB:=(EY (VP (alC Syntax.ku 8 k7)) (EY (VP (alC (cI .i64) 1 k7)) (EY (VP (alC (cI .i64) 1 k7)) Fw)))
@[reducible] def Dl:kR (Tj×Unit):=nX e8 f31 n (Dj e8 [] [] [0,1,2] 3 kB k7)
def IU:{B:Syntax->Int->Int->Option (Tj×Unit) //∀(o0:Syntax)(o1:Int)(o2:Int),run (Dl n) [.ky (tA (Dl n) [0]) ((tA (Dl n) [0]).toList.drop 1),.cut [1],.at [1]] (jX.put {kr:=((my 0 (my 1 (my 2 k7))).enc (kB.mX ((o0,()),(o1,()),(o2,()),())) ())++fx (15-((my 0 (my 1 (my 2 k7))).enc (kB.mX ((o0,()),(o1,()),(o2,()),())) ()).length) qA,heap:=(kB.enc (kB.mX ((o0,()),(o1,()),(o2,()),())) ((o0,()),(o1,()),(o2,()),())),low:=(kB.enc (kB.mX ((o0,()),(o1,()),(o2,()),())) ((o0,()),(o1,()),(o2,()),())).length} (some 5) (.uE .nilIface))=B o0 o1 o2}:=mB
def xc:=fu fun n=>(IU n).1
def aee:∀(n:Nat)(o0:Syntax)(o1:Int)(o2:Int)(r:(Tj×Unit)),xc n o0 o1 o2=some r->FnT e8 (anZ e8 31) ((my 0 (my 1 (my 2 k7))).enc (kB.mX ((o0,()),(o1,()),(o2,()),())) ()) (kB.enc (kB.mX ((o0,()),(o1,()),(o2,()),())) ((o0,()),(o1,()),(o2,()),())) (fun o H'=>o=(enR kB k7 r).1/\H'=(enR kB k7 r).2)
 |0,_,_,_,_,h=>by cases h
 |n+1,o0,o1,o2,r,h=>by
  exact ahG (M:=Dl n) (p1:=[]) (b1:=[0,1,2]) (args:=((my 0 (my 1 (my 2 k7))).enc (kB.mX ((o0,()),(o1,()),(o2,()),())) ())) ⟨j9,ke,mU _,nn _,oR,oS,pM,qe⟩ func31 rfl (jR) (tB (fy (jO (jR)) (fz (kB.sz _ _).symm)) _ ((my 0 (my 1 (my 2 k7))).nb (kB.mX ((o0,()),(o1,()),(o2,()),())) ())) (fun x hx=>Es (fy (jO (jR)) (fz (kB.sz _ _).symm)) _ (kB.nb _ _ x hx)) ntmps31 results31 (low:=3) (by rfl) rfl (((IU n).2 o0 o1 o2).trans h)
@[go_sem]def j8:=(mH (UI 66 (lJ kq.ku)) k7)
@[go_sem]abbrev Ix(F:kq->Option (Unit×T9))(b:Unit)(a:T9):=F a.1
@[go_sem]def ZM(F:kq->Option (Unit×T9)):=aaj [] Fw j8 Fw (mH (lJ kq.ku) k7) (Ix F)
@[reducible] def akJ:kR (Unit×T9):=nX e8 f32 n (Dj e8 [.cell 2 66] [] [] 0 Fw (mH (lJ kq.ku) k7))
def Iy:SX (akJ n) j8 Fw 14 Ix:=mC
def NE:=fu fun n=>(Iy n).1
def aje:∀n:Nat,R8 e8 32 j8 Fw Fw (mH (lJ kq.ku) k7) (Ix (NE n)):=ahI fun n=>abF (Iy n) (gd j9 ke) func32 ntmps32 results32
@[reducible] def aef:kR Str:=nX e8 f183 n (nT e8 [.tmp 2] (atg 207 (rI cS))) (cut:=agb [([1,1],[0])])
def Ps:R2 (aef n) mb 4:=mB
def SN:=fu fun n=>(Ps n).1
def abK:∀n:Nat,zm e8 183 mb (atg 207 (rI cS)) (SN n):=AH fun n=>Ap (Ps n) (gd j9 ke) func183 ntmps183 results183
def nM:yo:=(aDH [] (sub [0,1,0,1,1] ((f148.body).getD .skip)))
@[go_sem,go_sem]def yM:nM.ps.size=1/\∀j:Int,qW nM.js j=none:=⟨jR,fun j=>(by show qW [] j=none;unfold qW axH;cases (j==0)<;>rfl)⟩
@[go_sem]def k6:=(EY (azp nM (alZ (my 1 (ahx 7 k7)))) (EY (VP (alM 2 k7)) (EY ogM Fw)))
@[go_sem]def l9:=(EY (ogL nM (alZ (my 1 (ahx 7 k7)))) (EY (VP (alM 2 k7)) (EY ogM Fw)))
def lY:kR (TC×(Bool×Unit)) where
 body:=.seq (amF (sub [0,1,0,1,1] ((f148.body).getD .skip))) (awE (sub [0,1,0,1,1] ((f148.body).getD .skip)))
 P:=e8
 cl:=ni []
 cd:=N5 []
 rK:=qF []
 cut:=agb []
 n:=n
 out:=(fun _=>none)
 nT:=ahB [] [] [0,1,2] 3 l9
 wF:=mc []
def Oa:(lY n).P=e8/\(lY n).cl=ni []/\(lY n).cd=N5 []/\(lY n).rK=qF []/\(lY n).cut=agb []/\(lY n).n=n/\(lY n).out=(fun _=>none)/\(lY n).nT=ahB [] [] [0,1,2] 3 l9/\(lY n).wF=mc []:=⟨rfl,rfl,rfl,rfl,rfl,rfl,rfl,rfl,rfl⟩
def Ob:(lY n).body=.seq (amF (sub [0,1,0,1,1] ((f148.body).getD .skip))) (awE (sub [0,1,0,1,1] ((f148.body).getD .skip))):=rfl
def Oc:Code.seq (amF (sub [0,1,0,1,1] ((f148.body).getD .skip))) (awE (sub [0,1,0,1,1] ((f148.body).getD .skip)))=Code.seq nM.assign nM.body:=jR
attribute [go_sem] Oa Ob yM
def C8:{B:Str->Ta->Option (TC×(Bool×Unit)) //∀(a0:Str)(o0:Ta),run (lY n) [.at [0],.rb,.at [1],.rd] {kr:=V4 ((alZ (my 1 (ahx 7 k7))).enc (k6.mX ((),(),o0,())) ()) [5] ((mH mb k7).enc (k6.mX ((),(),o0,())) (a0,())),heap:=(k6.enc (k6.mX ((),(),o0,())) ((),(),o0,())),low:=(k6.enc (k6.mX ((),(),o0,())) ((),(),o0,())).length}=B a0 o0}:=mB
def E3:=fu fun n=>(C8 n).1
def Nf:∀(n:Nat)(a0:Str)(o0:Ta)(r:(TC×(Bool×Unit))),E3 n a0 o0=some r->FnT e8 (abo e8) ((mH mb k7).enc (k6.mX ((),(),o0,())) (a0,())) (k6.enc (k6.mX ((),(),o0,())) ((),(),o0,())) (fun o H'=>o=.ret (n6 ((mH nk k7).enc (l9.mX r.1) r.2))/\H'=l9.enc (l9.mX r.1) r.1)
 |0,_,_,_,h=>by cases h
 |n+1,a0,o0,r,h=>by
  exact ax2 (M:=lY n) (lk:=nM) (kr:=((alZ (my 1 (ahx 7 k7))).enc (k6.mX ((),(),o0,())) ())) ⟨j9,ke,mU _,nn _,oR,oS,pM,qe⟩ Oc (jR) ⟨jR,jR⟩ rfl (tB (fy (jO (jR)) (fz (k6.sz _ _).symm)) _ ((mH mb k7).nb _ _)) (fun x hx=>Es (fy (jO (jR)) (fz (k6.sz _ _).symm)) _ (k6.nb _ _ x hx)) (fun e J hs=>atC (js:=[]) (pos:=[]) (base:=[0,1,2]) (low:=3) (os:=l9) (e:=e) (J:=J) (r:=r) (by rfl) hs) (((C8 n).2 a0 o0).trans h)
open Go.Proofs
@[reducible] def aoh:kR Int:=nX e8 f156 n (nT e8 [.tmp 2] (lR .i64))
def UP:R2 (aoh n) (lR .u8) 28:=mB
def C9:=fu fun n=>(UP n).1
def Fy:∀n:Nat,zm e8 156 (lR .u8) (lR .i64) (C9 n):=AH fun n=>Ap (UP n) (gd j9 ke) func156 ntmps156 results156
def KB:wH:=⟨[],[],(zK::nf (nf (zK::zK::zA::zK::vD (mG (nf (nf (nf (zA::[])))))))),[oA mq],none,none⟩
def SO:wH:=⟨[],[],(zK::nf (nf (zK::zK::zK::zK::vD (mG (nf (nf (nf (zA::[])))))))),[oA mq],none,none⟩
def SQ:wH:=⟨[],[],(zK::zA::zA::zK::zK::zK::zK::vD (mG (mG (zA::zA::zA::[])))),[],none,none⟩
@[reducible] def GA:kR (List Str):=nX e8 f186 n (nT e8 [.tmp 2] (mZ mq)) (rK:=qF [([0,0,1,1,1,1,0,1,0,0,0,1,1,1,1,1,1,1,1,1,1,1,1],KB),([0,0,1,1,1,1,1,1,1,1,1,1,1,1],SO),([0,0,1,1,1,1,1,1,1,1,1,1],KB),([0,1,0,1,1,1,1],SQ)])
attribute [go_sem] KB SO SQ
abbrev SR(v0:Str)(v1 v2:Int)(r0:List Str)(c0:Nat):jX:=⟨(.str (sb v0)::nv (nv (.mE 0 c0::.int .i64 v1::qA::.int .i64 v2::vC (mM (nv (nv (nv (qA::[])))))))),[.mE false 1 (mp nh r0)],0,[]⟩
abbrev SS(m2:Nat):List Kt:=[.qU 6,.cut [1,1,1,1,1,0,1,0,0,0,1,1,1,1,1,1,1,1,1,1,1,1],.at [1,1,1,1,1,0,1,0,0,0,1,1,1,1,1,1,1,1,1,1,1,1],.qU 5,.lp m2 [0,0,1,1,1,1,1,1,1,1,1,1,1,1],.qU 4,.cut [1,1,1,1,1,1,1,1,1,1,1,1,1],.at [1,1,1,1,1,1,1,1,1,1,1,1,1]]
abbrev KC:=Str->Int->Int->(List Str)->Option (List Str)
abbrev SU(K:List Kt)(Z:KC):Prop:=∀v0 v1 v2 r0 c0,c0=r0.length->run (GA n) K (SR v0 v1 v2 r0 c0)=Z v0 v1 v2 r0
abbrev SV(v0:Str)(v1 v2 v3:Int)(r0:List Str)(c0:Nat):jX:=⟨(.str (sb v0)::nv (nv (.mE 0 c0::.int .i64 v1::.int .i64 v2::.int .i64 v3::vC (mM (nv (nv (nv (qA::[])))))))),[.mE false 1 (mp nh r0)],0,[]⟩
abbrev E4:List Kt:=[.qU 4,.cut [1,1,1,1,1,1,1,1,1,1,1,1,1],.at [1,1,1,1,1,1,1,1,1,1,1,1,1]]
abbrev E5:=Str->Int->Int->Int->(List Str)->Option (List Str)
abbrev KD(K:List Kt)(Z:E5):Prop:=∀v0 v1 v2 v3 r0 c0,c0=r0.length->run (GA n) K (SV v0 v1 v2 v3 r0 c0)=Z v0 v1 v2 v3 r0
abbrev SW:List Kt:=[.qU 2,.cut [1,1,1,1,1,1,1,1,1,1,1],.at [1,1,1,1,1,1,1,1,1,1,1]]
abbrev SY(v0:Str)(v1 v2 v3 v4:Int):jX:=⟨(.str (sb v0)::qA::qA::.int .i64 v1::.int .i64 v2::.int .u8 v3::.int .i64 v4::vC (mM (mM (qA::qA::qA::[])))),[],0,[]⟩
abbrev SZ:=Str->Int->Int->Int->Int->Option (List Str)
abbrev ahL(K:List Kt)(Z:SZ):Prop:=∀v0 v1 v2 v3 v4,run (GA n) K (SY v0 v1 v2 v3 v4)=Z v0 v1 v2 v3 v4
attribute [go_sem] SR SS SV E4 SW SY
def KE:LB2 (KD n) [0,0,1,1,1,1,1,1,1,1,1,1,1,1] E4 (SU n) [0,0,1,1,1,1,0,1,0,0,0,1,1,1,1,1,1,1,1,1,1,1,1] SS:=mB
def KF(X2:E5):Nat->KC:=xb ((KE n).1 X2)
def ave{n:Nat}(X2:E5):KF n X2 (m+1)=(KE n).1 X2 (KF n X2 m):=rfl
def abL{X2}(h2:KD n (.lq m2 [0,0,1,1,1,1,1,1,1,1,1,1,1,1]::E4) X2)(m:Nat):=aqT (KE n) h2 (KF n X2) m
def KG:LB (KD n) [0,0,1,1,1,1,1,1,1,1,1,1,1,1] E4:=by
 apply fA;intro m X0 ih v0 v1 v2 v3 r0 c0 ec0;subst ec0;simp (config:={maxSteps:=100000000}) only[go_sem,fc,fg,e9,fa,fi,fj,fm,fo,fp,fb,fk,fq,f186,fw,mixed,abL n ih,ih];exact rfl
def KH:Nat->E5:=xb ((KG n).1)
def avf{n:Nat}:KH n (m+1)=(KG n).1 (KH n m):=rfl
@[go_sem]def abM(m:Nat):=yL (KG n) (KH n) m
def KI:LB (SU n) [0,0,1,1,1,1,1,1,1,1,1,1] SW:=mB
def KJ:Nat->KC:=xb ((KI n).1)
def avg{n:Nat}:KJ n (m+1)=(KI n).1 (KJ n m):=rfl
@[go_sem]def abN(m:Nat):=yL (KI n) (KJ n) m
def KK:LB (ahL n) [0,1,0,1,1,1,1] [.qU 0,.cut [1,1,1,1,1],.at [1,1,1,1,1]]:=mB
def KL:Nat->SZ:=xb ((KK n).1)
def avh{n:Nat}:KL n (m+1)=(KK n).1 (KL n m):=rfl
@[go_sem]def abO(m:Nat):=yL (KK n) (KL n) m
def Wf:R2 (GA n) mb 106:=mB
def abP:=fu fun n=>(Wf n).1
def ahM:∀n:Nat,zm e8 186 mb (mZ mq) (abP n):=AH fun n=>Ap (Wf n) (gd j9 ke) func186 ntmps186 results186
@[reducible] def aeg:kR Int:=nX e8 f135 n (nT e8 [.tmp 4] (lR .i64)) (cl:=ni [(175,rL mb (lR .u8) (lR .i64) (Cl n))])
def Pt:SC2 (aeg n) mb (lR .u8) 8:=mB
def strings_IndexByte:=fu fun n=>(Pt n).1
def Od:∀n:Nat,Gx e8 135 mb (lR .u8) (lR .i64) (strings_IndexByte n):=IT fun n=>IS (Pt n) (gd (jW (pg (Kh n)) j9) ke) func135 ntmps135 results135
@[reducible] def UQ:kR Bool:=nX e8 f238 n (nT e8 [.tmp 2] nk)
def Bj:R2 (UQ n) (lR .i32) 17:=mB
def yN:=fu fun n=>(Bj n).1
def R9:∀n:Nat,zm e8 238 (lR .i32) nk (yN n):=AH fun n=>Ap (Bj n) (gd j9 ke) func238 ntmps238 results238
@[reducible] def KM:kR Bool:=nX e8 f136 n (nT e8 [.tmp 4] nk)
def vK:SC2 (KM n) mb mb 18:=mB
def xd:=fu fun n=>(vK n).1
def Ki:∀n:Nat,Gx e8 136 mb mb nk (xd n):=IT fun n=>IS (vK n) (gd j9 ke) func136 ntmps136 results136
@[go_sem]def Jp:wH:=⟨[],[],(zK::nf (zK::mG (mG (nf (nf (nf (zA::[]))))))),[oC [zK,zK,zK,zK,zK],oK,oK,oK],none,none⟩
@[go_sem]def kU:=(EY (VP (mH mb (mH (lR .i64) (alM 1 (alM 2 (alM 3 k7)))))) (EY ogM (EY ogM (EY ogM Fw))))
@[go_sem]def oh:=(mH (lR .i64) (mH (lR .i64) (mH (lR .i64) k7)))
@[go_sem]abbrev oO(F:Str->Int->Ta->Ta->Ta->Option (Tm×(Int×TD)))(b:Tm)(a:Unit):=F b.1.1 b.1.2.1 b.2.1 b.2.2.1 b.2.2.2.1
@[go_sem]def vL(F:Str->Int->Ta->Ta->Ta->Option (Tm×(Int×TD))):=aaj [.arg 0 [],.Ci 0 2 [],.Ci 0 3 [],.Ci 0 4 []] kU (my 0 k7) kU oh (oO F)
@[reducible] def Dm:kR (Tm×(Int×TD)):=nX e8 f151 n (Dj e8 [.tmp 2,.tmp 3,.tmp 4] [] [0,1,2,3] 4 kU oh) (rK:=qF [([0,1,0,1],Jp)]) (uO:=mc []) (uR:=mc [])
@[go_sem]def Yc:aCb (Dm n) [0,0,0,1,0,0,1,0,1] [0,0,1] [0,0,1,0,0,1,0,0,1,0,1] [0,1,1]:=⟨jR,jR,jR,jR⟩
@[go_sem]abbrev Jq(v0:Int)(v1:Str)(v2:Int)(r1 r2 r3:List (Str×Bool)):jX:=⟨(.ptr 0 0::nv (.int .i64 v0::mM (mM (nv (nv (nv (qA::[]))))))),[.cells [.str (sb v1),.int .i64 v2,.map 1,.map 2,.map 3],.map (mp Gr r1),.map (mp Gr r2),.map (mp Gr r3)],4,[]⟩
abbrev pu:=Int->Str->Int->Ta->Ta->Ta->Option (Tm×(Int×TD))
abbrev Wg(K:List Kt)(Z:pu):Prop:=∀v0 v1 v2 r1 r2 r3,run (Dm n) K (Jq v0 v1 v2 r1 r2 r3)=Z v0 v1 v2 r1 r2 r3
def uS:LB (Wg n) [0,1,0,1] [.qU 0,.cut [1,1],.at [1,1]]:=mB
def xT:Nat->pu:=xb ((uS n).1)
def GN{n:Nat}:xT n (m+1)=(uS n).1 (xT n m):=rfl
@[go_sem]def QN(m:Nat):=yL (uS n) (xT n) m
def Dn:SX (Dm n) (my 0 k7) kU 51 oO:=mC
def AI:=fu fun n=>(Dn n).1
def Wh:∀n:Nat,R8 e8 151 (my 0 k7) kU kU oh (oO (AI n)):=ahI fun n=>abF (Dn n) (gd j9 ke) func151 ntmps151 results151
open Go.Proofs
@[reducible] def Qc:kR Bool:=nX e8 f212 n (nT e8 [.tmp 2] nk)
def yO:R2 (Qc n) (lR .i64) 5:=mB
def strings_shouldUseASCIISet:=fu fun n=>(yO n).1
def aMo:∀n:Nat,zm e8 212 (lR .i64) nk (strings_shouldUseASCIISet n):=AH fun n=>Ap (yO n) (gd j9 ke) func212 ntmps212 results212
@[go_sem]def Pu:wH:=⟨[],[],(zA::zA::zA::zK::zK::nf (zA::zA::zT (mZ jV.row)::zK::zK::nf (zT (mZ mq)::zK::zK::mG []))),[oK,oA mq],none,none⟩
@[go_sem]def Pv:wH:=⟨[(4,1,true)],[],(zA::zA::zA::zK::zK::nf (zA::zA::zT (mZ jV.row)::zK::zK::mG (nf (zA::zA::zA::[])))),[oK,oA mq],none,none⟩
@[reducible] def IV:kR (List Str):=nX e8 f70 n (nT e8 [.tmp 2] (mZ mq)) (rK:=qF [([0,1,1,0,0,1,1,0,0,1,0,1,1,1],Pu),([0,1,0,1,1,1],Pv)])
abbrev Pw(v0:List jV)(v1 v2:Int)(v3:List Str)(v4 v5:Int)(r0:List (Str×Bool))(r1:List Str)(c1:Nat):jX:=⟨(qA::qA::qA::.map 0::.mE 1 c1::nv (qA::qA::.lS false 4 (mp jV.cells v0)::.int .i64 v1::.int .i64 v2::nv (.lS false 1 (mp nh v3)::.int .i64 v4::.int .i64 v5::mM []))),[.map (mp Gr r0),.mE true 1 (mp nh r1)],0,[]⟩
abbrev Px(m2:Nat):List Kt:=[.qU 2,.qU 1,.cut [1,1,1,0,0,1,0,1,1,1],.at [1,1,1,0,0,1,0,1,1,1],.lp m2 [0,1,0,1,1,1],.qU 0,.cut [1,1,1,1],.at [1,1,1,1]]
abbrev Py:=(List jV)->Int->Int->(List Str)->Int->Int->Ta->(List Str)->Option (List Str)
abbrev aeh(K:List Kt)(Z:Py):Prop:=∀v0 v1 v2 v3 v4 v5 r0 r1 c1,c1=r1.length->run (IV n) K (Pw v0 v1 v2 v3 v4 v5 r0 r1 c1)=Z v0 v1 v2 v3 v4 v5 r0 r1
abbrev Pz(v0:List jV)(v1 v2:Int)(r0:List (Str×Bool))(r1:List Str)(c1:Nat):jX:=⟨(qA::qA::qA::.map 0::.mE 1 c1::nv (qA::qA::.lS false 4 (mp jV.cells v0)::.int .i64 v1::.int .i64 v2::mM (nv (qA::qA::qA::[])))),[.map (mp Gr r0),.mE true 1 (mp nh r1)],0,[]⟩
abbrev BL:=(List jV)->Int->Int->Ta->(List Str)->Option (List Str)
abbrev Hg(K:List Kt)(Z:BL):Prop:=∀v0 v1 v2 r0 r1 c1,c1=r1.length->run (IV n) K (Pz v0 v1 v2 r0 r1 c1)=Z v0 v1 v2 r0 r1
attribute [go_sem] Pw Px Pz
def yt:LB2 (Hg n) [0,1,0,1,1,1] [.qU 0,.cut [1,1,1,1],.at [1,1,1,1]] (aeh n) [0,1,1,0,0,1,1,0,0,1,0,1,1,1] Px:=mB
def BM(X2:BL):Nat->Py:=xb ((yt n).1 X2)
def Mg{n:Nat}(X2:BL):BM n X2 (m+1)=(yt n).1 X2 (BM n X2 m):=rfl
def Yd{X2}(h2:Hg n (.lq m2 [0,1,0,1,1,1]::[.qU 0,.cut [1,1,1,1],.at [1,1,1,1]]) X2)(m:Nat):=aqT (yt n) h2 (BM n X2) m
def yu:LB (Hg n) [0,1,0,1,1,1] [.qU 0,.cut [1,1,1,1],.at [1,1,1,1]]:=by
 apply fA;intro m X0 ih v0 v1 v2 r0 r1 c1 ec1;subst ec1;simp (config:={maxSteps:=100000000}) only[go_sem,fc,fg,e9,fa,fi,fj,fm,fo,fp,fb,fk,fq,f70,fw,mixed,Yd n ih,ih];exact rfl
def BN:Nat->BL:=xb ((yu n).1)
def Mh{n:Nat}:BN n (m+1)=(yu n).1 (BN n m):=rfl
@[go_sem]def Ye(m:Nat):=yL (yu n) (BN n) m
def IW:R2 (IV n) (mZ jV.row) 37:=mB
def Cm:=fu fun n=>(IW n).1
def aei:∀n:Nat,zm e8 70 (mZ jV.row) (mZ mq) (Cm n):=AH fun n=>Ap (IW n) (gd j9 ke) func70 ntmps70 results70
@[go_sem]def lB:=(EY (VP (my 1 k7)) (EY (VP (alC jU.ku 6 k7)) Fw))
@[reducible] def Sa:kR TR:=nX e8 f73 n (Dj e8 [] [] [0,1] 2 lB k7)
def Aq:{B:jU->Option TR //∀(o0:jU),run (Sa n) [.at []] (aqR (my 0 k7) lB ((),(o0,()),()) () 8)=B o0}:=mB
def ol:=fu fun n=>(Aq n).1
def QO:∀(n:Nat)(o0:jU)(r:TR),ol n o0=some r->SD e8 73 (my 0 k7) lB ((),(o0,()),()) () lB k7 r
 |0,_,_,h=>by cases h
 |n+1,o0,r,h=>by
  exact okD (((Aq n).2 o0).trans h) (gd j9 ke) func73 ntmps73 results73
@[reducible] def Ez:kR kH:=nX e8 f56 n (nT e8 [.cell 2 45] (lJ kH.ku)) (uO:=mc []) (uR:=mc [])
@[go_sem]def aal:sP (Ez n) [0,1]=true:=jR
@[go_sem]def aam:Bh (Ez n) [0,1] 3 10 7 10 8 10 9 10:=⟨jR,jR,jR,jR⟩
def EA:R2 (Ez n) (rI jU.ku) 13:=mB
def mg:=fu fun n=>(EA n).1
def mm:∀n:Nat,zm e8 56 (rI jU.ku) (lJ kH.ku) (mg n):=AH fun n=>Ap (EA n) (gd j9 ke) func56 ntmps56 results56
@[reducible] def sY:kR (To×Unit):=nX e8 f191 n (azf e8 [.tmp 2] 0 mq (rsA 0 (fun(b:To)=>b.1.length) pd))
def Cn:{B:Str->List Str->Option (To×Unit) //∀x xs,run (sY n) [.at []] {kr:=[(mZ mq).enc (x::xs)]++fx 7 qA,heap:=[],low:=0}=B x xs}:=by
 apply fA;intro x xs;simp (config:={maxSteps:=100000000}) only[go_sem,fc,fg,e9,fa,fi,fj,fm,fo,fp,fb,fk,fq,f191,fw,mixed];exact rfl
def UR(c:Nat):run (sY n) [.at []] {kr:=[.uE (.slice none 0 c)]++fx 7 qA,heap:=[],low:=0}=some (([],()),()):=by simp (config:={maxSteps:=100000000}) only[go_sem,fc,fg,e9,fa,fi,fj,fm,fo,fp,fb,fk,fq,f191,fw,mixed]
def US(a:Addr)(c:Nat):run (sY n) [.at []] {kr:=[.uE (.slice (some a) 0 c)]++fx 7 qA,heap:=[],low:=0}=some (([],()),()):=by simp (config:={maxSteps:=100000000}) only[go_sem,fc,fg,e9,fa,fi,fj,fm,fo,fp,fb,fk,fq,f191,fw,mixed]
def zR:Nat->(List Str)->Option (To×Unit)
 |0,_=>none
 |_+1,[]=>some (([],()),())
 |n+1,x::xs=>(Cn n).1 x xs
def UT:∀(n:Nat)(a0:(List Str))(r:(To×Unit)),zR n a0=some r->Kk e8 191 (((Ao (mZ mq) pG):Ky Unit _).enc () (a0,())) (li.enc ()) (fun o H'=>o=.ret (n6 ((rsA 0 (fun(b:To)=>b.1.length) pd).enc r.1 r.2))/\H'=(lm (oaT true mq) li).enc r.1)
 |0,_,_,h=>by cases h
 |n+1,[],r,h=>by
  cases h
  exact amJ fun base c=>by
   cases base with
   |none=>exact pq (M:=sY n) ⟨j9,ke,mU _,nn _,oR,oS,pM,qe⟩ func191 rfl rfl ⟨trivial,trivial⟩ (fun _ h=>by cases h) ntmps191 results191 (fun J hs=>aqF hs) (UR n c)
   |some a=>exact pq (M:=sY n) ⟨j9,ke,mU _,nn _,oR,oS,pM,qe⟩ func191 rfl rfl ⟨trivial,trivial⟩ (fun _ h=>by cases h) ntmps191 results191 (fun J hs=>aqF hs) (US n a c)
 |n+1,x::xs,r,h=>by
  exact pq (M:=sY n) ⟨j9,ke,mU _,nn _,oR,oS,pM,qe⟩ func191 rfl rfl ⟨(mZ mq).nb 0 _,trivial⟩ (li.nb _ _) ntmps191 results191 (fun J hs=>aqF hs) (((Cn n).2 x xs).trans h)
@[reducible] def qK:kR TZ:=nX e8 f192 n (awQ e8 [.tmp 2] 0 j7.row (rsA 0 (fun(b:(Tk×Unit))=>b.1.length) pd))
def yg:{B:j7->List j7->Option TZ //∀x xs,run (qK n) [.at []] {kr:=[(mZ j7.row).enc (x::xs)]++fx 7 qA,heap:=[],low:=0}=B x xs}:=by
 apply fA;intro x xs;simp (config:={maxSteps:=100000000}) only[go_sem,fc,fg,e9,fa,fi,fj,fm,fo,fp,fb,fk,fq,f192,fw,mixed];exact rfl
def Oe(c:Nat):run (qK n) [.at []] {kr:=[.uE (.slice none 0 c)]++fx 7 qA,heap:=[],low:=0}=some (([],()),()):=by simp (config:={maxSteps:=100000000}) only[go_sem,fc,fg,e9,fa,fi,fj,fm,fo,fp,fb,fk,fq,f192,fw,mixed]
def Of(a:Addr)(c:Nat):run (qK n) [.at []] {kr:=[.uE (.slice (some a) 0 c)]++fx 7 qA,heap:=[],low:=0}=some (([],()),()):=by simp (config:={maxSteps:=100000000}) only[go_sem,fc,fg,e9,fa,fi,fj,fm,fo,fp,fb,fk,fq,f192,fw,mixed]
def vM:Nat->Tk->Option TZ
 |0,_=>none
 |_+1,[]=>some (([],()),())
 |n+1,x::xs=>(yg n).1 x xs
def Og:∀(n:Nat)(a0:Tk)(r:TZ),vM n a0=some r->Kk e8 192 (((Ao (mZ j7.row) pG):Ky Unit _).enc () (a0,())) (li.enc ()) (fun o H'=>o=.ret (n6 ((rsA 0 (fun(b:(Tk×Unit))=>b.1.length) pd).enc r.1 r.2))/\H'=(lm (oaT false j7.row) li).enc r.1)
 |0,_,_,h=>by cases h
 |n+1,[],r,h=>by
  cases h
  exact amJ fun base c=>by
   cases base with
   |none=>exact pq (M:=qK n) ⟨j9,ke,mU _,nn _,oR,oS,pM,qe⟩ func192 rfl rfl ⟨trivial,trivial⟩ (fun _ h=>by cases h) ntmps192 results192 (fun J hs=>adQ hs) (Oe n c)
   |some a=>exact pq (M:=qK n) ⟨j9,ke,mU _,nn _,oR,oS,pM,qe⟩ func192 rfl rfl ⟨trivial,trivial⟩ (fun _ h=>by cases h) ntmps192 results192 (fun J hs=>adQ hs) (Of n a c)
 |n+1,x::xs,r,h=>by
  exact pq (M:=qK n) ⟨j9,ke,mU _,nn _,oR,oS,pM,qe⟩ func192 rfl rfl ⟨(mZ j7.row).nb 0 _,trivial⟩ (li.nb _ _) ntmps192 results192 (fun J hs=>adQ hs) (((yg n).2 x xs).trans h)
open Go.Proofs
@[reducible] def sZ:kR (Ts×Unit):=nX e8 f194 n (awQ e8 [.tmp 2] 0 Syntax.row (rsA 0 (fun(b:Ts)=>b.1.length) pd))
def Cp:{B:Syntax->List Syntax->Option (Ts×Unit) //∀x xs,run (sZ n) [.at []] {kr:=[(mZ Syntax.row).enc (x::xs)]++fx 7 qA,heap:=[],low:=0}=B x xs}:=by
 apply fA;intro x xs;simp (config:={maxSteps:=100000000}) only[go_sem,fc,fg,e9,fa,fi,fj,fm,fo,fp,fb,fk,fq,f194,fw,mixed];exact rfl
def UU(c:Nat):run (sZ n) [.at []] {kr:=[.uE (.slice none 0 c)]++fx 7 qA,heap:=[],low:=0}=some (([],()),()):=by simp (config:={maxSteps:=100000000}) only[go_sem,fc,fg,e9,fa,fi,fj,fm,fo,fp,fb,fk,fq,f194,fw,mixed]
def UV(a:Addr)(c:Nat):run (sZ n) [.at []] {kr:=[.uE (.slice (some a) 0 c)]++fx 7 qA,heap:=[],low:=0}=some (([],()),()):=by simp (config:={maxSteps:=100000000}) only[go_sem,fc,fg,e9,fa,fi,fj,fm,fo,fp,fb,fk,fq,f194,fw,mixed]
def zU:Nat->(List Syntax)->Option (Ts×Unit)
 |0,_=>none
 |_+1,[]=>some (([],()),())
 |n+1,x::xs=>(Cp n).1 x xs
def UW:∀(n:Nat)(a0:(List Syntax))(r:(Ts×Unit)),zU n a0=some r->Kk e8 194 (((Ao (mZ Syntax.row) pG):Ky Unit _).enc () (a0,())) (li.enc ()) (fun o H'=>o=.ret (n6 ((rsA 0 (fun(b:Ts)=>b.1.length) pd).enc r.1 r.2))/\H'=(lm (oaT false Syntax.row) li).enc r.1)
 |0,_,_,h=>by cases h
 |n+1,[],r,h=>by
  cases h
  exact amJ fun base c=>by
   cases base with
   |none=>exact pq (M:=sZ n) ⟨j9,ke,mU _,nn _,oR,oS,pM,qe⟩ func194 rfl rfl ⟨trivial,trivial⟩ (fun _ h=>by cases h) ntmps194 results194 (fun J hs=>adQ hs) (UU n c)
   |some a=>exact pq (M:=sZ n) ⟨j9,ke,mU _,nn _,oR,oS,pM,qe⟩ func194 rfl rfl ⟨trivial,trivial⟩ (fun _ h=>by cases h) ntmps194 results194 (fun J hs=>adQ hs) (UV n a c)
 |n+1,x::xs,r,h=>by
  exact pq (M:=sZ n) ⟨j9,ke,mU _,nn _,oR,oS,pM,qe⟩ func194 rfl rfl ⟨(mZ Syntax.row).nb 0 _,trivial⟩ (li.nb _ _) ntmps194 results194 (fun J hs=>adQ hs) (((Cp n).2 x xs).trans h)
@[reducible] def sx:kR (List ko):=nX e8 f193 n (nT e8 [.tmp 2] (mZ ko.row))
def Bk:{B:ko->List ko->Option (List ko) //∀x xs,run (sx n) [.at []] {kr:=[(mZ ko.row).enc (x::xs)]++fx 7 qA,heap:=[]}=B x xs}:=by
 apply fA;intro x xs;simp (config:={maxSteps:=100000000}) only[go_sem,fc,fg,e9,fa,fi,fj,fm,fo,fp,fb,fk,fq,f193,fw,mixed];exact rfl
def Sb(c:Nat):run (sx n) [.at []] {kr:=[.uE (.slice none 0 c)]++fx 7 qA,heap:=[]}=some []:=by simp (config:={maxSteps:=100000000}) only[go_sem,fc,fg,e9,fa,fi,fj,fm,fo,fp,fb,fk,fq,f193,fw,mixed]
def Sc(a:Addr)(c:Nat):run (sx n) [.at []] {kr:=[.uE (.slice (some a) 0 c)]++fx 7 qA,heap:=[]}=some []:=by simp (config:={maxSteps:=100000000}) only[go_sem,fc,fg,e9,fa,fi,fj,fm,fo,fp,fb,fk,fq,f193,fw,mixed]
def yP:Nat->(List ko)->Option (List ko)
 |0,_=>none
 |_+1,[]=>some []
 |n+1,x::xs=>(Bk n).1 x xs
def Sd:∀(n:Nat)(a0:(List ko))(r:(List ko)),yP n a0=some r->Ku e8 193 [(mZ ko.row).enc a0] (fun v=>v=(mZ ko.row).enc r)
 |0,_,_,h=>by cases h
 |n+1,[],r,h=>by
  cases h
  exact aB1 fun base c=>by
   cases base with
   |none=>exact aln (M:=sx n) ⟨j9,ke,mU _,nn _,oR,oS,pM,qe⟩ func193 rfl rfl ⟨trivial,trivial⟩ ntmps193 results193 (fun J hs=>aht (P:=e8) (rs:=[.tmp 2]) (t:=(mZ ko.row)) (J:=J) hs) (Sb n c)
   |some a=>exact aln (M:=sx n) ⟨j9,ke,mU _,nn _,oR,oS,pM,qe⟩ func193 rfl rfl ⟨trivial,trivial⟩ ntmps193 results193 (fun J hs=>aht (P:=e8) (rs:=[.tmp 2]) (t:=(mZ ko.row)) (J:=J) hs) (Sc n a c)
 |n+1,x::xs,r,h=>by
  exact aln (M:=sx n) ⟨j9,ke,mU _,nn _,oR,oS,pM,qe⟩ func193 rfl rfl ⟨(mZ ko.row).nb 0 _,trivial⟩ ntmps193 results193 (fun J hs=>aht (P:=e8) (rs:=[.tmp 2]) (t:=(mZ ko.row)) (J:=J) hs) (((Bk n).2 x xs).trans h)
@[reducible] def BO:kR Int:=nX e8 f157 n (nT e8 [.tmp 2] (lR .i64)) (uO:=mc []) (uR:=mc [])
@[go_sem]def aej:aoa (BO n) [0,1,1] [0,1,1,1]:=⟨jR,jR⟩
@[go_sem]def aek:Bh (BO n) [0,1,1] 3 12 7 12 9 12 10 12/\N3 (BO n) [0,1,1] 11 12=true:=⟨⟨jR,jR,jR,jR⟩,jR⟩
def Hh:R2 (BO n) (rI jU.ku) 35:=mB
def py:=fu fun n=>(Hh n).1
def tj:∀n:Nat,zm e8 157 (rI jU.ku) (lR .i64) (py n):=AH fun n=>Ap (Hh n) (gd j9 ke) func157 ntmps157 results157
@[reducible] def Wi:kR TE:=nX e8 f158 n (nT e8 [.tmp 2] (atg 190 (rI (cL kg.row)))) (cut:=agb [([1,1],[0])])
def Cq:R2 (Wi n) (mZ kg.row) 4:=mB
def EB:=fu fun n=>(Cq n).1
def UX:∀n:Nat,zm e8 158 (mZ kg.row) (atg 190 (rI (cL kg.row))) (EB n):=AH fun n=>Ap (Cq n) (gd j9 ke) func158 ntmps158 results158
def pZ:yo:=(aDH [] (sub [0,1,0,1] ((f121.body).getD .skip)))
@[go_sem]def Do:pZ.ps.size=2/\∀j:Int,qW pZ.js j=none:=⟨jR,fun j=>(by show qW [] j=none;unfold qW axH;cases (j==0)<;>rfl)⟩
def tR:=(mH (lR .i64) (mH (lJ kg.ku) k7))
def lv:=(EY (azp pZ (ahx 3 (my 1 (alZ (my 2 (ahx 23 k7)))))) (EY (VP (alC Syntax.ku 8 k7)) (EY (VP (alC Syntax.ku 8 k7)) Fw)))
def ng:=(EY (ogL pZ (ahx 3 (my 1 (alZ (my 2 (ahx 23 k7)))))) (EY (VP (alC Syntax.ku 8 k7)) (EY (VP (alC Syntax.ku 8 k7)) Fw)))
attribute [go_sem] tR lv ng
def mT:kR (Tu×(Bool×Unit)) where
 body:=.seq (amF (sub [0,1,0,1] ((f121.body).getD .skip))) (awE (sub [0,1,0,1] ((f121.body).getD .skip)))
 P:=e8
 cl:=ni []
 cd:=N5 []
 rK:=qF []
 cut:=agb []
 n:=n
 out:=(fun _=>none)
 nT:=ahB [] [] [0,1,2] 3 ng
 wF:=mc []
def UY:(mT n).P=e8/\(mT n).cl=ni []/\(mT n).cd=N5 []/\(mT n).rK=qF []/\(mT n).cut=agb []/\(mT n).n=n/\(mT n).out=(fun _=>none)/\(mT n).nT=ahB [] [] [0,1,2] 3 ng/\(mT n).wF=mc []:=⟨rfl,rfl,rfl,rfl,rfl,rfl,rfl,rfl,rfl⟩
def UZ:(mT n).body=.seq (amF (sub [0,1,0,1] ((f121.body).getD .skip))) (awE (sub [0,1,0,1] ((f121.body).getD .skip))):=rfl
def aLL:Code.seq (amF (sub [0,1,0,1] ((f121.body).getD .skip))) (awE (sub [0,1,0,1] ((f121.body).getD .skip)))=Code.seq pZ.assign pZ.body:=jR
attribute [go_sem] UY UZ Do
def Bl:{B:Int->kg->Syntax->Syntax->Option (Tu×(Bool×Unit)) //∀(a0:Int)(a1:kg)(o0:Syntax)(o1:Syntax),run (mT n) [.at [0],.rb,.at [1],.rd] {kr:=V4 ((ahx 3 (my 1 (alZ (my 2 (ahx 23 k7))))).enc (lv.mX ((),(o0,()),(o1,()),())) ()) [11,12] (tR.enc (lv.mX ((),(o0,()),(o1,()),())) (a0,a1,())),heap:=(lv.enc (lv.mX ((),(o0,()),(o1,()),())) ((),(o0,()),(o1,()),())),low:=(lv.enc (lv.mX ((),(o0,()),(o1,()),())) ((),(o0,()),(o1,()),())).length}=B a0 a1 o0 o1}:=mB
def Dp:=fu fun n=>(Bl n).1
def Se:∀(n:Nat)(a0:Int)(a1:kg)(o0:Syntax)(o1:Syntax)(r:(Tu×(Bool×Unit))),Dp n a0 a1 o0 o1=some r->FnT e8 (abo e8) (tR.enc (lv.mX ((),(o0,()),(o1,()),())) (a0,a1,())) (lv.enc (lv.mX ((),(o0,()),(o1,()),())) ((),(o0,()),(o1,()),())) (fun o H'=>o=.ret (n6 ((mH nk k7).enc (ng.mX r.1) r.2))/\H'=ng.enc (ng.mX r.1) r.1)
 |0,_,_,_,_,_,h=>by cases h
 |n+1,a0,a1,o0,o1,r,h=>by
  exact ax2 (M:=mT n) (lk:=pZ) (kr:=((ahx 3 (my 1 (alZ (my 2 (ahx 23 k7))))).enc (lv.mX ((),(o0,()),(o1,()),())) ())) ⟨j9,ke,mU _,nn _,oR,oS,pM,qe⟩ aLL (jR) ⟨jR,jR⟩ rfl (tB (fy (jO (jR)) (fz (lv.sz _ _).symm)) _ (tR.nb _ _)) (fun x hx=>Es (fy (jO (jR)) (fz (lv.sz _ _).symm)) _ (lv.nb _ _ x hx)) (fun e J hs=>atC (js:=[]) (pos:=[]) (base:=[0,1,2]) (low:=3) (os:=ng) (e:=e) (J:=J) (r:=r) (by rfl) hs) (((Bl n).2 a0 a1 o0 o1).trans h)
@[reducible] def Qd:kR TR:=nX e8 f289 n (Dj e8 [] [] [0,1] 2 lB k7)
def yQ:{B:jU->Option TR //∀(o0:jU),run (Qd n) [.at []] (aqR (my 0 k7) lB ((),(o0,()),()) () 8)=B o0}:=mB
def qG:=fu fun n=>(yQ n).1
def aMp:∀(n:Nat)(o0:jU)(r:TR),qG n o0=some r->SD e8 289 (my 0 k7) lB ((),(o0,()),()) () lB k7 r
 |0,_,_,h=>by cases h
 |n+1,o0,r,h=>by
  exact okD (((yQ n).2 o0).trans h) (gd j9 ke) func289 ntmps289 results289
open Go.Proofs
@[go_sem]def KN:wH:=⟨[],[],(zT (mZ mq)::zK::nf (zA::zK::zK::nf (nf (zA::zA::[])))),[],none,none⟩
@[reducible] def Mi:kR Int:=nX e8 f216 n (nT e8 [.tmp 4] (lR .i64)) (rK:=qF [([0,1,0,1],KN)])
@[go_sem]abbrev KO(v0:List Str)(v1:Str)(v2 v3:Int):jX:=⟨(.lS false 1 (mp nh v0)::.str (sb v1)::nv (qA::.int .i64 v2::.int .i64 v3::nv (nv (qA::qA::[])))),[],0,[]⟩
abbrev KP:=(List Str)->Str->Int->Int->Option Int
abbrev Yf(K:List Kt)(Z:KP):Prop:=∀v0 v1 v2 v3,run (Mi n) K (KO v0 v1 v2 v3)=Z v0 v1 v2 v3
def vN:LB (Yf n) [0,1,0,1] [.qU 0,.cut [1,1],.at [1,1]]:=mB
def yR:Nat->KP:=xb ((vN n).1)
def HL{n:Nat}:yR n (m+1)=(vN n).1 (yR n m):=rfl
@[go_sem]def Sf(m:Nat):=yL (vN n) (yR n) m
def EC:SC2 (Mi n) (mZ mq) mb 19:=mB
def BP:=fu fun n=>(EC n).1
def Yg:∀n:Nat,Gx e8 216 (mZ mq) mb (lR .i64) (BP n):=IT fun n=>IS (EC n) (gd j9 ke) func216 ntmps216 results216
@[go_sem]def kx:=(EY (VP (my 4 k7)) (EY (VP (alC Syntax.ku 8 k7)) (EY (VP (alC (cI .i64) 1 k7)) (EY (VP (alC (cI .i64) 1 k7)) (EY (VP (my 5 (mH (mZ Syntax.row) (mH (lR .i64) k7)))) (EY (VP (alM 6 (alM 7 (alM 8 (mH (lR .i64) k7))))) (EY (an9 (lJ jV.ku)) (EY (an9 (lJ jV.ku)) (EY ogM Fw)))))))))
@[reducible] def qZ:kR (Ti×Unit):=nX e8 f198 n (Dj e8 [] [] [0,1,2,3,4,5,6,7,8] 9 kx k7)
def ED:{B:Syntax->Int->Int->(List Syntax)->Int->Int->Tf->Tf->Ta->Option (Ti×Unit) //∀(o0:Syntax)(o1:Int)(o2:Int)(o3:(List Syntax))(o4:Int)(o5:Int)(o6:Tf)(o7:Tf)(o8:Ta),run (qZ n) [.ky (tA (qZ n) [0]) ((tA (qZ n) [0]).toList.drop 1),.cut [1],.at [1]] (jX.put {kr:=((my 0 (my 1 (my 2 (my 3 k7)))).enc (kx.mX ((),(o0,()),(o1,()),(o2,()),(o3,o4,()),(o5,()),o6,o7,o8,())) ())++fx (23-((my 0 (my 1 (my 2 (my 3 k7)))).enc (kx.mX ((),(o0,()),(o1,()),(o2,()),(o3,o4,()),(o5,()),o6,o7,o8,())) ()).length) qA,heap:=(kx.enc (kx.mX ((),(o0,()),(o1,()),(o2,()),(o3,o4,()),(o5,()),o6,o7,o8,())) ((),(o0,()),(o1,()),(o2,()),(o3,o4,()),(o5,()),o6,o7,o8,())),low:=(kx.enc (kx.mX ((),(o0,()),(o1,()),(o2,()),(o3,o4,()),(o5,()),o6,o7,o8,())) ((),(o0,()),(o1,()),(o2,()),(o3,o4,()),(o5,()),o6,o7,o8,())).length} (some 7) (.uE .nilIface))=B o0 o1 o2 o3 o4 o5 o6 o7 o8}:=mB
def yw:=fu fun n=>(ED n).1
def Yh:∀(n:Nat)(o0:Syntax)(o1:Int)(o2:Int)(o3:(List Syntax))(o4:Int)(o5:Int)(o6:Tf)(o7:Tf)(o8:Ta)(r:(Ti×Unit)),yw n o0 o1 o2 o3 o4 o5 o6 o7 o8=some r->FnT e8 (anZ e8 198) ((my 0 (my 1 (my 2 (my 3 k7)))).enc (kx.mX ((),(o0,()),(o1,()),(o2,()),(o3,o4,()),(o5,()),o6,o7,o8,())) ()) (kx.enc (kx.mX ((),(o0,()),(o1,()),(o2,()),(o3,o4,()),(o5,()),o6,o7,o8,())) ((),(o0,()),(o1,()),(o2,()),(o3,o4,()),(o5,()),o6,o7,o8,())) (fun o H'=>o=(enR kx k7 r).1/\H'=(enR kx k7 r).2)
 |0,_,_,_,_,_,_,_,_,_,_,h=>by cases h
 |n+1,o0,o1,o2,o3,o4,o5,o6,o7,o8,r,h=>by
  exact ahG (M:=qZ n) (p1:=[]) (b1:=[0,1,2,3,4,5,6,7,8]) (args:=((my 0 (my 1 (my 2 (my 3 k7)))).enc (kx.mX ((),(o0,()),(o1,()),(o2,()),(o3,o4,()),(o5,()),o6,o7,o8,())) ())) ⟨j9,ke,mU _,nn _,oR,oS,pM,qe⟩ func198 rfl (jR) (tB (fy (jO (jR)) (fz (kx.sz _ _).symm)) _ ((my 0 (my 1 (my 2 (my 3 k7)))).nb (kx.mX ((),(o0,()),(o1,()),(o2,()),(o3,o4,()),(o5,()),o6,o7,o8,())) ())) (fun x hx=>Es (fy (jO (jR)) (fz (kx.sz _ _).symm)) _ (kx.nb _ _ x hx)) ntmps198 results198 (low:=9) (by rfl) rfl (((ED n).2 o0 o1 o2 o3 o4 o5 o6 o7 o8).trans h)
@[go_sem]def tD:=(my 0 (my 1 (my 2 (my 3 (mH (UI 202 abC) k7)))))
def EE:{B:Unit->Syntax->Int->Int->(List Syntax)->Int->Int->Tf->Tf->Ta->Option (Ti×Unit) //∀(a0:Unit)(o0:Syntax)(o1:Int)(o2:Int)(o3:(List Syntax))(o4:Int)(o5:Int)(o6:Tf)(o7:Tf)(o8:Ta),run (qZ n) [.ky (tA (qZ n) [0]) ((tA (qZ n) [0]).toList.drop 1),.cut [1],.at [1]] (jX.put {kr:=((my 0 (my 1 (my 2 (my 3 k7)))).enc (kx.mX ((),(o0,()),(o1,()),(o2,()),(o3,o4,()),(o5,()),o6,o7,o8,())) ())++fx (23-((my 0 (my 1 (my 2 (my 3 k7)))).enc (kx.mX ((),(o0,()),(o1,()),(o2,()),(o3,o4,()),(o5,()),o6,o7,o8,())) ()).length) qA,heap:=(kx.enc (kx.mX ((),(o0,()),(o1,()),(o2,()),(o3,o4,()),(o5,()),o6,o7,o8,())) ((),(o0,()),(o1,()),(o2,()),(o3,o4,()),(o5,()),o6,o7,o8,())),low:=(kx.enc (kx.mX ((),(o0,()),(o1,()),(o2,()),(o3,o4,()),(o5,()),o6,o7,o8,())) ((),(o0,()),(o1,()),(o2,()),(o3,o4,()),(o5,()),o6,o7,o8,())).length} (some 7) ((UI 202 abC).enc a0))=B a0 o0 o1 o2 o3 o4 o5 o6 o7 o8}:=mB
def wv:=fu fun n=>(EE n).1
def Yi:∀(n:Nat)(a0:Unit)(o0:Syntax)(o1:Int)(o2:Int)(o3:(List Syntax))(o4:Int)(o5:Int)(o6:Tf)(o7:Tf)(o8:Ta)(r:(Ti×Unit)),wv n a0 o0 o1 o2 o3 o4 o5 o6 o7 o8=some r->FnT e8 (an0 e8 198) (tD.enc (kx.mX ((),(o0,()),(o1,()),(o2,()),(o3,o4,()),(o5,()),o6,o7,o8,())) (a0,())) (kx.enc (kx.mX ((),(o0,()),(o1,()),(o2,()),(o3,o4,()),(o5,()),o6,o7,o8,())) ((),(o0,()),(o1,()),(o2,()),(o3,o4,()),(o5,()),o6,o7,o8,())) (fun o H'=>o=(enR kx k7 r).1/\H'=(enR kx k7 r).2)
 |0,_,_,_,_,_,_,_,_,_,_,_,h=>by cases h
 |n+1,a0,o0,o1,o2,o3,o4,o5,o6,o7,o8,r,h=>by
  exact ahF (M:=qZ n) (p1:=[]) (b1:=[0,1,2,3,4,5,6,7,8]) (args:=((my 0 (my 1 (my 2 (my 3 k7)))).enc (kx.mX ((),(o0,()),(o1,()),(o2,()),(o3,o4,()),(o5,()),o6,o7,o8,())) ())) (x:=(UI 202 abC).enc a0) ⟨j9,ke,mU _,nn _,oR,oS,pM,qe⟩ func198 rfl (jR) (tB (fy (jO (jR)) (fz (kx.sz _ _).symm)) _ (tD.nb (kx.mX ((),(o0,()),(o1,()),(o2,()),(o3,o4,()),(o5,()),o6,o7,o8,())) (a0,()))) (fun x hx=>Es (fy (jO (jR)) (fz (kx.sz _ _).symm)) _ (kx.nb _ _ x hx)) ntmps198 results198 (low:=9) (by rfl) rfl (((EE n).2 a0 o0 o1 o2 o3 o4 o5 o6 o7 o8).trans h)
@[go_sem]def lE:=(EY (VP (alM 1 (alM 2 (alM 3 (mH (lR .i64) k7))))) (EY (an9 (lJ jV.ku)) (EY (an9 (lJ jV.ku)) (EY ogM Fw))))
@[go_sem]abbrev BQ(F:Option (T7×Unit))(b:Unit)(a:Unit):=F
@[go_sem]def PA(F:Option (T7×Unit)):=aaj [] Fw k7 lE (my 0 k7) (BQ F)
@[reducible] def ael:kR (T7×Unit):=nX e8 f218 n (Dj e8 [.tmp 0] [.arg 0 [],.Ci 0 0 [],.Ci 0 1 [],.Ci 0 2 []] [] 0 lE (my 0 k7))
def Hi:SX (ael n) k7 Fw 6 BQ:=mC
def E6:=fu fun n=>(Hi n).1
def abQ:∀n:Nat,R8 e8 218 k7 Fw lE (my 0 k7) (BQ (E6 n)):=ahI fun n=>abF (Hi n) (gd j9 ke) func218 ntmps218 results218
@[reducible] def akK:kR Bool:=nX e8 f244 n (nT e8 [.tmp 2] nk)
def aMq:R2 (akK n) (lJ jV.ku) 8:=mB
def Bm:=fu fun n=>(aMq n).1
def GB:∀n:Nat,zm e8 244 (lJ jV.ku) nk (Bm n):=AH fun n=>Ap (aMq n) (gd j9 ke) func244 ntmps244 results244
@[reducible] def ajf:kR Bool:=nX e8 f245 n (nT e8 [.tmp 2] nk)
def Ng:R2 (ajf n) (lJ jV.ku) 12:=mB
def Cr:=fu fun n=>(Ng n).1
def KQ:∀n:Nat,zm e8 245 (lJ jV.ku) nk (Cr n):=AH fun n=>Ap (Ng n) (gd j9 ke) func245 ntmps245 results245
open Go.Proofs
@[reducible] def aoi:kR Bool:=nX e8 f270 n (nT e8 [.tmp 2] nk)
def aLM:R2 (aoi n) (lR .u8) 21:=mB
def S6:=fu fun n=>(aLM n).1
def amS:∀n:Nat,zm e8 270 (lR .u8) nk (S6 n):=AH fun n=>Ap (aLM n) (gd j9 ke) func270 ntmps270 results270
@[go_sem]def kw:=(EY (VP (my 1 (mH (mZ Syntax.row) (mH (lR .i64) k7)))) (EY (VP (alM 2 (alM 3 (alM 4 (mH (lR .i64) k7))))) (EY (an9 (lJ jV.ku)) (EY (an9 (lJ jV.ku)) (EY ogM Fw)))))
@[go_sem]abbrev xo(F:(List Syntax)->Int->Int->Tf->Tf->Ta->Option (Tb×TP))(b:Tb)(a:Unit):=F b.1.1 b.1.2.1 b.2.1.1 b.2.2.1 b.2.2.2.1 b.2.2.2.2.1
@[go_sem]def Bn(F:(List Syntax)->Int->Int->Tf->Tf->Ta->Option (Tb×TP)):=aaj [.arg 0 [],.Ci 0 0 [],.Ci 1 0 [],.Ci 1 1 [],.Ci 1 2 []] kw (my 0 k7) kw (mH mb (mH nk k7)) (xo F)
@[reducible] def HM:kR (Tb×TP):=nX e8 f221 n (Dj e8 [.tmp 2,.tmp 3] [] [0,1,2,3,4] 5 kw (mH mb (mH nk k7))) (uO:=mc []) (uR:=mc [])
@[go_sem]def aLN:aoa (HM n) [0,0,1] [0,1,1]:=⟨jR,jR⟩
def Bo:SX (HM n) (my 0 k7) kw 39 xo:=mC
def vO:=fu fun n=>(Bo n).1
def GO:∀n:Nat,R8 e8 221 (my 0 k7) kw kw (mH mb (mH nk k7)) (xo (vO n)):=ahI fun n=>abF (Bo n) (gd j9 ke) func221 ntmps221 results221
@[reducible] def Sg:kR Bool:=nX e8 f165 n (nT e8 [.tmp 4] nk)
def Ar:SC2 (Sg n) (lJ kH.ku) mb 14:=mB
def xU:=fu fun n=>(Ar n).1
def QP:∀n:Nat,Gx e8 165 (lJ kH.ku) mb nk (xU n):=IT fun n=>IS (Ar n) (gd j9 ke) func165 ntmps165 results165
@[go_sem]def Yj:wH:=⟨[],[],(zT (mZ mq)::zK::zA::zA::zA::zK::nf (nf (nf []))),[],none,none⟩
@[reducible] def aj8:kR Bool:=nX e8 f48 n (nT e8 [.tmp 4] nk) (rK:=qF [([0,1,0,1],Yj)])
@[go_sem]abbrev Yk(v0:List Str)(v1:Str)(v2:Int):jX:=⟨(.lS false 1 (mp nh v0)::.str (sb v1)::qA::qA::qA::.int .i64 v2::nv (nv (nv []))),[],0,[]⟩
abbrev Qe:=(List Str)->Str->Int->Option Bool
abbrev aqX(K:List Kt)(Z:Qe):Prop:=∀v0 v1 v2,run (aj8 n) K (Yk v0 v1 v2)=Z v0 v1 v2
def KR:LB (aqX n) [0,1,0,1] [.qU 0,.cut [1,1],.at [1,1]]:=mB
def Qf:Nat->Qe:=xb ((KR n).1)
def abR{n:Nat}:Qf n (m+1)=(KR n).1 (Qf n m):=rfl
@[go_sem]def akL(m:Nat):=yL (KR n) (Qf n) m
def abS:SC2 (aj8 n) (mZ mq) mb 18:=mB
def adR:=fu fun n=>(abS n).1
def aqY:∀n:Nat,Gx e8 48 (mZ mq) mb nk (adR n):=IT fun n=>IS (abS n) (gd j9 ke) func48 ntmps48 results48
@[go_sem]def aLO:wH:=⟨[],[],(zK::zK::vD (zA::[])),[],none,none⟩
@[reducible] def ahN:kR Int:=nX e8 f46 n (nT e8 [.tmp 4] (lR .i64)) (rK:=qF [([0,0,1,1,1,0,0,1,0,0,0,1],aLO),([0,0,1],aLO)])
@[go_sem]abbrev afh(v0:Str)(v1:Int):jX:=⟨(.str (sb v0)::.int .i64 v1::vC (qA::[])),[],0,[]⟩
@[go_sem]abbrev afi(m2:Nat):List Kt:=[.qU 3,.qU 2,.qU 1,.lp m2 [0,0,1],.qU 0,.cut [1,1],.at [1,1]]
abbrev um:=Str->Int->Option Int
abbrev NF(K:List Kt)(Z:um):Prop:=∀v0 v1,run (ahN n) K (afh v0 v1)=Z v0 v1
def HN:LB2 (NF n) [0,0,1] [.qU 0,.cut [1,1],.at [1,1]] (NF n) [0,0,1,1,1,0,0,1,0,0,0,1] afi:=mB
def HO(X2:um):Nat->um:=xb ((HN n).1 X2)
def ZN{n:Nat}(X2:um):HO n X2 (m+1)=(HN n).1 X2 (HO n X2 m):=rfl
def ajg{X2}(h2:NF n (.lq m2 [0,0,1]::[.qU 0,.cut [1,1],.at [1,1]]) X2)(m:Nat):=aqT (HN n) h2 (HO n X2) m
def NG:LB (NF n) [0,0,1] [.qU 0,.cut [1,1],.at [1,1]]:=by
 apply fA;intro m X0 ih v0 v1;simp (config:={maxSteps:=100000000}) only[go_sem,fc,fg,e9,fa,fi,fj,fm,fo,fp,fb,fk,fq,f46,fw,mixed,ajg n ih,ih];exact rfl
def zk:Nat->um:=xb ((NG n).1)
def akM{n:Nat}:zk n (m+1)=(NG n).1 (zk n m):=rfl
@[go_sem]def ajh(m:Nat):=yL (NG n) (zk n) m
def Yl:SC2 (ahN n) mb (lR .i64) 67:=mB
def Ym:=fu fun n=>(Yl n).1
def aoj:∀n:Nat,Gx e8 46 mb (lR .i64) (lR .i64) (Ym n):=IT fun n=>IS (Yl n) (gd j9 ke) func46 ntmps46 results46
@[reducible] def aj9:kR Bool:=nX e8 f89 n (nT e8 [.tmp 4] nk) (rK:=qF [([0,1,0,1],Yj)])
abbrev aqZ(K:List Kt)(Z:Qe):Prop:=∀v0 v1 v2,run (aj9 n) K (Yk v0 v1 v2)=Z v0 v1 v2
def Qg:LB (aqZ n) [0,1,0,1] [.qU 0,.cut [1,1],.at [1,1]]:=mB
def Qh:Nat->Qe:=xb ((Qg n).1)
def amT{n:Nat}:Qh n (m+1)=(Qg n).1 (Qh n m):=rfl
@[go_sem]def akN(m:Nat):=yL (Qg n) (Qh n) m
def abT:SC2 (aj9 n) (mZ mq) mb 18:=mB
def adS:=fu fun n=>(abT n).1
def aq0:∀n:Nat,Gx e8 89 (mZ mq) mb nk (adS n):=IT fun n=>IS (abT n) (gd j9 ke) func89 ntmps89 results89
open Go.Proofs
@[go_sem]def Wj:wH:=⟨[],[],(zK::zK::zT (mZ mq)::nf (zK::zK::mG (mG (nf (zA::zA::[]))))),[],none,none⟩
@[reducible] def aMr:kR Int:=nX e8 f91 n (nT e8 [.tmp 6] (lR .i64)) (rK:=qF [([0,1,0,1,1],Wj)]) (uO:=mc []) (uR:=mc [])
@[go_sem]def akO:sP (aMr n) [0,1,0,0,1,0,0,1,0,1,1]=true:=jR
@[go_sem]abbrev Wk(v0:Str)(v1:Int)(v2:List Str)(v3 v4:Int):jX:=⟨(.str (sb v0)::.int .i64 v1::.lS false 1 (mp nh v2)::nv (.int .i64 v3::.int .i64 v4::mM (mM (nv (qA::qA::[]))))),[],0,[]⟩
abbrev Wl:=Str->Int->(List Str)->Int->Int->Option Int
abbrev aji(K:List Kt)(Z:Wl):Prop:=∀v0 v1 v2 v3 v4,run (aMr n) K (Wk v0 v1 v2 v3 v4)=Z v0 v1 v2 v3 v4
def Cs:LB (aji n) [0,1,0,1,1] [.qU 0,.cut [1,1,1],.at [1,1,1]]:=mB
def Ct:Nat->Wl:=xb ((Cs n).1)
def QQ{n:Nat}:Ct n (m+1)=(Cs n).1 (Ct n m):=rfl
@[go_sem]def aem(m:Nat):=yL (Cs n) (Ct n) m
def aMs:SC3 (aMr n) mb (lR .i64) (mZ mq) 47:=mB
def HP:=fu fun n=>(aMs n).1
def ajj:∀n:Nat,aqU e8 91 mb (lR .i64) (mZ mq) (lR .i64) (HP n):=aCc fun n=>azF (aMs n) (gd j9 ke) func91 ntmps91 results91
@[reducible] def PB:kR (T8×Unit):=nX e8 f81 n (Fi e8 [] (lm (lA jT.ku) li) pd 1)
def Hj:{B:jT->Int->Int->Option (T8×Unit) //∀(a0:jT)(a1:Int)(a2:Int),run (PB n) [.at []] (UJ ((pS 0 (Ao (lR .i64) (Ao (lR .i64) pG))).enc (a0,()) (a1,a2,())) 19 ((lm (lA jT.ku) li).enc (a0,())))=B a0 a1 a2}:=mB
def nK:=fu fun n=>(Hj n).1
def uT:∀(n:Nat)(a0:jT)(a1:Int)(a2:Int)(r:(T8×Unit)),nK n a0 a1 a2=some r->Kk e8 81 ((pS 0 (Ao (lR .i64) (Ao (lR .i64) pG))).enc (a0,()) (a1,a2,())) ((lm (lA jT.ku) li).enc (a0,())) (fun o H'=>o=.ret (n6 (pd.enc r.1 r.2))/\H'=(lm (lA jT.ku) li).enc r.1)
 |0,_,_,_,_,h=>by cases h
 |n+1,a0,a1,a2,r,h=>by
  exact pq (M:=PB n) ⟨j9,ke,mU _,nn _,oR,oS,pM,qe⟩ func81 rfl rfl (by simp only[go_sem,fc,fg,e9,fa,fi,fj,fm,fo,fp,fb,fk,fq]) ((lm (lA jT.ku) li).nb _ _) ntmps81 results81 (fun J hs=>rS hs) (((Hj n).2 a0 a1 a2).trans h)
@[reducible] def Hl:kR (T8×Unit):=nX e8 f63 n (Fi e8 [] (lm (lA jT.ku) li) pd 1) (uO:=mc []) (uR:=mc [])
@[go_sem]def aen:sP (Hl n) [0]=true:=jR
def Ho:{B:jT->Option (T8×Unit) //∀(a0:jT),run (Hl n) [.at []] (UJ ((pS 0 pG).enc (a0,()) ()) 27 ((lm (lA jT.ku) li).enc (a0,())))=B a0}:=mB
def kW:=fu fun n=>(Ho n).1
def l4:∀(n:Nat)(a0:jT)(r:(T8×Unit)),kW n a0=some r->Kk e8 63 ((pS 0 pG).enc (a0,()) ()) ((lm (lA jT.ku) li).enc (a0,())) (fun o H'=>o=.ret (n6 (pd.enc r.1 r.2))/\H'=(lm (lA jT.ku) li).enc r.1)
 |0,_,_,h=>by cases h
 |n+1,a0,r,h=>by
  exact pq (M:=Hl n) ⟨j9,ke,mU _,nn _,oR,oS,pM,qe⟩ func63 rfl rfl (by simp only[go_sem,fc,fg,e9,fa,fi,fj,fm,fo,fp,fb,fk,fq]) ((lm (lA jT.ku) li).nb _ _) ntmps63 results63 (fun J hs=>rS hs) (((Ho n).2 a0).trans h)
@[reducible] def IX:kR kH:=nX e8 f38 n (nT e8 [.cell 2 45] (lJ kH.ku)) (uO:=mc []) (uR:=mc [])
@[go_sem]def agi:sP (IX n) [0,1,1]=true:=jR
@[go_sem]def agj:Bh (IX n) [0,1,1] 3 10 7 10 8 10 9 10:=⟨jR,jR,jR,jR⟩
def IY:R2 (IX n) (rI jT.ku) 19:=mB
def mi:=fu fun n=>(IY n).1
def mA:∀n:Nat,zm e8 38 (rI jT.ku) (lJ kH.ku) (mi n):=AH fun n=>Ap (IY n) (gd j9 ke) func38 ntmps38 results38
@[go_sem]def ZP:wH:=⟨[],[],(zK::zA::zA::zK::nf (nf (zA::zA::[]))),[],none,none⟩
@[reducible] def abU:kR Bool:=nX e8 f174 n (nT e8 [.tmp 2] nk) (rK:=qF [([0,1,0,1],ZP)])
@[go_sem]abbrev ZQ(v0:Str)(v1:Int):jX:=⟨(.str (sb v0)::qA::qA::.int .i64 v1::nv (nv (qA::qA::[]))),[],0,[]⟩
abbrev Iz:=Str->Int->Option Bool
abbrev akP(K:List Kt)(Z:Iz):Prop:=∀v0 v1,run (abU n) K (ZQ v0 v1)=Z v0 v1
def D9:LB (akP n) [0,1,0,1] [.qU 0,.cut [1,1],.at [1,1]]:=mB
def Ea:Nat->Iz:=xb ((D9 n).1)
def S7{n:Nat}:Ea n (m+1)=(D9 n).1 (Ea n m):=rfl
@[go_sem]def agk(m:Nat):=yL (D9 n) (Ea n) m
def QS:R2 (abU n) mb 14:=mB
def Dq:=fu fun n=>(QS n).1
def IA:∀n:Nat,zm e8 174 mb nk (Dq n):=AH fun n=>Ap (QS n) (gd j9 ke) func174 ntmps174 results174
def afj:wH:=⟨[],[],(zK::zK::zT (mZ mq)::zT (mZ Syntax.row)::zA::zK::nf (zK::zA::zK::zK::mG (nf (nf [])))),[oT Syntax.ku,oK],none,none⟩
@[reducible] def KS:kR Syntax:=nX e8 f130 n (nT e8 [.cell 12 29] (lJ Syntax.ku)) (rK:=qF [([0,1,0,1],afj)]) (uO:=mc []) (uR:=mc [])
def aq1:sP (KS n) [0,0,1,0,0,1,0,1]=true:=jR
def aq2:Bh (KS n) [0,0,1,0,0,1,0,1] 4 16 5 16 8 16 9 16/\aob (KS n) [0,0,1,0,0,1,0,1] 10 16 14 16:=⟨⟨jR,jR,jR,jR⟩,jR,jR⟩
attribute [go_sem] aq1 aq2 afj
@[go_sem]abbrev afk(v0 v1:Int)(v2:List Str)(v3:List Syntax)(v4 v5:Int)(o0:Syntax):jX:=⟨(.int .i64 v0::.int .i64 v1::.lS false 1 (mp nh v2)::.lS false 8 (mp Syntax.cells v3)::qA::.int .i64 v4::nv (.ptr 0 0::qA::.ptr 1 0::.int .i64 v5::mM (nv (nv [])))),[.cells (Syntax.cells o0),.cells [.int .i64 0,.str (sb []),.int .i64 0,.lS true 0 [],.lS true 0 [],.lS true 0 [],.int .i64 0,.int .i64 0]],0,[]⟩
abbrev afl:=Int->Int->(List Str)->(List Syntax)->Int->Int->Syntax->Option Syntax
abbrev aok(K:List Kt)(Z:afl):Prop:=∀v0 v1 v2 v3 v4 v5 o0,run (KS n) K (afk v0 v1 v2 v3 v4 v5 o0)=Z v0 v1 v2 v3 v4 v5 o0
def HQ:LB (aok n) [0,1,0,1] [.qU 0,.cut [1,1],.at [1,1]]:=mB
def NH:Nat->afl:=xb ((HQ n).1)
def ZR{n:Nat}:NH n (m+1)=(HQ n).1 (NH n m):=rfl
@[go_sem]def ajk(m:Nat):=yL (HQ n) (NH n) m
def Yn:SC6 (KS n) (lR .i64) (lR .i64) (mZ mq) (mZ Syntax.row) (lJ Syntax.ku) (lR .i64) 38:=mB
def Dr:=fu fun n=>(Yn n).1
def aLP:∀n:Nat,aE2 e8 130 (lR .i64) (lR .i64) (mZ mq) (mZ Syntax.row) (lJ Syntax.ku) (lR .i64) (lJ Syntax.ku) (Dr n):=aK8 fun n=>aK7 (Yn n) (gd j9 ke) func130 ntmps130 results130
open Go.Proofs
@[go_sem]def S8:wH:=⟨[(5,8,true)],[],(zT (mZ mq)::zA::zA::zK::zA::zK::zK::nf (nf (zA::zA::zA::[]))),[oT Syntax.ku,oA Syntax.row],none,none⟩
@[reducible] def Wm:kR (List Syntax):=nX e8 f131 n (nT e8 [.tmp 4] (mZ Syntax.row)) (rK:=qF [([0,1,0,1,1],S8)])
@[go_sem]abbrev S9(v0:List Str)(v1:Int)(o0:Syntax)(r1:List Syntax)(c1:Nat):jX:=⟨(.lS false 1 (mp nh v0)::qA::qA::.ptr 0 0::qA::.mE 1 c1::.int .i64 v1::nv (nv (qA::qA::qA::[]))),[.cells (Syntax.cells o0),.mE true 8 (mp Syntax.cells r1)],0,[]⟩
abbrev Ua:=(List Str)->Int->Syntax->(List Syntax)->Option (List Syntax)
abbrev ahO(K:List Kt)(Z:Ua):Prop:=∀v0 v1 o0 r1 c1,c1=r1.length->run (Wm n) K (S9 v0 v1 o0 r1 c1)=Z v0 v1 o0 r1
def AJ:LB (ahO n) [0,1,0,1,1] [.qU 0,.cut [1,1,1],.at [1,1,1]]:=mB
def AK:Nat->Ua:=xb ((AJ n).1)
def PC{n:Nat}:AK n (m+1)=(AJ n).1 (AK n m):=rfl
@[go_sem]def abV(m:Nat):=yL (AJ n) (AK n) m
def Nh:SC2 (Wm n) (mZ mq) (lJ Syntax.ku) 18:=mB
def vP:=fu fun n=>(Nh n).1
def KT:∀n:Nat,Gx e8 131 (mZ mq) (lJ Syntax.ku) (mZ Syntax.row) (vP n):=IT fun n=>IS (Nh n) (gd j9 ke) func131 ntmps131 results131
@[reducible] def Ds:kR Int:=nX e8 f169 n (nT e8 [.tmp 2] (lR .i64)) (uO:=mc []) (uR:=mc [])
@[go_sem]def agl:aoa (Ds n) [0,1,1] [0,1,1,1]:=⟨jR,jR⟩
@[go_sem]def agm:Bh (Ds n) [0,1,1] 3 12 7 12 9 12 10 12/\N3 (Ds n) [0,1,1] 11 12=true:=⟨⟨jR,jR,jR,jR⟩,jR⟩
def IZ:R2 (Ds n) (rI jT.ku) 35:=mB
def mI:=fu fun n=>(IZ n).1
def sC:∀n:Nat,zm e8 169 (rI jT.ku) (lR .i64) (mI n):=AH fun n=>Ap (IZ n) (gd j9 ke) func169 ntmps169 results169
@[go_sem]def abW:wH:=⟨[],[],(zK::zT (mZ mq)::zA::zA::zA::zK::nf (nf (nf []))),[],none,none⟩
@[reducible] def afm:kR Bool:=nX e8 f276 n (nT e8 [.tmp 4] nk) (rK:=qF [([0,1,0,1],abW)])
@[go_sem]abbrev abX(v0:Str)(v1:List Str)(v2:Int):jX:=⟨(.str (sb v0)::.lS false 1 (mp nh v1)::qA::qA::qA::.int .i64 v2::nv (nv (nv []))),[],0,[]⟩
abbrev amU(K:List Kt)(Z:zn):Prop:=∀v0 v1 v2,run (afm n) K (abX v0 v1 v2)=Z v0 v1 v2
def Fz:LB (amU n) [0,1,0,1] [.qU 0,.cut [1,1],.at [1,1]]:=mB
def FA:Nat->zn:=xb ((Fz n).1)
def Wn{n:Nat}:FA n (m+1)=(Fz n).1 (FA n m):=rfl
@[go_sem]def ahP(m:Nat):=yL (Fz n) (FA n) m
def aLQ:SC2 (afm n) mb (mZ mq) 18:=mB
def Ub:=fu fun n=>(aLQ n).1
def amV:∀n:Nat,Gx e8 276 mb (mZ mq) nk (Ub n):=IT fun n=>IS (aLQ n) (gd j9 ke) func276 ntmps276 results276
@[reducible] def EF:kR (TJ×TP):=nX e8 f227 n (Fi e8 [.tmp 2,.tmp 3] (lm (lA kj.ku) li) (sr mb (sr nk pd)) 1) (uO:=mc []) (uR:=mc [])
@[go_sem]def aan:aoa (EF n) [0,0,1] [0,1,1]:=⟨jR,jR⟩
def EG:{B:kj->Option (TJ×TP) //∀(a0:kj),run (EF n) [.at []] (UJ ((pS 0 pG).enc (a0,()) ()) 45 ((lm (lA kj.ku) li).enc (a0,())))=B a0}:=mB
def yx:=fu fun n=>(EG n).1
def KU:∀(n:Nat)(a0:kj)(r:(TJ×TP)),yx n a0=some r->Kk e8 227 ((pS 0 pG).enc (a0,()) ()) ((lm (lA kj.ku) li).enc (a0,())) (fun o H'=>o=.ret (n6 ((sr mb (sr nk pd)).enc r.1 r.2))/\H'=(lm (lA kj.ku) li).enc r.1)
 |0,_,_,h=>by cases h
 |n+1,a0,r,h=>by
  exact pq (M:=EF n) ⟨j9,ke,mU _,nn _,oR,oS,pM,qe⟩ func227 rfl rfl (by simp only[go_sem,fc,fg,e9,fa,fi,fj,fm,fo,fp,fb,fk,fq]) ((lm (lA kj.ku) li).nb _ _) ntmps227 results227 (fun J hs=>rS hs) (((EG n).2 a0).trans h)
def abY:wH:=⟨[],[],(zA::zT (mZ Syntax.row)::zK::zK::nf (zK::zK::zK::mG (nf (zA::[])))),[oD,oK,oC [zK,zK,zK,zK,zK,zT (mZ Syntax.row),zK,zK]],none,none⟩
@[reducible] def NI:kR Syntax:=nX e8 f251 n (nT e8 [.cell 8 29] (lJ Syntax.ku)) (rK:=qF [([0,1,0,1,1],abY)]) (uO:=mc []) (uR:=mc [])
def aol:sP (NI n) [0,0,1,0,0,1,0,1,1]=true:=jR
def aom:akF (NI n) [0,0,1,0,0,1,0,1,1] 0 9 3 9 4 9:=⟨jR,jR,jR⟩
attribute [go_sem] aol aom abY
@[go_sem]abbrev abZ(v0:List Syntax)(v1 v2 v3 v4:Int)(v5:Str)(v6:List Syntax)(v7 v8:Int):jX:=⟨(qA::.lS false 8 (mp Syntax.cells v0)::.int .i64 v1::.int .i64 v2::nv (.ptr 1 0::.ptr 2 0::.int .i64 v3::mM (nv (qA::[])))),[.sU,.cells [.int .i64 0,.str (sb []),.int .i64 0,.lS true 0 [],.lS true 0 [],.lS true 0 [],.int .i64 0,.int .i64 0],.cells [.int .i64 v4,.str (sb v5),.int .i64 0,.lS true 0 [],.lS true 0 [],.lS false 8 (mp Syntax.cells v6),.int .i64 v7,.int .i64 v8]],0,[]⟩
abbrev ab0:=(List Syntax)->Int->Int->Int->Int->Str->(List Syntax)->Int->Int->Option Syntax
abbrev amW(K:List Kt)(Z:ab0):Prop:=∀v0 v1 v2 v3 v4 v5 v6 v7 v8,run (NI n) K (abZ v0 v1 v2 v3 v4 v5 v6 v7 v8)=Z v0 v1 v2 v3 v4 v5 v6 v7 v8
def FB:LB (amW n) [0,1,0,1,1] [.qU 0,.cut [1,1,1],.at [1,1,1]]:=mB
def FC:Nat->ab0:=xb ((FB n).1)
def Wo{n:Nat}:FC n (m+1)=(FB n).1 (FC n m):=rfl
@[go_sem]def ahQ(m:Nat):=yL (FB n) (FC n) m
def aLR:SC4 (NI n) (lJ jV.ku) (mZ Syntax.row) (lR .i64) (lR .i64) 32:=mB
def Uc:=fu fun n=>(aLR n).1
def amX:∀n:Nat,aE1 e8 251 (lJ jV.ku) (mZ Syntax.row) (lR .i64) (lR .i64) (lJ Syntax.ku) (Uc n):=aK6 fun n=>aK5 (aLR n) (gd j9 ke) func251 ntmps251 results251
@[go_sem]def QT:wH:=⟨[],[],(zT (mZ mq)::zT (mZ mq)::zA::zA::zA::zK::mG (nf [])),[],none,none⟩
@[reducible] def KV:kR Bool:=nX e8 f40 n (nT e8 [.tmp 4] nk) (rK:=qF [([0,1,0,1,1],QT)]) (uO:=mc []) (uR:=mc [])
@[go_sem]def ahR:sP (KV n) [0,0,0,1,0,0,1,0,1,1]=true:=jR
@[go_sem]abbrev QU(v0 v1:List Str)(v2:Int):jX:=⟨(.lS false 1 (mp nh v0)::.lS false 1 (mp nh v1)::qA::qA::qA::.int .i64 v2::mM (nv [])),[],0,[]⟩
abbrev QV:=(List Str)->(List Str)->Int->Option Bool
abbrev agn(K:List Kt)(Z:QV):Prop:=∀v0 v1 v2,run (KV n) K (QU v0 v1 v2)=Z v0 v1 v2
def zE:LB (agn n) [0,1,0,1,1] [.qU 0,.cut [1,1,1],.at [1,1,1]]:=mB
def zF:Nat->QV:=xb ((zE n).1)
def Oh{n:Nat}:zF n (m+1)=(zE n).1 (zF n m):=rfl
@[go_sem]def aao(m:Nat):=yL (zE n) (zF n) m
def KW:SC2 (KV n) (mZ mq) (mZ mq) 26:=mB
def IB:=fu fun n=>(KW n).1
def ago:∀n:Nat,Gx e8 40 (mZ mq) (mZ mq) nk (IB n):=IT fun n=>IS (KW n) (gd j9 ke) func40 ntmps40 results40
open Go.Proofs
@[reducible] def amY:kR Bool:=nX e8 f84 n (nT e8 [.tmp 2] nk) (cl:=ni [(134,mD (lR .u8) nk (Qa n))])
def QW:R2 (amY n) (lR .u8) 9:=mB
def xp:=fu fun n=>(QW n).1
def IC:∀n:Nat,zm e8 84 (lR .u8) nk (xp n):=AH fun n=>Ap (QW n) (gd (jW (lU (akH n)) j9) ke) func84 ntmps84 results84
@[go_sem]def afn:wH:=⟨[],[],(zK::zA::zA::zK::zK::mG (mG (nf (nf [])))),[],none,none⟩
@[reducible] def ahS:kR Bool:=nX e8 f146 n (nT e8 [.tmp 2] nk) (cl:=ni [(182,mD (lR .u8) nk (Qb n))]) (rK:=qF [([0,1,0,1,1,1],afn)])
@[go_sem]abbrev afo(v0:Str)(v1:Bool)(v2:Int):jX:=⟨(.str (sb v0)::qA::qA::.bool v1::.int .i64 v2::mM (mM (nv (nv [])))),[],0,[]⟩
abbrev afp:=Str->Bool->Int->Option Bool
abbrev aon(K:List Kt)(Z:afp):Prop:=∀v0 v1 v2,run (ahS n) K (afo v0 v1 v2)=Z v0 v1 v2
def HR:LB (aon n) [0,1,0,1,1,1] [.qU 0,.cut [1,1,1,1],.at [1,1,1,1]]:=mB
def HT:Nat->afp:=xb ((HR n).1)
def ZS{n:Nat}:HT n (m+1)=(HR n).1 (HT n m):=rfl
@[go_sem]def ajl(m:Nat):=yL (HR n) (HT n) m
def Yo:R2 (ahS n) mb 45:=mB
def Yp:=fu fun n=>(Yo n).1
def aoo:∀n:Nat,zm e8 146 mb nk (Yp n):=AH fun n=>Ap (Yo n) (gd (jW (lU (akI n)) j9) ke) func146 ntmps146 results146
@[reducible] def aq3:kR Str:=nX e8 f117 n (nT e8 [.tmp 2] mb) (cl:=ni [(116,mD (lJ jV.ku) nk (zD n))])
def Yq:R2 (aq3 n) (lJ jV.ku) 13:=mB
def I0:=fu fun n=>(Yq n).1
def aLS:∀n:Nat,zm e8 117 (lJ jV.ku) mb (I0 n):=AH fun n=>Ap (Yq n) (gd (jW (lU (Bi n)) j9) ke) func117 ntmps117 results117
@[go_sem]def ab1:wH:=⟨[],[],(zA::zK::zK::zA::zA::zA::zK::mG (zA::[])),[oT jV.ku],none,none⟩
@[reducible] def afq:kR Bool:=nX e8 f147 n (nT e8 [.tmp 4] nk) (cl:=ni [(116,mD (lJ jV.ku) nk (zD n))]) (rK:=qF [([0,1,0,1,1,1],ab1)])
@[go_sem]abbrev ab2(v0:Str)(v1:Int)(o0:jV):jX:=⟨(qA::.str (sb v0)::.ptr 0 0::qA::qA::qA::.int .i64 v1::mM (qA::[])),[.cells (jV.cells o0)],0,[]⟩
abbrev ab3:=Str->Int->jV->Option Bool
abbrev amZ(K:List Kt)(Z:ab3):Prop:=∀v0 v1 o0,run (afq n) K (ab2 v0 v1 o0)=Z v0 v1 o0
def FD:LB (amZ n) [0,1,0,1,1,1] [.qU 0,.cut [1,1,1,1],.at [1,1,1,1]]:=mB
def Cu:Nat->ab3:=xb ((FD n).1)
def Wp{n:Nat}:Cu n (m+1)=(FD n).1 (Cu n m):=rfl
@[go_sem]def ahT(m:Nat):=yL (FD n) (Cu n) m
def aLT:SC2 (afq n) (lJ jV.ku) mb 24:=mB
def Oi:=fu fun n=>(aLT n).1
def am0:∀n:Nat,Gx e8 147 (lJ jV.ku) mb nk (Oi n):=IT fun n=>IS (aLT n) (gd (jW (lU (Bi n)) j9) ke) func147 ntmps147 results147
@[go_sem]def ww:=(my 0 (my 1 (my 2 (mH (UI 66 (lJ kq.ku)) k7))))
@[reducible] def uN:kR (Tj×Unit):=nX e8 f31 n (Dj e8 [] [] [0,1,2] 3 kB k7) (cl:=ni [(32,ZM (NE n))]) (uO:=mc []) (uR:=mc [])
@[go_sem]def agp:sP (uN n) [1,0,1,1]=true:=jR
@[go_sem]def agq:Bh (uN n) [1,0,1,1] 2 6 5 6 2 7 4 7/\aob (uN n) [1,0,1,1] 5 7 6 7:=⟨⟨jR,jR,jR,jR⟩,jR,jR⟩
def Dt:{B:kq->Syntax->Int->Int->Option (Tj×Unit) //∀(a0:kq)(o0:Syntax)(o1:Int)(o2:Int),run (uN n) [.ky (tA (uN n) [0]) ((tA (uN n) [0]).toList.drop 1),.cut [1],.at [1]] (jX.put {kr:=((my 0 (my 1 (my 2 k7))).enc (kB.mX ((o0,()),(o1,()),(o2,()),())) ())++fx (15-((my 0 (my 1 (my 2 k7))).enc (kB.mX ((o0,()),(o1,()),(o2,()),())) ()).length) qA,heap:=(kB.enc (kB.mX ((o0,()),(o1,()),(o2,()),())) ((o0,()),(o1,()),(o2,()),())),low:=(kB.enc (kB.mX ((o0,()),(o1,()),(o2,()),())) ((o0,()),(o1,()),(o2,()),())).length} (some 5) ((UI 66 (lJ kq.ku)).enc a0))=B a0 o0 o1 o2}:=mB
def tE:=fu fun n=>(Dt n).1
def aeo:∀(n:Nat)(a0:kq)(o0:Syntax)(o1:Int)(o2:Int)(r:(Tj×Unit)),tE n a0 o0 o1 o2=some r->FnT e8 (an0 e8 31) (ww.enc (kB.mX ((o0,()),(o1,()),(o2,()),())) (a0,())) (kB.enc (kB.mX ((o0,()),(o1,()),(o2,()),())) ((o0,()),(o1,()),(o2,()),())) (fun o H'=>o=(enR kB k7 r).1/\H'=(enR kB k7 r).2)
 |0,_,_,_,_,_,h=>by cases h
 |n+1,a0,o0,o1,o2,r,h=>by
  exact ahF (M:=uN n) (p1:=[]) (b1:=[0,1,2]) (args:=((my 0 (my 1 (my 2 k7))).enc (kB.mX ((o0,()),(o1,()),(o2,()),())) ())) (x:=(UI 66 (lJ kq.ku)).enc a0) ⟨(jW (tY (aje n)) j9),ke,mU _,nn _,oR,oS,pM,qe⟩ func31 rfl (jR) (tB (fy (jO (jR)) (fz (kB.sz _ _).symm)) _ (ww.nb (kB.mX ((o0,()),(o1,()),(o2,()),())) (a0,()))) (fun x hx=>Es (fy (jO (jR)) (fz (kB.sz _ _).symm)) _ (kB.nb _ _ x hx)) ntmps31 results31 (low:=3) (by rfl) rfl (((Dt n).2 a0 o0 o1 o2).trans h)
@[go_sem]def KX:wH:=⟨[],[],(zK::zT (rI cS)::zA::zK::zK::mG (mG (mG (zA::zA::zA::[])))),[oL [zA,zK,zA,zA,zA,zA,zA,zA,zA],oC [zK],oK],none,none⟩
@[go_sem]abbrev zV(F:Str->Ta->Option (TC×Unit))(b:(Unit×(Unit×(Ta×Unit))))(a:(Str×Unit)):=F a.1 b.2.2.1
@[go_sem]def Mj(F:Str->Ta->Option (TC×Unit)):=aaj [.arg 0 [],.Ci 0 1 [],.Ci 1 0 []] k6 (alM 0 (mH (rI cS) k7)) l9 k7 (zV F)
@[reducible] def Mk:kR (TC×Unit):=nX e8 f207 n (Dj e8 [] [] [0,1,2] 3 l9 k7) (rK:=qF [([0,1,0,1],KX)]) (cy:=atA [(0,aBB [.Ci 0 1 [],.Ci 1 0 []] k6 (mH mb k7) l9 (mH nk k7) (fun(b:(Unit×(Unit×(Ta×Unit))))(a:(Str×Unit))=>(E3 n) a.1 b.2.2.1))])
@[go_sem]abbrev KY(v0:Str)(v1 v2 j0:Int)(r2:List (Str×Bool)):jX:=⟨(.map 0::.pp [.str (sb v0)]::qA::.int .i64 v1::.int .i64 v2::mM (mM (mM (qA::qA::qA::[])))),[.loop nM [qA,.ptr 1 0,qA,qA,qA,qA,qA,qA,qA] (stJ nM j0) j0,.cells [.map 2],.map (mp Gr r2)],3,[]⟩
abbrev KZ:=Str->Int->Int->Int->Ta->Option (TC×Unit)
abbrev Yr(K:List Kt)(Z:KZ):Prop:=∀v0 v1 v2 j0 r2,run (Mk n) K (KY v0 v1 v2 j0 r2)=Z v0 v1 v2 j0 r2
def Du:LB (Yr n) [0,1,0,1] [.qU 0,.cut [1,1],.at [1,1]]:=mB
def Dv:Nat->KZ:=xb ((Du n).1)
def aop{n:Nat}:Dv n (m+1)=(Du n).1 (Dv n m):=rfl
@[go_sem]def Sh(m:Nat):=yL (Du n) (Dv n) m
def Ml:SX (Mk n) (alM 0 (mH (rI cS) k7)) k6 56 zV:=mC
def PD:=fu fun n=>(Ml n).1
def Yt:∀n:Nat,R8 e8 207 (alM 0 (mH (rI cS) k7)) k6 l9 k7 (zV (PD n)):=ahI fun n=>abF (Ml n) (gd j9 ke (y:=(ahz (fun _ _ _ _ _ h=>aya (fun b a r h=>(Nf n) a.1 b.2.2.1 r h) h) aj1))) func207 ntmps207 results207
open Go.Proofs
@[reducible] def am1:kR Bool:=nX e8 f184 n (nT e8 [.tmp 2] nk) (cl:=ni [(156,mD (lR .u8) (lR .i64) (C9 n))])
def QX:R2 (am1 n) (lR .u8) 15:=mB
def yS:=fu fun n=>(QX n).1
def Pa:∀n:Nat,zm e8 184 (lR .u8) nk (yS n):=AH fun n=>Ap (QX n) (gd (jW (lU (Fy n)) j9) ke) func184 ntmps184 results184
@[reducible] def aoq:kR (List Str):=nX e8 f150 n (nT e8 [.tmp 0] (mZ mq)) (cl:=ni [(186,mD mb (mZ mq) (abP n))])
def afr:SC0 (aoq n) 2:=mB
def Oj:=fu fun n=>(afr n).1
def ab4:∀n:Nat,azE e8 150 (mZ mq) (Oj n):=aHz fun n=>aHy (afr n) (gd (jW (lU (ahM n)) j9) ke) func150 ntmps150 results150
def Ol:wH:=⟨[],[],(vD (vD (mG (mG (nf (nf (nf (zA::zA::zA::zK::nf (nf (zA::zA::zA::[])))))))))),[oK],none,none⟩
def Om:wH:=⟨[],[],(zK::nf (zA::zA::zK::zK::zK::zA::zA::zK::vD (vD (mG (mG (nf (nf (nf (zA::zA::[]))))))))),[],none,none⟩
def On:wH:=⟨[],[],(zK::nf (zA::zA::zK::zK::zK::vD (vD (mG (mG (mG (zA::[]))))))),[],none,none⟩
@[reducible] def yy:kR Int:=nX e8 f211 n (nT e8 [.tmp 4] (lR .i64)) (cl:=ni [(135,rL mb (lR .u8) (lR .i64) (strings_IndexByte n)),(238,mD (lR .i32) nk (yN n))]) (cd:=N5 [(135,nG (rL mb (lR .u8) (lR .i64) (strings_IndexByte n)))]) (rK:=qF [([0,1,0,0,1,1,1,0,1],Ol),([0,1,0,1,0,0,1,0,0,0,1,1,1,1,0,1,1,1,1,1,1,0,1],Om),([0,0,1,1,1,1,0,1,1,1,1,1,1,0,1],On)]) (uO:=mc []) (uR:=mc [])
def aep:azD (yy n) [0,0,0,0,1,0,0,0,1,1,1,1,0,1,1,1,1,1,1,0,1] [0,0,0,1,0,0,1,0,1,0,0,1,0,0,0,1,1,1,1,0,1,1,1,1,1,1,0,1] [0,0,1,0,0,0,1,0,0,0,1,1,1,1,0,1,1,1,1,1,1,0,1]:=⟨jR,jR,jR⟩
attribute [go_sem] aep Ol Om On
abbrev Oo(iv0:Str)(ip0:Nat):jX:=⟨(vC (vC (mM (mM (nv (nv (nv (qA::qA::qA::.ptr 0 0::nv (nv (qA::qA::qA::[])))))))))),[.iter (sb iv0) ip0],0,[]⟩
abbrev Oq:List Kt:=[.qU 9,.cut [1,0,1,1,1,0,1],.at [1,0,1,1,1,0,1],.qU 0]
abbrev Ot:=Str->Nat->Option Int
abbrev ab5(K:List Kt)(Z:Ot):Prop:=∀iv0 ip0,run (yy n) K (Oo iv0 ip0)=Z iv0 ip0
abbrev Ou(v0 v1:Str)(v2 v3 v4:Int):jX:=⟨(.str (sb v0)::nv (qA::qA::.str (sb v1)::.int .i64 v2::.int .i64 v3::qA::qA::.int .i64 v4::vC (vC (mM (mM (nv (nv (nv (qA::qA::[]))))))))),[],0,[]⟩
abbrev Ov(m3:Nat):List Kt:=[.qU 3,.cut [1,1,0,0,1,0,0,0,1,1,1,1,0,1,1,1,1,1,1,0,1],.at [1,1,0,0,1,0,0,0,1,1,1,1,0,1,1,1,1,1,1,0,1],.qU 2,.lp m3 [0,0,1,1,1,1,0,1,1,1,1,1,1,0,1],.qU 1,.cut [1,1,1,1,1,0,1,1,1,1,1,1,0,1],.at [1,1,1,1,1,0,1,1,1,1,1,1,0,1],.qU 0]
abbrev Ow:=Str->Str->Int->Int->Int->Option Int
abbrev ab6(K:List Kt)(Z:Ow):Prop:=∀v0 v1 v2 v3 v4,run (yy n) K (Ou v0 v1 v2 v3 v4)=Z v0 v1 v2 v3 v4
abbrev Ox(v0 v1:Str)(v2 v3:Int):jX:=⟨(.str (sb v0)::nv (qA::qA::.str (sb v1)::.int .i64 v2::.int .i64 v3::vC (vC (mM (mM (mM (qA::[]))))))),[],0,[]⟩
abbrev AM:List Kt:=[.qU 1,.cut [1,1,1,1,1,0,1,1,1,1,1,1,0,1],.at [1,1,1,1,1,0,1,1,1,1,1,1,0,1],.qU 0]
abbrev AN:=Str->Str->Int->Int->Option Int
abbrev FE(K:List Kt)(Z:AN):Prop:=∀v0 v1 v2 v3,run (yy n) K (Ox v0 v1 v2 v3)=Z v0 v1 v2 v3
attribute [go_sem] Oo Oq Ou Ov Ox AM
def FF:LB (ab5 n) [0,1,0,0,1,1,1,0,1] Oq:=mB
def FG:Nat->Ot:=xb ((FF n).1)
def aq4{n:Nat}:FG n (m+1)=(FF n).1 (FG n m):=rfl
@[go_sem]def Jr(m:Nat):=yL (FF n) (FG n) m
def FH:LB2 (FE n) [0,0,1,1,1,1,0,1,1,1,1,1,1,0,1] AM (ab6 n) [0,1,0,1,0,0,1,0,0,0,1,1,1,1,0,1,1,1,1,1,1,0,1] Ov:=mB
def FI(X3:AN):Nat->Ow:=xb ((FH n).1 X3)
def aq5{n:Nat}(X3:AN):FI n X3 (m+1)=(FH n).1 X3 (FI n X3 m):=rfl
def Wq{X3}(h3:FE n (.lq m3 [0,0,1,1,1,1,0,1,1,1,1,1,1,0,1]::AM) X3)(m:Nat):=aqT (FH n) h3 (FI n X3) m
def AO:LB (FE n) [0,0,1,1,1,1,0,1,1,1,1,1,1,0,1] AM:=by
 apply fA;intro m X0 ih v0 v1 v2 v3;simp (config:={maxSteps:=100000000}) only[go_sem,fc,fg,e9,fa,fi,fj,fm,fo,fp,fb,fk,fq,f211,fw,mixed,Jr n,Wq n ih,ih];exact rfl
def AP:Nat->AN:=xb ((AO n).1)
def Yu{n:Nat}:AP n (m+1)=(AO n).1 (AP n m):=rfl
@[go_sem]def Wr(m:Nat):=yL (AO n) (AP n) m
def Hp:SC2 (yy n) mb (lR .i32) 187:=mB
def oF:=fu fun n=>(Hp n).1
def Oy:∀n:Nat,Gx e8 211 mb (lR .i32) (lR .i64) (oF n):=IT fun n=>IS (Hp n) (gd (jW (pg (Od n)) (jW (lU (R9 n)) j9)) (oJ (pm (Od n)) ke)) func211 ntmps211 results211
@[reducible] def aeq:kR Bool:=nX e8 f93 n (nT e8 [.tmp 4] nk) (cl:=ni [(136,rL mb mb nk (xd n))])
def Hq:SC2 (aeq n) mb mb 8:=mB
def E7:=fu fun n=>(Hq n).1
def ab7:∀n:Nat,Gx e8 93 mb mb nk (E7 n):=IT fun n=>IS (Hq n) (gd (jW (pg (Ki n)) j9) ke) func93 ntmps93 results93
@[reducible] def Oz:kR Int:=nX e8 f58 n (nT e8 [.tmp 2] (lR .i64)) (cd:=N5 [(56,nG (mD (rI jU.ku) (lJ kH.ku) (mg n)))]) (uO:=mc []) (uR:=mc [])
@[go_sem]def ab8:sP (Oz n) [0,1]=true:=jR
def FJ:R2 (Oz n) (rI jU.ku) 11:=mB
def qf:=fu fun n=>(FJ n).1
def uc:∀n:Nat,zm e8 58 (rI jU.ku) (lR .i64) (qf n):=AH fun n=>Ap (FJ n) (gd j9 (oJ (lu (mm n)) ke)) func58 ntmps58 results58
@[reducible] def FK:kR (Td×(Str×Unit)):=nX e8 f59 n (Fi e8 [.tmp 2] (lm (lA jU.ku) li) (sr mb pd) 1) (cl:=ni [(56,qP (nG (mD (rI jU.ku) (lJ kH.ku) (mg n))))]) (uO:=mc []) (uR:=mc [])
@[go_sem]def ab9:sP (FK n) [0,0,1,1]=true:=jR
def FL:{B:jU->Option (Td×(Str×Unit)) //∀(a0:jU),run (FK n) [.at []] (UJ ((pS 0 pG).enc (a0,()) ()) 26 ((lm (lA jU.ku) li).enc (a0,())))=B a0}:=mB
def lr:=fu fun n=>(FL n).1
def l5:∀(n:Nat)(a0:jU)(r:(Td×(Str×Unit))),lr n a0=some r->Kk e8 59 ((pS 0 pG).enc (a0,()) ()) ((lm (lA jU.ku) li).enc (a0,())) (fun o H'=>o=.ret (n6 ((sr mb pd).enc r.1 r.2))/\H'=(lm (lA jU.ku) li).enc r.1)
 |0,_,_,h=>by cases h
 |n+1,a0,r,h=>by
  exact pq (M:=FK n) ⟨(jW (lD (lu (mm n))) j9),ke,mU _,nn _,oR,oS,pM,qe⟩ func59 rfl rfl (by simp only[go_sem,fc,fg,e9,fa,fi,fj,fm,fo,fp,fb,fk,fq]) ((lm (lA jU.ku) li).nb _ _) ntmps59 results59 (fun J hs=>rS hs) (((FL n).2 a0).trans h)
open Go.Proofs
@[reducible] def agr:kR Bool:=nX e8 f74 n (nT e8 [.tmp 6] nk) (cl:=ni [(56,mD (rI jU.ku) (lJ kH.ku) (mg n))])
def I1:SC3 (agr n) (rI jU.ku) (lR .i64) mb 20:=mB
def uU:=fu fun n=>(I1 n).1
def yz:∀n:Nat,aqU e8 74 (rI jU.ku) (lR .i64) mb nk (uU n):=aCc fun n=>azF (I1 n) (gd (jW (lU (mm n)) j9) ke) func74 ntmps74 results74
@[reducible] def Yv:kR Bool:=nX e8 f159 n (nT e8 [.tmp 2] nk) (cl:=ni [(56,mD (rI jU.ku) (lJ kH.ku) (mg n)),(166,rL mb mb nk (strings_Contains n))])
def Dw:R2 (Yv n) (rI jU.ku) 15:=mB
def uV:=fu fun n=>(Dw n).1
def Cv:∀n:Nat,zm e8 159 (rI jU.ku) nk (uV n):=AH fun n=>Ap (Dw n) (gd (jW (lU (mm n)) (jW (pg (Hf n)) j9)) ke) func159 ntmps159 results159
def Ws:wH:=⟨[],[],(zA::zK::zK::mG (mG (zA::zA::zA::zK::zK::nf (nf (nf (zA::zA::[])))))),[oC [zK,zK,zK,zK,zK,zK,zK,zK],oK,oA mq,oA j7.row,oA Syntax.row],none,none⟩
def Wt:wH:=⟨[],[],(zA::zK::zK::nf (nf (nf (zK::zK::mG (mG (nf (zA::[]))))))),[oC [zK,zK,zK,zK,zK,zT (mZ Syntax.row),zK,zK],oK,oA mq,oA j7.row],none,none⟩
@[reducible] def wJ(X:Syntax->Option Syntax)(n:Nat):kR Syntax:=nX e8 f160 n (nT e8 [.cell 2 29] (lJ Syntax.ku)) (cl:=ni [(191,nu [] li (Ao (mZ mq) pG) (lm (oaT true mq) li) (rsA 0 (fun(b:To)=>b.1.length) pd) (fun(b:Unit) a=>(zR n) a.1)),(192,nu [] li (Ao (mZ j7.row) pG) (lm (oaT false j7.row) li) (rsA 0 (fun(b:(Tk×Unit))=>b.1.length) pd) (fun(b:Unit) a=>(vM n) a.1)),(194,nu [] li (Ao (mZ Syntax.row) pG) (lm (oaT false Syntax.row) li) (rsA 0 (fun(b:Ts)=>b.1.length) pd) (fun(b:Unit) a=>(zU n) a.1))]) (cd:=N5 [(160,nG (mD (lJ Syntax.ku) (lJ Syntax.ku) X)),(193,nG (mD (mZ ko.row) (mZ ko.row) (yP n)))]) (rK:=qF [([0,1,0,1,1,1,1,1],Ws),([0,1,0,1,1,1],Wt)]) (cut:=agb [([1,1,1,1,1,1],[3,4])]) (uO:=mc []) (uR:=mc [])
def akQ(X:Syntax->Option Syntax)(n:Nat):aoa (wJ X n) [1,0,0,1,1,0,0,1,0,1,1,1] [1,0,0,1,1,0,0,1,0,1,1,1,1,1]:=⟨jR,jR⟩
def akR(X:Syntax->Option Syntax)(n:Nat):Bh (wJ X n) [1,0,0,1,1,0,0,1,0,1,1,1] 1 12 4 12 6 12 8 12/\N3 (wJ X n) [1,0,0,1,1,0,0,1,0,1,1,1] 10 12=true/\Bh (wJ X n) [1,0,0,1,1,0,0,1,0,1,1,1,1,1] 1 10 4 10 6 10 7 10/\N3 (wJ X n) [1,0,0,1,1,0,0,1,0,1,1,1,1,1] 9 10=true:=⟨⟨jR,jR,jR,jR⟩,jR,⟨jR,jR,jR,jR⟩,jR⟩
attribute [go_sem] akQ akR Ws Wt
@[go_sem]abbrev Wu(v0 v1 v2:Int)(v3:Str)(v4 v5 v6:Int)(r2:List Str)(r3:List j7)(r4:List Syntax)(c2:Nat)(c3:Nat)(c4:Nat):jX:=⟨(qA::.ptr 0 0::.ptr 1 0::mM (mM (qA::qA::qA::.int .i64 v0::.int .i64 v1::nv (nv (nv (qA::qA::[])))))),[.cells [.int .i64 v2,.str (sb v3),.int .i64 v4,.mE 2 c2,.mE 3 c3,.mE 4 c4,.int .i64 v5,.int .i64 v6],.cells [.int .i64 0,.str (sb []),.int .i64 0,.lS true 0 [],.lS true 0 [],.lS true 0 [],.int .i64 0,.int .i64 0],.mE true 1 (mp nh r2),.mE false 2 (mp j7.cells r3),.mE false 8 (mp Syntax.cells r4)],0,[]⟩
abbrev Wv:=Int->Int->Int->Str->Int->Int->Int->(List Str)->Tk->(List Syntax)->Option Syntax
abbrev ajm(X:Syntax->Option Syntax)(n:Nat)(K:List Kt)(Z:Wv):Prop:=∀v0 v1 v2 v3 v4 v5 v6 r2 r3 r4 c2 c3 c4,c2=r2.length->c3=r3.length->c4=r4.length->run (wJ X n) K (Wu v0 v1 v2 v3 v4 v5 v6 r2 r3 r4 c2 c3 c4)=Z v0 v1 v2 v3 v4 v5 v6 r2 r3 r4
@[go_sem]abbrev Ww(v0 v1 v2:Int)(v3:Str)(v4:Int)(v5:List Syntax)(v6 v7:Int)(r2:List Str)(r3:List j7)(c2:Nat)(c3:Nat):jX:=⟨(qA::.ptr 0 0::.ptr 1 0::nv (nv (nv (.int .i64 v0::.int .i64 v1::mM (mM (nv (qA::[]))))))),[.cells [.int .i64 v2,.str (sb v3),.int .i64 v4,.mE 2 c2,.mE 3 c3,.lS false 8 (mp Syntax.cells v5),.int .i64 v6,.int .i64 v7],.cells [.int .i64 0,.str (sb []),.int .i64 0,.lS true 0 [],.lS true 0 [],.lS true 0 [],.int .i64 0,.int .i64 0],.mE true 1 (mp nh r2),.mE false 2 (mp j7.cells r3)],0,[]⟩
abbrev Wx:=Int->Int->Int->Str->Int->(List Syntax)->Int->Int->(List Str)->Tk->Option Syntax
abbrev ajn(X:Syntax->Option Syntax)(n:Nat)(K:List Kt)(Z:Wx):Prop:=∀v0 v1 v2 v3 v4 v5 v6 v7 r2 r3 c2 c3,c2=r2.length->c3=r3.length->run (wJ X n) K (Ww v0 v1 v2 v3 v4 v5 v6 v7 r2 r3 c2 c3)=Z v0 v1 v2 v3 v4 v5 v6 v7 r2 r3
def Cw(X:Syntax->Option Syntax)(n:Nat):LB (ajm X n) [0,1,0,1,1,1,1,1] [.qU 2,.cut [1,1,1,1,1,1],.at [1,1,1,1,1,1]]:=mB
def Cy(X:Syntax->Option Syntax)(n:Nat):Nat->Wv:=xb ((Cw X n).1)
def QY(X:Syntax->Option Syntax){n:Nat}:Cy X n (m+1)=(Cw X n).1 (Cy X n m):=rfl
@[go_sem]def aer(X:Syntax->Option Syntax)(n:Nat)(m:Nat):=yL (Cw X n) (Cy X n) m
def Cz(X:Syntax->Option Syntax)(n:Nat):LB (ajn X n) [0,1,0,1,1,1] [.qU 0,.cut [1,1,1,1],.at [1,1,1,1]]:=mB
def CA(X:Syntax->Option Syntax)(n:Nat):Nat->Wx:=xb ((Cz X n).1)
def QZ(X:Syntax->Option Syntax){n:Nat}:CA X n (m+1)=(Cz X n).1 (CA X n m):=rfl
@[go_sem]def aes(X:Syntax->Option Syntax)(n:Nat)(m:Nat):=yL (Cz X n) (CA X n) m
def Pb(X:Syntax->Option Syntax)(n:Nat):R2 (wJ X n) (lJ Syntax.ku) 54:=mB
def vF:Nat->Syntax->Option Syntax
 |0,_=>none
 |n+1,a0=>(Pb (vF n) n).1 a0
def Wy:∀n:Nat,zm e8 160 (lJ Syntax.ku) (lJ Syntax.ku) (vF n)
 |0=>fun _ _ h=>(by cases h)
 |n+1=>by
  have ajo:=Wy n;exact Ap (Pb (vF n) n) (gd (jW (kK (fun b a r h=>(UT n) a.1 r h)) (jW (kK (fun b a r h=>(Og n) a.1 r h)) (jW (kK (fun b a r h=>(UW n) a.1 r h)) j9))) (oJ (lu (ajo)) (oJ (lu (Sd n)) ke))) func160 ntmps160 results160
@[reducible] def AQ:kR (Td×(Syntax×Unit)):=nX e8 f120 n (Fi e8 [.cell 2 29] (lm (lA jU.ku) li) (sr (lJ Syntax.ku) pd) 1) (co:=Mc [(157,QJ (nG (mD (rI jU.ku) (lR .i64) (py n))))]) (uO:=mc [157]) (uR:=mc [])
@[go_sem]def acd:sP (AQ n) [0,1]=true:=jR
@[go_sem]def ace:akF (AQ n) [0,1] 3 7 3 9 7 9:=⟨jR,jR,jR⟩
def FM:{B:jU->Option (Td×(Syntax×Unit)) //∀(a0:jU),run (AQ n) [.at []] (UJ ((pS 0 pG).enc (a0,()) ()) 12 ((lm (lA jU.ku) li).enc (a0,())))=B a0}:=yp
def xe:=fu fun n=>(FM n).1
def Mm:∀(n:Nat)(a0:jU)(r:(Td×(Syntax×Unit))),xe n a0=some r->Kk e8 120 ((pS 0 pG).enc (a0,()) ()) ((lm (lA jU.ku) li).enc (a0,())) (fun o H'=>o=.ret (n6 ((sr (lJ Syntax.ku) pd).enc r.1 r.2))/\H'=(lm (lA jU.ku) li).enc r.1)
 |0,_,_,h=>by cases h
 |n+1,a0,r,h=>by
  exact pq (M:=AQ n) ⟨j9,ke,mU _,nn _,oR,oS,pM,(mw (Fx (lu (tj n))) qL)⟩ func120 rfl rfl (by simp only[go_sem,fc,fg,e9,fa,fi,fj,fm,fo,fp,fb,fk,fq]) ((lm (lA jU.ku) li).nb _ _) ntmps120 results120 (fun J hs=>rS hs) (((FM n).2 a0).trans h)
@[go_sem]def FN:wH:=⟨[],[],(zK::zT (rI (cL kg.row))::zA::zK::nf (nf (nf (zA::zA::zA::[])))),[oL [zA,zA,zA,zK,zA,zK,zA,zA,zA,zA,zA,zA,zA,zA,zA,zA,zA,zA,zA,zA,zA,zA,zA,zA,zA,zA,zA,zA,zA],oT Syntax.ku,oT Syntax.ku],none,none⟩
@[go_sem]def vQ:=(alM 0 (mH (rI (cL kg.row)) k7))
@[go_sem]abbrev wK(F:TE->Syntax->Syntax->Option (Tu×Unit))(b:T10)(a:(TE×Unit)):=F a.1 b.2.1.1 b.2.2.1.1
@[go_sem]def GP(F:TE->Syntax->Syntax->Option (Tu×Unit)):=aaj [.arg 0 [],.Ci 0 3 [],.Ci 0 5 []] lv vQ ng k7 (wK F)
@[reducible] def GQ:kR (Tu×Unit):=nX e8 f190 n (Dj e8 [] [] [0,1,2] 3 ng k7) (rK:=qF [([0,1],FN)]) (cy:=atA [(0,aBB [.Ci 0 3 [],.Ci 0 5 []] lv tR ng (mH nk k7) (fun(b:T10)(a:(Int×(kg×Unit)))=>(Dp n) a.1 a.2.1 b.2.1.1 b.2.2.1.1))])
@[go_sem]abbrev FO(v0:List kg)(v1 j0:Int)(o1 o2:Syntax):jX:=⟨(.map 0::.pp [.lS false 9 (mp kg.cells v0)]::qA::.int .i64 v1::nv (nv (nv (qA::qA::qA::[])))),[.loop pZ [qA,qA,qA,.ptr 1 0,qA,.ptr 2 0,qA,qA,qA,qA,qA,qA,qA,qA,qA,qA,qA,qA,qA,qA,qA,qA,qA,qA,qA,qA,qA,qA,qA] (stJ pZ j0) j0,.cells (Syntax.cells o1),.cells (Syntax.cells o2)],3,[]⟩
abbrev FP:=TE->Int->Int->Syntax->Syntax->Option (Tu×Unit)
abbrev Q0(K:List Kt)(Z:FP):Prop:=∀v0 v1 j0 o1 o2,run (GQ n) K (FO v0 v1 j0 o1 o2)=Z v0 v1 j0 o1 o2
def tu:LB (Q0 n) [0,1] [.qU 0]:=mB
def vR:Nat->FP:=xb ((tu n).1)
def Eb{n:Nat}:vR n (m+1)=(tu n).1 (vR n m):=rfl
@[go_sem]def OA(m:Nat):=yL (tu n) (vR n) m
def As:SX (GQ n) vQ lv 19 wK:=mC
def CB:=fu fun n=>(As n).1
def Q1:∀n:Nat,R8 e8 190 vQ lv ng k7 (wK (CB n)):=ahI fun n=>abF (As n) (gd j9 ke (y:=(ahz (fun _ _ _ _ _ h=>aya (fun b a r h=>(Se n) a.1 a.2.1 b.2.1.1 b.2.2.1.1 r h) h) aj1))) func190 ntmps190 results190
@[go_sem]def jS:=(EY (VP (alC jU.ku 6 k7)) Fw)
@[go_sem]abbrev xV(F:jU->Option TI)(b:T6)(a:Unit):=F b.1.1
@[go_sem]def Wz(F:jU->Option TI):=aaj [.arg 0 []] jS (my 0 k7) jS (mH mb k7) (xV F)
@[reducible] def Js:kR TI:=nX e8 f59 n (Dj e8 [.tmp 2] [] [0] 1 jS (mH mb k7)) (cl:=ni [(56,qP (nG (mD (rI jU.ku) (lJ kH.ku) (mg n))))]) (uO:=mc []) (uR:=mc [])
@[go_sem]def WA:sP (Js n) [0,0,1,1]=true:=jR
def CC:SX (Js n) (my 0 k7) jS 26 xV:=mC
def zW:=fu fun n=>(CC n).1
def aLU:∀n:Nat,R8 e8 59 (my 0 k7) jS jS (mH mb k7) (xV (zW n)):=ahI fun n=>abF (CC n) (gd (jW (lD (lu (mm n))) j9) ke) func59 ntmps59 results59
open Go.Proofs
@[reducible] def Yw:kR Bool:=nX e8 f162 n (nT e8 [.tmp 2] nk) (cl:=ni [(56,mD (rI jU.ku) (lJ kH.ku) (mg n))])
def Dx:R2 (Yw n) (rI jU.ku) 48:=mB
def xC:=fu fun n=>(Dx n).1
def Jt:∀n:Nat,zm e8 162 (rI jU.ku) nk (xC n):=AH fun n=>Ap (Dx n) (gd (jW (lU (mm n)) j9) ke) func162 ntmps162 results162
@[reducible] def Va:kR Bool:=nX e8 f195 n (nT e8 [.tmp 4] nk) (cl:=ni [(216,rL (mZ mq) mb (lR .i64) (BP n))])
def Bp:SC2 (Va n) (mZ mq) mb 9:=mB
def nZ:=fu fun n=>(Bp n).1
def GR:∀n:Nat,Gx e8 195 (mZ mq) mb nk (nZ n):=IT fun n=>IS (Bp n) (gd (jW (pg (Yg n)) j9) ke) func195 ntmps195 results195
@[go_sem]abbrev yT(F:jV->Int->Tf->Tf->Ta->Option TU)(b:T7)(a:(jV×Unit)):=F a.1 b.1.1 b.2.1 b.2.2.1 b.2.2.2.1
@[go_sem]def K1(F:jV->Int->Tf->Tf->Ta->Option TU):=wI false [.arg 0 [],.Ci 0 0 [],.Ci 0 1 [],.Ci 0 2 []] lE (my 0 (mH (lJ jV.ku) k7)) lE (alM 2 (mH mb (mH (mZ mq) k7))) lE (alM 1 (mH mb (mH (mZ mq) k7))) (yT F)
@[reducible] def K2:kR TU:=nX e8 f243 n (afd e8 [.tmp 4,.tmp 5,.tmp 6] [] [0,1,2,3] 4 lE (alM 2 (mH mb (mH (mZ mq) k7))) [] lE (alM 1 (mH mb (mH (mZ mq) k7)))) (cl:=ni [(244,mD (lJ jV.ku) nk (Bm n))]) (uO:=mc []) (uR:=mc [])
@[go_sem]def Yx:aoa (K2 n) [0,0,1,0,1] [0,1,1]:=⟨jR,jR⟩
def Dy:SX (K2 n) (my 0 (mH (lJ jV.ku) k7)) lE 31 yT:=mC
def FQ:=fu fun n=>(Dy n).1
def WB:∀n:Nat,sV e8 243 (my 0 (mH (lJ jV.ku) k7)) lE false lE (alM 2 (mH mb (mH (mZ mq) k7))) lE (alM 1 (mH mb (mH (mZ mq) k7))) (yT (FQ n)):=Wa fun n=>aHA (Dy n) (gd (jW (lU (GB n)) j9) ke) func243 ntmps243 results243
@[go_sem]def ahU:wH:=⟨[],[],(zK::zA::zA::zK::zA::zA::zA::zK::zK::mG (nf (nf (nf (zA::zA::[]))))),[],none,none⟩
@[reducible] def aka:kR Bool:=nX e8 f260 n (nT e8 [.tmp 2] nk) (cl:=ni [(270,mD (lR .u8) nk (S6 n))]) (rK:=qF [([0,1,0,1,1],ahU)])
@[go_sem]abbrev ahV(v0:Str)(v1:Bool)(v2 v3:Int):jX:=⟨(.str (sb v0)::qA::qA::.bool v1::qA::qA::qA::.int .i64 v2::.int .i64 v3::mM (nv (nv (nv (qA::qA::[]))))),[],0,[]⟩
abbrev ahW:=Str->Bool->Int->Int->Option Bool
abbrev aq6(K:List Kt)(Z:ahW):Prop:=∀v0 v1 v2 v3,run (aka n) K (ahV v0 v1 v2 v3)=Z v0 v1 v2 v3
def K3:LB (aq6 n) [0,1,0,1,1] [.qU 0,.cut [1,1,1],.at [1,1,1]]:=mB
def K4:Nat->ahW:=xb ((K3 n).1)
def acf{n:Nat}:K4 n (m+1)=(K3 n).1 (K4 n m):=rfl
@[go_sem]def akS(m:Nat):=yL (K3 n) (K4 n) m
def acg:R2 (aka n) mb 39:=mB
def adT:=fu fun n=>(acg n).1
def aq7:∀n:Nat,zm e8 260 mb nk (adT n):=AH fun n=>Ap (acg n) (gd (jW (lU (amS n)) j9) ke) func260 ntmps260 results260
@[reducible] def akT:kR Int:=nX e8 f222 n (nT e8 [.tmp 4] (lR .i64)) (cl:=ni [(244,mD (lJ jV.ku) nk (Bm n)),(245,mD (lJ jV.ku) nk (Cr n))])
def Pc:SC2 (akT n) (lJ jV.ku) (lR .i64) 51:=mB
def HU:=fu fun n=>(Pc n).1
def WC:∀n:Nat,Gx e8 222 (lJ jV.ku) (lR .i64) (lR .i64) (HU n):=IT fun n=>IS (Pc n) (gd (jW (lU (GB n)) (jW (lU (KQ n)) j9)) ke) func222 ntmps222 results222
@[go_sem]def HV:wH:=⟨[(6,1,true)],[],(nf (zA::zT (tyF 165)::zK::mG (nf (zT (mZ kH.row)::zK::zK::mG (nf (nf (zA::zA::zA::[]))))))),[oT jU.ku,oA mq],none,none⟩
@[reducible] def CD:kR (Td×To):=nX e8 f126 n (Fi e8 [.tmp 4] (lm (lA jU.ku) li) (sr (mZ mq) pd) 1) (cl:=ni [(165,rL (lJ kH.ku) mb nk (xU n)),(166,rL mb mb nk (strings_Contains n))]) (rK:=qF [([0,1,0,1,1,1,1],HV)])
@[go_sem]abbrev HW(v0:List kH)(v1 v2:Int)(o0:jU)(r1:List Str)(c1:Nat):jX:=⟨(nv (qA::.func (.func 165) [] []::.mE 1 c1::mM (nv (.lS false 3 (mp kH.cells v0)::.int .i64 v1::.int .i64 v2::mM (nv (nv (qA::qA::qA::[]))))))),[.cells (jU.cells o0),.mE true 1 (mp nh r1)],1,[]⟩
abbrev HX:=(List kH)->Int->Int->jU->(List Str)->Option (Td×To)
abbrev Vb(K:List Kt)(Z:HX):Prop:=∀v0 v1 v2 o0 r1 c1,c1=r1.length->run (CD n) K (HW v0 v1 v2 o0 r1 c1)=Z v0 v1 v2 o0 r1
def uo:LB (Vb n) [0,1,0,1,1,1,1] [.qU 0,.cut [1,1,1,1,1],.at [1,1,1,1,1]]:=mB
def uq:Nat->HX:=xb ((uo n).1)
def FR{n:Nat}:uq n (m+1)=(uo n).1 (uq n m):=rfl
@[go_sem]def Qi(m:Nat):=yL (uo n) (uq n) m
def CE:{B:jU->Int->Option (Td×To) //∀(a0:jU)(a1:Int),run (CD n) [.at []] (UJ ((pS 0 (Ao (lR .i64) pG)).enc (a0,()) (a1,())) 57 ((lm (lA jU.ku) li).enc (a0,())))=B a0 a1}:=mB
def zX:=fu fun n=>(CE n).1
def Vc:∀(n:Nat)(a0:jU)(a1:Int)(r:(Td×To)),zX n a0 a1=some r->Kk e8 126 ((pS 0 (Ao (lR .i64) pG)).enc (a0,()) (a1,())) ((lm (lA jU.ku) li).enc (a0,())) (fun o H'=>o=.ret (n6 ((sr (mZ mq) pd).enc r.1 r.2))/\H'=(lm (lA jU.ku) li).enc r.1)
 |0,_,_,_,h=>by cases h
 |n+1,a0,a1,r,h=>by
  exact pq (M:=CD n) ⟨(jW (pg (QP n)) (jW (pg (Hf n)) j9)),ke,mU _,nn _,oR,oS,pM,qe⟩ func126 rfl rfl (by simp only[go_sem,fc,fg,e9,fa,fi,fj,fm,fo,fp,fb,fk,fq]) ((lm (lA jU.ku) li).nb _ _) ntmps126 results126 (fun J hs=>rS hs) (((CE n).2 a0 a1).trans h)
open Go.Proofs
@[go_sem]def WD:wH:=⟨[],[],(zT (mZ jV.row)::zA::zA::zK::zK::zK::mG (mG (nf (zA::zA::[])))),[oA mq],none,none⟩
@[go_sem]def WE:wH:=⟨[(3,1,true)],[],(zT (mZ jV.row)::zA::zA::zK::zK::mG (mG (nf (zA::zA::zA::[])))),[oA mq],none,none⟩
@[reducible] def Pd:kR (List Str):=nX e8 f22 n (nT e8 [.tmp 2] (mZ mq)) (cl:=ni [(48,rL (mZ mq) mb nk (adR n))]) (rK:=qF [([0,1,0,0,1,0,0,1,0,1,1],WD),([0,1,0,1,1],WE)])
abbrev WF(v0:List jV)(v1 v2:Int)(r0:List Str)(c0:Nat):jX:=⟨(.lS false 4 (mp jV.cells v0)::qA::qA::.mE 0 c0::.int .i64 v1::.int .i64 v2::mM (mM (nv (qA::qA::[])))),[.mE true 1 (mp nh r0)],0,[]⟩
abbrev WG(m2:Nat):List Kt:=[.qU 2,.qU 1,.cut [1,1,0,0,1,0,1,1],.at [1,1,0,0,1,0,1,1],.lp m2 [0,1,0,1,1],.qU 0,.cut [1,1,1],.at [1,1,1]]
abbrev WH:=(List jV)->Int->Int->(List Str)->Option (List Str)
abbrev ajp(K:List Kt)(Z:WH):Prop:=∀v0 v1 v2 r0 c0,c0=r0.length->run (Pd n) K (WF v0 v1 v2 r0 c0)=Z v0 v1 v2 r0
abbrev WI(v0:List jV)(v1:Int)(r0:List Str)(c0:Nat):jX:=⟨(.lS false 4 (mp jV.cells v0)::qA::qA::.mE 0 c0::.int .i64 v1::mM (mM (nv (qA::qA::qA::[])))),[.mE true 1 (mp nh r0)],0,[]⟩
abbrev GC:=(List jV)->Int->(List Str)->Option (List Str)
abbrev Ni(K:List Kt)(Z:GC):Prop:=∀v0 v1 r0 c0,c0=r0.length->run (Pd n) K (WI v0 v1 r0 c0)=Z v0 v1 r0
attribute [go_sem] WF WG WI
def CF:LB2 (Ni n) [0,1,0,1,1] [.qU 0,.cut [1,1,1],.at [1,1,1]] (ajp n) [0,1,0,0,1,0,0,1,0,1,1] WG:=mB
def CG(X2:GC):Nat->WH:=xb ((CF n).1 X2)
def Q2{n:Nat}(X2:GC):CG n X2 (m+1)=(CF n).1 X2 (CG n X2 m):=rfl
def aet{X2}(h2:Ni n (.lq m2 [0,1,0,1,1]::[.qU 0,.cut [1,1,1],.at [1,1,1]]) X2)(m:Nat):=aqT (CF n) h2 (CG n X2) m
def CH:LB (Ni n) [0,1,0,1,1] [.qU 0,.cut [1,1,1],.at [1,1,1]]:=by
 apply fA;intro m X0 ih v0 v1 r0 c0 ec0;subst ec0;simp (config:={maxSteps:=100000000}) only[go_sem,fc,fg,e9,fa,fi,fj,fm,fo,fp,fb,fk,fq,f22,fw,mixed,aet n ih,ih];exact rfl
def CJ:Nat->GC:=xb ((CH n).1)
def Q3{n:Nat}:CJ n (m+1)=(CH n).1 (CJ n m):=rfl
@[go_sem]def aeu(m:Nat):=yL (CH n) (CJ n) m
def Pe:R2 (Pd n) (mZ jV.row) 44:=mB
def NJ:=fu fun n=>(Pe n).1
def ajq:∀n:Nat,zm e8 22 (mZ jV.row) (mZ mq) (NJ n):=AH fun n=>Ap (Pe n) (gd (jW (pg (aqY n)) j9) ke) func22 ntmps22 results22
@[reducible] def PE:kR Int:=nX e8 f61 n (nT e8 [.tmp 2] (lR .i64)) (cd:=N5 [(38,nG (mD (rI jT.ku) (lJ kH.ku) (mi n)))]) (uO:=mc []) (uR:=mc [])
@[go_sem]def aev:sP (PE n) [0,1]=true:=jR
def Hr:R2 (PE n) (rI jT.ku) 11:=mB
def l3:=fu fun n=>(Hr n).1
def p4:∀n:Nat,zm e8 61 (rI jT.ku) (lR .i64) (l3 n):=AH fun n=>Ap (Hr n) (gd j9 (oJ (lu (mA n)) ke)) func61 ntmps61 results61
@[reducible] def ags:kR Bool:=nX e8 f108 n (nT e8 [.tmp 4] nk) (cl:=ni [(38,mD (rI jT.ku) (lJ kH.ku) (mi n))])
def I2:SC2 (ags n) (rI jT.ku) mb 16:=mB
def lM:=fu fun n=>(I2 n).1
def nj:∀n:Nat,Gx e8 108 (rI jT.ku) mb nk (lM n):=IT fun n=>IS (I2 n) (gd (jW (lU (mA n)) j9) ke) func108 ntmps108 results108
@[reducible] def agt:kR Bool:=nX e8 f62 n (nT e8 [.tmp 4] nk) (cl:=ni [(38,mD (rI jT.ku) (lJ kH.ku) (mi n))])
def I3:SC2 (agt n) (rI jT.ku) mb 16:=mB
def xf:=fu fun n=>(I3 n).1
def BR:∀n:Nat,Gx e8 62 (rI jT.ku) mb nk (xf n):=IT fun n=>IS (I3 n) (gd (jW (lU (mA n)) j9) ke) func62 ntmps62 results62
@[reducible] def aew:kR Bool:=nX e8 f112 n (nT e8 [.tmp 4] nk) (cl:=ni [(38,mD (rI jT.ku) (lJ kH.ku) (mi n))])
def Hs:SC2 (aew n) (rI jT.ku) mb 16:=mB
def E8:=fu fun n=>(Hs n).1
def ach:∀n:Nat,Gx e8 112 (rI jT.ku) mb nk (E8 n):=IT fun n=>IS (Hs n) (gd (jW (lU (mA n)) j9) ke) func112 ntmps112 results112
@[reducible] def aq8:kR Int:=nX e8 f229 n (nT e8 [.tmp 4] (lR .i64)) (cl:=ni [(116,mD (lJ jV.ku) nk (zD n)),(145,mD (lJ jV.ku) nk (Jo n))])
def Yy:SC2 (aq8 n) (lJ jV.ku) (lR .i64) 55:=mB
def Q4:=fu fun n=>(Yy n).1
def afs:∀n:Nat,Gx e8 229 (lJ jV.ku) (lR .i64) (lR .i64) (Q4 n):=IT fun n=>IS (Yy n) (gd (jW (lU (Bi n)) (jW (lU (QL n)) j9)) ke) func229 ntmps229 results229
open Go.Proofs
@[go_sem]def HY:wH:=⟨[],[],(zT (rI jT.ku)::zA::zA::zK::zK::mG (nf (nf (nf (zA::[]))))),[oT kH.ku],none,none⟩
@[reducible] def CK:kR Bool:=nX e8 f170 n (nT e8 [.tmp 2] nk) (cl:=ni [(38,mD (rI jT.ku) (lJ kH.ku) (mi n))]) (rK:=qF [([0,1,0,1,1,1],HY)]) (uO:=mc []) (uR:=mc [])
@[go_sem]def WJ:sP (CK n) [0,0,0,1,0,0,1,0,1,1,1]=true:=jR
@[go_sem]abbrev HZ(v0:jT)(v1:Int)(o0:kH):jX:=⟨(.pp (jT.cells v0)::qA::qA::.ptr 0 0::.int .i64 v1::mM (nv (nv (nv (qA::[]))))),[.cells (kH.cells o0)],0,[]⟩
abbrev H6:=jT->Int->kH->Option Bool
abbrev Vd(K:List Kt)(Z:H6):Prop:=∀v0 v1 o0,run (CK n) K (HZ v0 v1 o0)=Z v0 v1 o0
def ur:LB (Vd n) [0,1,0,1,1,1] [.qU 0,.cut [1,1,1,1],.at [1,1,1,1]]:=mB
def ut:Nat->H6:=xb ((ur n).1)
def FS{n:Nat}:ut n (m+1)=(ur n).1 (ut n m):=rfl
@[go_sem]def Qj(m:Nat):=yL (ur n) (ut n) m
def CL:R2 (CK n) (rI jT.ku) 34:=mB
def ud:=fu fun n=>(CL n).1
def Ve:∀n:Nat,zm e8 170 (rI jT.ku) nk (ud n):=AH fun n=>Ap (CL n) (gd (jW (lU (mA n)) j9) ke) func170 ntmps170 results170
@[go_sem]def Mn:wH:=⟨[(5,1,true)],[],(zK::zK::zA::zA::zA::zK::vD (nf (nf (zA::[])))),[oT jT.ku,oA mq],none,none⟩
@[reducible] def FT:kR (T8×To):=nX e8 f133 n (Fi e8 [.tmp 4] (lm (lA jT.ku) li) (sr (mZ mq) pd) 1) (cl:=ni [(174,mD mb nk (Dq n))]) (rK:=qF [([0,1,0,1,1,1],Mn)])
@[go_sem]abbrev Mo(v0:Int)(o0:jT)(r1:List Str)(c1:Nat):jX:=⟨(.ptr 0 0::.int .i64 v0::qA::qA::qA::.mE 1 c1::vC (nv (nv (qA::[])))),[.cells (jT.cells o0),.mE true 1 (mp nh r1)],1,[]⟩
abbrev Mp:=Int->jT->(List Str)->Option (T8×To)
abbrev aap(K:List Kt)(Z:Mp):Prop:=∀v0 o0 r1 c1,c1=r1.length->run (FT n) K (Mo v0 o0 r1 c1)=Z v0 o0 r1
def wQ:LB (aap n) [0,1,0,1,1,1] [.qU 0,.cut [1,1,1,1],.at [1,1,1,1]]:=mB
def wR:Nat->Mp:=xb ((wQ n).1)
def Ju{n:Nat}:wR n (m+1)=(wQ n).1 (wR n m):=rfl
@[go_sem]def Vf(m:Nat):=yL (wQ n) (wR n) m
def FU:{B:jT->Int->Option (T8×To) //∀(a0:jT)(a1:Int),run (FT n) [.at []] (UJ ((pS 0 (Ao (lR .i64) pG)).enc (a0,()) (a1,())) 79 ((lm (lA jT.ku) li).enc (a0,())))=B a0 a1}:=mB
def Dz:=fu fun n=>(FU n).1
def aaq:∀(n:Nat)(a0:jT)(a1:Int)(r:(T8×To)),Dz n a0 a1=some r->Kk e8 133 ((pS 0 (Ao (lR .i64) pG)).enc (a0,()) (a1,())) ((lm (lA jT.ku) li).enc (a0,())) (fun o H'=>o=.ret (n6 ((sr (mZ mq) pd).enc r.1 r.2))/\H'=(lm (lA jT.ku) li).enc r.1)
 |0,_,_,_,h=>by cases h
 |n+1,a0,a1,r,h=>by
  exact pq (M:=FT n) ⟨(jW (lU (IA n)) j9),ke,mU _,nn _,oR,oS,pM,qe⟩ func133 rfl rfl (by simp only[go_sem,fc,fg,e9,fa,fi,fj,fm,fo,fp,fb,fk,fq]) ((lm (lA jT.ku) li).nb _ _) ntmps133 results133 (fun J hs=>rS hs) (((FU n).2 a0 a1).trans h)
def aci:wH:=⟨[],[],(zA::zA::zK::zK::zK::nf (zA::zA::zK::vD (vD (nf [])))),[oT Syntax.ku,oT Syntax.ku],none,none⟩
def acj:wH:=⟨[],[],(zA::zA::zK::zK::zK::zA::zA::zK::zK::zK::zK::vD (vD (nf (zA::[])))),[oT Syntax.ku,oT Syntax.ku,oT j7.ku,oT j7.ku],none,none⟩
def ack:wH:=⟨[],[],(zA::zA::zK::zK::zK::zA::zA::zK::vD (vD (nf (nf [])))),[oT Syntax.ku,oT Syntax.ku],none,none⟩
@[reducible] def xq(X:Syntax->Syntax->Bool->Option Bool)(n:Nat):kR Bool:=nX e8 f16 n (nT e8 [.tmp 6] nk) (cl:=ni [(40,rL (mZ mq) (mZ mq) nk (IB n))]) (cd:=N5 [(16,nG (X1 (lJ Syntax.ku) (lJ Syntax.ku) nk nk X))]) (rK:=qF [([0,1,0,1,1,1],aci),([0,1,1,1,0,0,1,0,0,1,0,1,1],acj),([0,1,0,1,1],ack)]) (uO:=mc []) (uR:=mc [])
def aor(X:Syntax->Syntax->Bool->Option Bool)(n:Nat):azD (xq X n) [0,0,0,1,0,0,1,0,1,1] [0,0,0,1,0,0,1,0,1,1,1] [0,0,0,1,0,0,1,1,1,0,0,1,0,0,1,0,1,1]:=⟨jR,jR,jR⟩
def aos(X:Syntax->Syntax->Bool->Option Bool)(n:Nat):Bh (xq X n) [0,0,0,1,0,0,1,0,1,1] 1 12 3 12 4 12 10 12/\Bh (xq X n) [0,0,0,1,0,0,1,0,1,1] 11 12 1 13 3 13 4 13/\Bh (xq X n) [0,0,0,1,0,0,1,0,1,1] 6 13 8 13 9 13 10 13/\akF (xq X n) [0,0,0,1,0,0,1,0,1,1] 11 13 12 13 10 11:=⟨⟨jR,jR,jR,jR⟩,⟨jR,jR,jR,jR⟩,⟨jR,jR,jR,jR⟩,jR,jR,jR⟩
attribute [go_sem] aor aos aci acj ack
abbrev acl(v0:Bool)(v1:Int)(o0 o1:Syntax):jX:=⟨(qA::qA::.bool v0::.ptr 0 0::.ptr 1 0::nv (qA::qA::.int .i64 v1::vC (vC (nv [])))),[.cells (Syntax.cells o0),.cells (Syntax.cells o1)],0,[]⟩
abbrev CM:=Bool->Int->Syntax->Syntax->Option Bool
abbrev am2(X:Syntax->Syntax->Bool->Option Bool)(n:Nat)(K:List Kt)(Z:CM):Prop:=∀v0 v1 o0 o1,run (xq X n) K (acl v0 v1 o0 o1)=Z v0 v1 o0 o1
abbrev acm(v0:Bool)(v1 v2:Int)(o0 o1:Syntax)(o2 o3:j7):jX:=⟨(qA::qA::.bool v0::.ptr 0 0::.ptr 1 0::qA::qA::.int .i64 v1::.ptr 2 0::.ptr 3 0::.int .i64 v2::vC (vC (nv (qA::[])))),[.cells (Syntax.cells o0),.cells (Syntax.cells o1),.cells (j7.cells o2),.cells (j7.cells o3)],0,[]⟩
abbrev acn(m3:Nat):List Kt:=[.qU 2,.qU 1,.cut [1,1,0,0,1,0,1,1],.at [1,1,0,0,1,0,1,1],.lp m3 [0,1,0,1,1],.qU 0,.cut [1,1,1],.at [1,1,1]]
abbrev aco:=Bool->Int->Int->Syntax->Syntax->j7->j7->Option Bool
abbrev am3(X:Syntax->Syntax->Bool->Option Bool)(n:Nat)(K:List Kt)(Z:aco):Prop:=∀v0 v1 v2 o0 o1 o2 o3,run (xq X n) K (acm v0 v1 v2 o0 o1 o2 o3)=Z v0 v1 v2 o0 o1 o2 o3
abbrev acp(v0:Bool)(v1:Int)(o0 o1:Syntax):jX:=⟨(qA::qA::.bool v0::.ptr 0 0::.ptr 1 0::qA::qA::.int .i64 v1::vC (vC (nv (nv [])))),[.cells (Syntax.cells o0),.cells (Syntax.cells o1)],0,[]⟩
abbrev Q5(X:Syntax->Syntax->Bool->Option Bool)(n:Nat)(K:List Kt)(Z:CM):Prop:=∀v0 v1 o0 o1,run (xq X n) K (acp v0 v1 o0 o1)=Z v0 v1 o0 o1
attribute [go_sem] acl acm acn acp
def FV(X:Syntax->Syntax->Bool->Option Bool)(n:Nat):LB (am2 X n) [0,1,0,1,1,1] [.qU 4,.cut [1,1,1,1],.at [1,1,1,1]]:=mB
def FW(X:Syntax->Syntax->Bool->Option Bool)(n:Nat):Nat->CM:=xb ((FV X n).1)
def WK(X:Syntax->Syntax->Bool->Option Bool){n:Nat}:FW X n (m+1)=(FV X n).1 (FW X n m):=rfl
@[go_sem]def Ud(X:Syntax->Syntax->Bool->Option Bool)(n:Nat)(m:Nat):=yL (FV X n) (FW X n) m
def FX(X:Syntax->Syntax->Bool->Option Bool)(n:Nat):LB2 (Q5 X n) [0,1,0,1,1] [.qU 0,.cut [1,1,1],.at [1,1,1]] (am3 X n) [0,1,1,1,0,0,1,0,0,1,0,1,1] acn:=mB
def K5(X:Syntax->Syntax->Bool->Option Bool)(n:Nat)(X3:CM):Nat->aco:=xb ((FX X n).1 X3)
def WL(X:Syntax->Syntax->Bool->Option Bool){n:Nat}(X3:CM):K5 X n X3 (m+1)=(FX X n).1 X3 (K5 X n X3 m):=rfl
def ahX(X:Syntax->Syntax->Bool->Option Bool)(n:Nat){X3}(h3:Q5 X n (.lq m3 [0,1,0,1,1]::[.qU 0,.cut [1,1,1],.at [1,1,1]]) X3)(m:Nat):=aqT (FX X n) h3 (K5 X n X3) m
def FY(X:Syntax->Syntax->Bool->Option Bool)(n:Nat):LB (Q5 X n) [0,1,0,1,1] [.qU 0,.cut [1,1,1],.at [1,1,1]]:=by
 apply fA;intro m X0 ih v0 v1 o0 o1;simp (config:={maxSteps:=100000000}) only[go_sem,fc,fg,e9,fa,fi,fj,fm,fo,fp,fb,fk,fq,f16,fw,mixed,Ud X n,ahX X n ih,ih];exact rfl
def zG(X:Syntax->Syntax->Bool->Option Bool)(n:Nat):Nat->CM:=xb ((FY X n).1)
def WM(X:Syntax->Syntax->Bool->Option Bool){n:Nat}:zG X n (m+1)=(FY X n).1 (zG X n m):=rfl
@[go_sem]def ahY(X:Syntax->Syntax->Bool->Option Bool)(n:Nat)(m:Nat):=yL (FY X n) (zG X n) m
def Vg(X:Syntax->Syntax->Bool->Option Bool)(n:Nat):SC3 (xq X n) (lJ Syntax.ku) (lJ Syntax.ku) nk 144:=mB
def uW:Nat->Syntax->Syntax->Bool->Option Bool
 |0,_,_,_=>none
 |n+1,a0,a1,a2=>(Vg (uW n) n).1 a0 a1 a2
def acq:∀n:Nat,aqU e8 16 (lJ Syntax.ku) (lJ Syntax.ku) nk nk (uW n)
 |0=>fun _ _ _ _ h=>(by cases h)
 |n+1=>by
  have am4:=acq n;exact azF (Vg (uW n) n) (gd (jW (pg (ago n)) j9) (oJ (N4 (am4)) ke)) func16 ntmps16 results16
open Go.Proofs
@[go_sem]def Q6:wH:=⟨[],[],(zK::zK::mG (nf (nf (nf [])))),[],none,none⟩
@[reducible] def Ue:kR Int:=nX e8 f85 n (nT e8 [.tmp 4] (lR .i64)) (cl:=ni [(84,mD (lR .u8) nk (xp n)),(90,mD (lR .u8) nk (N8 n))]) (rK:=qF [([0,0,1],Q6)])
@[go_sem]abbrev Q7(v0:Str)(v1:Int):jX:=⟨(.str (sb v0)::.int .i64 v1::mM (nv (nv (nv [])))),[],0,[]⟩
abbrev agu(K:List Kt)(Z:um):Prop:=∀v0 v1,run (Ue n) K (Q7 v0 v1)=Z v0 v1
def zH:LB (agu n) [0,0,1] [.qU 0,.cut [1,1],.at [1,1]]:=mB
def zI:Nat->um:=xb ((zH n).1)
def OB{n:Nat}:zI n (m+1)=(zH n).1 (zI n m):=rfl
@[go_sem]def aar(m:Nat):=yL (zH n) (zI n) m
def K6:SC2 (Ue n) mb (lR .i64) 30:=mB
def Ed:=fu fun n=>(K6 n).1
def Q8:∀n:Nat,Gx e8 85 mb (lR .i64) (lR .i64) (Ed n):=IT fun n=>IS (K6 n) (gd (jW (lU (IC n)) (jW (lU (abI n)) j9)) ke) func85 ntmps85 results85
@[reducible] def WN:kR Bool:=nX e8 f115 n (nT e8 [.tmp 4] nk) (cd:=N5 [(116,nG (mD (lJ jV.ku) nk (zD n))),(117,nG (mD (lJ jV.ku) mb (I0 n))),(147,nG (rL (lJ jV.ku) mb nk (Oi n)))]) (uO:=mc []) (uR:=mc [])
@[go_sem]def ajr:sP (WN n) [0,1]=true:=jR
def Nj:SC2 (WN n) (lJ jV.ku) (lJ jV.ku) 23:=mB
def CN:=fu fun n=>(Nj n).1
def Uf:∀n:Nat,Gx e8 115 (lJ jV.ku) (lJ jV.ku) nk (CN n):=IT fun n=>IS (Nj n) (gd j9 (oJ (lu (Bi n)) (oJ (lu (aLS n)) (oJ (pm (am0 n)) ke)))) func115 ntmps115 results115
@[go_sem]abbrev GD(F:Option ((Ta×Unit)×Unit))(b:Unit)(a:Unit):=F
@[go_sem]def Nk(F:Option ((Ta×Unit)×Unit)):=aaj [] Fw k7 (EY ogM Fw) (alM 0 k7) (GD F)
@[reducible] def WO:kR ((Ta×Unit)×Unit):=nX e8 f148 n (Dj e8 [.tmp 0] [.arg 0 []] [] 0 (EY ogM Fw) (alM 0 k7)) (cl:=ni [(183,mD mb (atg 207 (rI cS)) (SN n)),(207,Mj (PD n))]) (js:=aHh [([0,1,0,1,1],[])])
@[go_sem]def agv:lkM (WO n) [0,1,0,1,1]=nM:=rfl
def WP:SX (WO n) k7 Fw 9 GD:=mC
def FZ:=fu fun n=>(WP n).1
def Ug:∀n:Nat,R8 e8 148 k7 Fw (EY ogM Fw) (alM 0 k7) (GD (FZ n)):=ahI fun n=>abF (WP n) (gd (jW (lU (abK n)) (jW (tY (Yt n)) j9)) ke) func148 ntmps148 results148
@[reducible] def Yz:kR Bool:=nX e8 f188 n (nT e8 [.tmp 4] nk) (cl:=ni [(211,rL mb (lR .i32) (lR .i64) (oF n))])
def K7:SC2 (Yz n) mb (lR .i32) 9:=mB
def xD:=fu fun n=>(K7 n).1
def WQ:∀n:Nat,Gx e8 188 mb (lR .i32) nk (xD n):=IT fun n=>IS (K7 n) (gd (jW (pg (Oy n)) j9) ke) func188 ntmps188 results188
@[go_sem]def EH:wH:=⟨[],[],(zK::nf (zK::vD (mG (nf (nf (nf [])))))),[oC [zK,zK,zK,zK,zK],oK,oK,oK],none,none⟩
@[reducible] def F0:kR (Tm×(Int×TD)):=nX e8 f152 n (Dj e8 [.tmp 2,.tmp 3,.tmp 4] [] [0,1,2,3] 4 kU oh) (cl:=ni [(156,mD (lR .u8) (lR .i64) (C9 n)),(184,mD (lR .u8) nk (yS n))]) (rK:=qF [([0,0,0,0,0,0,1,1],EH),([0,0,1,1],EH)]) (uO:=mc []) (uR:=mc [])
@[go_sem]def acr:aoa (F0 n) [0,0,1,0,0,1,1,1,1] [0,1,1,1]:=⟨jR,jR⟩
@[go_sem]abbrev Mq(v0:Int)(v1:Str)(v2:Int)(r1 r2 r3:List (Str×Bool)):jX:=⟨(.ptr 0 0::nv (.int .i64 v0::vC (mM (nv (nv (nv [])))))),[.cells [.str (sb v1),.int .i64 v2,.map 1,.map 2,.map 3],.map (mp Gr r1),.map (mp Gr r2),.map (mp Gr r3)],4,[]⟩
@[go_sem]abbrev Mr(m2:Nat):List Kt:=[.qU 2,.cut [1,0,0,0,0,1,1],.at [1,0,0,0,0,1,1],.qU 1,.lp m2 [0,0,1,1],.qU 0,.cut [1,1,1],.at [1,1,1]]
abbrev zY(K:List Kt)(Z:pu):Prop:=∀v0 v1 v2 r1 r2 r3,run (F0 n) K (Mq v0 v1 v2 r1 r2 r3)=Z v0 v1 v2 r1 r2 r3
def wS:LB2 (zY n) [0,0,1,1] [.qU 0,.cut [1,1,1],.at [1,1,1]] (zY n) [0,0,0,0,0,0,1,1] Mr:=mB
def ue(X2:pu):Nat->pu:=xb ((wS n).1 X2)
def Jv{n:Nat}(X2:pu):ue n X2 (m+1)=(wS n).1 X2 (ue n X2 m):=rfl
def Vh{X2}(h2:zY n (.lq m2 [0,0,1,1]::[.qU 0,.cut [1,1,1],.at [1,1,1]]) X2)(m:Nat):=aqT (wS n) h2 (ue n X2) m
def zZ:LB (zY n) [0,0,1,1] [.qU 0,.cut [1,1,1],.at [1,1,1]]:=by
 apply fA;intro m X0 ih v0 v1 v2 r1 r2 r3;simp (config:={maxSteps:=100000000}) only[go_sem,fc,fg,e9,fa,fi,fj,fm,fo,fp,fb,fk,fq,f152,fw,mixed,Vh n ih,ih];exact rfl
def sI:Nat->pu:=xb ((zZ n).1)
def WR{n:Nat}:sI n (m+1)=(zZ n).1 (sI n m):=rfl
@[go_sem]def Vi(m:Nat):=yL (zZ n) (sI n) m
def F1:SX (F0 n) (my 0 k7) kU 98 oO:=mC
def DA:=fu fun n=>(F1 n).1
def aas:∀n:Nat,R8 e8 152 (my 0 k7) kU kU oh (oO (DA n)):=ahI fun n=>abF (F1 n) (gd (jW (lU (Fy n)) (jW (lU (Pa n)) j9)) ke) func152 ntmps152 results152
@[go_sem]def Jw:wH:=⟨[],[],(zK::nf (zK::vD (nf (nf (nf (zA::zA::[])))))),[oC [zK,zK,zK,zK,zK],oK,oK,oK],none,none⟩
@[reducible] def DB:kR (Tm×(Int×TD)):=nX e8 f153 n (Dj e8 [.tmp 2,.tmp 3,.tmp 4] [] [0,1,2,3] 4 kU oh) (cl:=ni [(156,mD (lR .u8) (lR .i64) (C9 n)),(184,mD (lR .u8) nk (yS n))]) (rK:=qF [([0,0,1,1],Jw)]) (uO:=mc []) (uR:=mc [])
@[go_sem]def YA:azD (DB n) [0,0,1,0,0,1,1,1] [0,0,1,1,1,0,0,1,1,1] [0,1,1,0,0,1,1,1]:=⟨jR,jR,jR⟩
@[go_sem]abbrev Jx(v0:Int)(v1:Str)(v2:Int)(r1 r2 r3:List (Str×Bool)):jX:=⟨(.ptr 0 0::nv (.int .i64 v0::vC (nv (nv (nv (qA::qA::[])))))),[.cells [.str (sb v1),.int .i64 v2,.map 1,.map 2,.map 3],.map (mp Gr r1),.map (mp Gr r2),.map (mp Gr r3)],4,[]⟩
abbrev WS(K:List Kt)(Z:pu):Prop:=∀v0 v1 v2 r1 r2 r3,run (DB n) K (Jx v0 v1 v2 r1 r2 r3)=Z v0 v1 v2 r1 r2 r3
def uX:LB (WS n) [0,0,1,1] [.qU 0,.cut [1,1,1],.at [1,1,1]]:=mB
def uY:Nat->pu:=xb ((uX n).1)
def GS{n:Nat}:uY n (m+1)=(uX n).1 (uY n m):=rfl
@[go_sem]def Q9(m:Nat):=yL (uX n) (uY n) m
def DC:SX (DB n) (my 0 k7) kU 84 oO:=mC
def AR:=fu fun n=>(DC n).1
def WT:∀n:Nat,R8 e8 153 (my 0 k7) kU kU oh (oO (AR n)):=ahI fun n=>abF (DC n) (gd (jW (lU (Fy n)) (jW (lU (Pa n)) j9)) ke) func153 ntmps153 results153
end Go.Abs
end
