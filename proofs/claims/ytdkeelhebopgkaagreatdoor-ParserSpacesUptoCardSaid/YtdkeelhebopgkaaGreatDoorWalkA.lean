/- A part of the proof: what the functions compute. -/
import Derived.Test.YtdkeelhebopgkaaGreatDoorDataA
import Derived.Test.YtdkeelhebopgkaaGreatDoorExtA
set_option linter.all false
open Go.Proofs.Tryz renaming prog → eZ
open Nat renaming reduceLeDiff → e8,reduceEqDiff → e9,reduceAdd → fc,reduceSub → fg,reduceBEq → fi,reduceMul → fj,reduceLT → fm,le_trans → fx,le_of_eq → fy
open Int renaming reduceToNat → fa,reduceBEq → fk,reduceLE → fo,reduceLT → fp,reduceEq → fq
open Option renaming getD_some → fb
open List renaming replicate → fw
open Subtype renaming mk → fz
open Go.Abs.AV renaming any → qA
noncomputable section
open Go.Proofs.Tryz
namespace Go.Abs
variable {m m2:Nat}
variable (n:Nat)
open Go.Proofs
attribute [go_sem] f134 f90 f49 f86 f87 f116 f145 f182 f31 f32 f183 f148 f156 f186 f135 f238 f136 f151 f212 f70 f73 f56 f191 f192 f194 f193 f157 f158 f121 f289 f216 f198 f218 f244 f245 f270 f221 f165 f17 f41 f83 f48 f46 f89 f91 f84 f146 f117 f147 f207 f184 f150 f211 f93 f58 f59 f74 f159 f160 f120 f190 f162 f195 f243 f260 f222 f126 f43 f22 f85 f115 f188 f152 f153 f187 f103 f79 f124 f161
set_option maxRecDepth 100000
set_option maxHeartbeats 4000000
@[reducible] def ac6:kD Bool:=ol eZ f134 n (nE eZ [.tmp 2] my)
def KS:{B:Int->Option Bool // ∀(a0:Int),run (ac6 n) [.at []] (xI [(lO .u8).enc a0] 17)=B a0}:=mB
def Ke:=fu fun n=>(KS n).1
def abf:zO eZ 134 (kP (lO .u8) kr) my (fun n a=>Ke n a.1):=fC fun n a r h nb=>AQ (((KS n).2 _).trans h) (gd jQ jR) func134 nb ntmps134 results134
@[reducible] def aeh:kD Bool:=ol eZ f90 n (nE eZ [.tmp 2] my)
def M5:{B:Int->Option Bool // ∀(a0:Int),run (aeh n) [.at []] (xI [(lO .u8).enc a0] 9)=B a0}:=mB
def IN:=fu fun n=>(M5 n).1
def TX:zO eZ 90 (kP (lO .u8) kr) my (fun n a=>IN n a.1):=fC fun n a r h nb=>AQ (((M5 n).2 _).trans h) (gd jQ jR) func90 nb ntmps90 results90
@[go_sem]def Om:wX:=⟨[],[],(zK::zA::zA::zT (l5 l6)::zK::l7 (l7 (l7 (zA::[])))),[],none,none⟩
@[reducible] def Rl:kD Bool:=ol eZ f49 n (nE eZ [.tmp 2] my) (sx:=qk [([0,1,0,1,1],Om)])
@[go_sem]abbrev On(v0:Str)(v1:List Str)(v2:Int):jI:=⟨(.str (sb v0)::qA::qA:: .lI false 1 (mp mA v1):: .int .i64 v2::mq (mq (mq (qA::[])))),[],0,[]⟩
abbrev CR:=Str->(List Str)->Int->Option Bool
abbrev ZY(K:List Kt)(Z:CR):Prop:= ∀v0 v1 v2,run (Rl n) K (On v0 v1 v2)=Z v0 v1 v2
def CS:LB (ZY n) [0,1,0,1,1] [.blk 0,.cut [1,1,1],.at [1,1,1]]:=mB
def CT:Nat->CR:=w8 ((CS n).1)
def Xv{n:Nat}:CT n (m+1)=(CS n).1 (CT n m):=rfl
@[go_sem]def V1(m:Nat):=Ij (CS n) (CT n) m
def Jw:{B:Str->Option Bool // ∀(a0:Str),run (Rl n) [.at []] (xI [lP.enc a0] 18)=B a0}:=mB
def DR:=fu fun n=>(Jw n).1
def Oo:zO eZ 49 (kP lP kr) my (fun n a=>DR n a.1):=fC fun n a r h nb=>AQ (((Jw n).2 _).trans h) (gd jQ jR) func49 nb ntmps49 results49
@[go_sem]def WH:wX:=⟨[],[],(zK::zA::zA::zK::zK::l7 (l7 (zA::zA::zA::[]))),[],none,none⟩
@[reducible] def YC:kD Bool:=ol eZ f86 n (nE eZ [.tmp 2] my) (sx:=qk [([0,1,0,1,1],WH)])
@[go_sem]abbrev WI(v0:Int)(v1:Str)(v2:Int):jI:=⟨(.int .u8 v0::qA::qA:: .str (sb v1):: .int .i64 v2::mq (mq (qA::qA::qA::[]))),[],0,[]⟩
abbrev WJ:=Int->Str->Int->Option Bool
abbrev aei(K:List Kt)(Z:WJ):Prop:= ∀v0 v1 v2,run (YC n) K (WI v0 v1 v2)=Z v0 v1 v2
def M6:LB (aei n) [0,1,0,1,1] [.blk 0,.cut [1,1,1],.at [1,1,1]]:=mB
def M7:Nat->WJ:=w8 ((M6 n).1)
def apI{n:Nat}:M7 n (m+1)=(M6 n).1 (M7 n m):=rfl
@[go_sem]def ZZ(m:Nat):=Ij (M6 n) (M7 n) m
def YD:{B:Int->Option Bool // ∀(a0:Int),run (YC n) [.at []] (xI [(lO .u8).enc a0] 16)=B a0}:=mB
def P3:=fu fun n=>(YD n).1
def aej:zO eZ 86 (kP (lO .u8) kr) my (fun n a=>P3 n a.1):=fC fun n a r h nb=>AQ (((YD n).2 _).trans h) (gd jQ jR) func86 nb ntmps86 results86
@[reducible] def aek:kD (List Str):=ol eZ f87 n (nE eZ [.tmp 0] (al8 l6))
def M8:{B:Option (List Str) // run (aek n) [.at []] (xI ([]:List AV) 2)=B}:=mB
def IO:=fu fun n=>(M8 n).1
def TY:zO eZ 87 kr (al8 l6) (fun n a=>IO n):=fC fun n a r h nb=>AQ ((M8 n).2.trans h) (gd jQ jR) func87 nb ntmps87 results87
@[reducible] def agI:kD Bool:=ol eZ f116 n (nE eZ [.tmp 2] my)
def P4:{B:jH->Option Bool // ∀(a0:jH),run (agI n) [.at []] (xI [(lF jH.ky).enc a0] 8)=B a0}:=mB
def Ag:=fu fun n=>(P4 n).1
def DS:zO eZ 116 (kP (lF jH.ky) kr) my (fun n a=>Ag n a.1):=fC fun n a r h nb=>AQ (((P4 n).2 _).trans h) (gd jQ jR) func116 nb ntmps116 results116
open Go.Proofs
@[reducible] def ael:kD Bool:=ol eZ f145 n (nE eZ [.tmp 2] my)
def M9:{B:jH->Option Bool // ∀(a0:jH),run (ael n) [.at []] (xI [(lF jH.ky).enc a0] 12)=B a0}:=mB
def Mp:=fu fun n=>(M9 n).1
def ac7:zO eZ 145 (kP (lF jH.ky) kr) my (fun n a=>Mp n a.1):=fC fun n a r h nb=>AQ (((M9 n).2 _).trans h) (gd jQ jR) func145 nb ntmps145 results145
@[reducible] def ac8:kD Bool:=ol eZ f182 n (nE eZ [.tmp 2] my)
def KT:{B:Int->Option Bool // ∀(a0:Int),run (ac8 n) [.at []] (xI [(lO .u8).enc a0] 21)=B a0}:=mB
def Kf:=fu fun n=>(KT n).1
def abg:zO eZ 182 (kP (lO .u8) kr) my (fun n a=>Kf n a.1):=fC fun n a r h nb=>AQ (((KT n).2 _).trans h) (gd jQ jR) func182 nb ntmps182 results182
@[go_sem]def jZ:=(BP (PC (alC Syntax.ky 8 kr)) (BP (PC (alC (cI .i64) 1 kr)) (BP (PC (alC (cI .i64) 1 kr)) EC)))
@[reducible] def Ah:kD (Tl×Unit):=ol eZ f31 n (Ds eZ [] [] [0,1,2] 3 jZ kr)
def ED:{B:Syntax->Int->Int->Option (Tl×Unit) // ∀(o0:Syntax)(o1:Int)(o2:Int),run (Ah n) [.ops (qv (Ah n) [0]) ((qv (Ah n) [0]).toList.drop 1),.cut [1],.at [1]] (jI.put {slots:=((lm 0 (lm 1 (lm 2 kr))).enc (jZ.lens ((o0,()),(o1,()),(o2,()),())) ())++fw (15-((lm 0 (lm 1 (lm 2 kr))).enc (jZ.lens ((o0,()),(o1,()),(o2,()),())) ()).length) qA,heap:=(jZ.enc (jZ.lens ((o0,()),(o1,()),(o2,()),())) ((o0,()),(o1,()),(o2,()),())),low:=(jZ.enc (jZ.lens ((o0,()),(o1,()),(o2,()),())) ((o0,()),(o1,()),(o2,()),())).length} (some 5) (.raw .nilIface))=B o0 o1 o2}:=mB
def tO:=fu fun n=>(ED n).1
def V2: ∀(n:Nat)(o0:Syntax)(o1:Int)(o2:Int)(r:(Tl×Unit)),tO n o0 o1 o2=some r->FnT eZ (ad6 eZ 31) ((lm 0 (lm 1 (lm 2 kr))).enc (jZ.lens ((o0,()),(o1,()),(o2,()),())) ()) (jZ.enc (jZ.lens ((o0,()),(o1,()),(o2,()),())) ((o0,()),(o1,()),(o2,()),())) (fun o H'=>o=(enR jZ kr r).1/\H'=(enR jZ kr r).2)
 |0,_,_,_,_,h=>by cases h
 |n+1,o0,o1,o2,r,h=>by
  exact YA (M:=Ah n) (p1:=[]) (b1:=[0,1,2]) (args:=((lm 0 (lm 1 (lm 2 kr))).enc (jZ.lens ((o0,()),(o1,()),(o2,()),())) ())) ⟨jQ,jR,qg _,qy _,uh,uj,vn,u1⟩ func31 rfl (jE) (sn (fx (jy (jE)) (fy (jZ.sz _ _).symm)) _ ((lm 0 (lm 1 (lm 2 kr))).nb (jZ.lens ((o0,()),(o1,()),(o2,()),())) ())) (fun x hx=>Bg (fx (jy (jE)) (fy (jZ.sz _ _).symm)) _ (jZ.nb _ _ x hx)) ntmps31 results31 (low:=3) (by rfl) rfl (((ED n).2 o0 o1 o2).trans h)
@[go_sem]def jN:=(kP (M4 66 (lF jT.ky)) kr)
@[go_sem]def Rm(F:jT->Option (Unit×Tc)):=Yr [] EC jN EC (kP (lF jT.ky) kr) (fun(b:Unit)(a:Tc)=>F a.1)
@[reducible] def abh:kD (Unit×Tc):=ol eZ f32 n (Ds eZ [.cell 2 66] [] [] 0 EC (kP (lF jT.ky) kr))
def Er:{B:jT->Option (Unit×Tc) // ∀(a0:jT),run (abh n) [.at []] (rB jN EC () (a0,()) 14)=B a0}:=mB
def Ik:=fu fun n=>(Er n).1
def Z0:OKX eZ 32 jN EC EC (kP (lF jT.ky) kr) (fun n b a=>Ik n a.1):=fX fun n b a r h=>okG (((Er n).2 a.1).trans h) (gd jQ jR) func32 ntmps32 results32
@[reducible] def V3:kD Str:=ol eZ f183 n (nE eZ [.tmp 2] (aiJ 207 (yg cS))) (cut:=Xq [([1,1],[0])])
def JS:{B:Str->Option Str // ∀(a0:Str),run (V3 n) [.at []] (xI [lP.enc a0] 4)=B a0}:=mB
def Mq:=fu fun n=>(JS n).1
def TZ:zO eZ 183 (kP lP kr) (aiJ 207 (yg cS)) (fun n a=>Mq n a.1):=fC fun n a r h nb=>AQ (((JS n).2 _).trans h) (gd jQ jR) func183 nb ntmps183 results183
def lW:u5:=(asS [] (sub [0,1,0,1,1] ((f148.body).getD .skip)))
@[go_sem,go_sem]def vo:lW.ps.size=1/\ ∀j:Int,om lW.js j=none:=⟨jE,fun j=>(by show om [] j=none;unfold om amS;cases (j==0)<;>rfl)⟩
@[go_sem]def kx:=(BP (aoD lW (alZ (lm 1 (Yp 7 kr)))) (BP (PC (XP 2 kr)) (BP ogM EC)))
@[go_sem]def k6:=(BP (ogL lW (alZ (lm 1 (Yp 7 kr)))) (BP (PC (XP 2 kr)) (BP ogM EC)))
def kX:kD (Tz×(Bool×Unit)) where
 body:= .seq (acY (sub [0,1,0,1,1] ((f148.body).getD .skip))) (al1 (sub [0,1,0,1,1] ((f148.body).getD .skip)))
 P:=eZ
 cl:=nk []
 cd:=KO []
 sx:=qk []
 cut:=Xq []
 n:=n
 out:=(fun _=>none)
 nE:=Yv [] [] [0,1,2] 3 k6
 wL:=lV []
def IP:(kX n).P=eZ/\(kX n).cl=nk []/\(kX n).cd=KO []/\(kX n).sx=qk []/\(kX n).cut=Xq []/\(kX n).n=n/\(kX n).out=(fun _=>none)/\(kX n).nE=Yv [] [] [0,1,2] 3 k6/\(kX n).wL=lV []:=⟨rfl,rfl,rfl,rfl,rfl,rfl,rfl,rfl,rfl⟩
def IQ:(kX n).body= .seq (acY (sub [0,1,0,1,1] ((f148.body).getD .skip))) (al1 (sub [0,1,0,1,1] ((f148.body).getD .skip))):=rfl
def IR:Code.seq (acY (sub [0,1,0,1,1] ((f148.body).getD .skip))) (al1 (sub [0,1,0,1,1] ((f148.body).getD .skip)))=Code.seq lW.assign lW.body:=jE
attribute [go_sem] IP IQ vo
def zV:{B:Str->T9->Option (Tz×(Bool×Unit)) // ∀(a0:Str)(o0:T9),run (kX n) [.at [0],.rb,.at [1],.rd] {slots:=Od ((alZ (lm 1 (Yp 7 kr))).enc (kx.lens ((),(),o0,())) ()) [5] ((kP lP kr).enc (kx.lens ((),(),o0,())) (a0,())),heap:=(kx.enc (kx.lens ((),(),o0,())) ((),(),o0,())),low:=(kx.enc (kx.lens ((),(),o0,())) ((),(),o0,())).length}=B a0 o0}:=mB
def BF:=fu fun n=>(zV n).1
def HG: ∀(n:Nat)(a0:Str)(o0:T9)(r:(Tz×(Bool×Unit))),BF n a0 o0=some r->FnT eZ (SM eZ) ((kP lP kr).enc (kx.lens ((),(),o0,())) (a0,())) (kx.enc (kx.lens ((),(),o0,())) ((),(),o0,())) (fun o H'=>o= .ret (tA ((kP my kr).enc (k6.lens r.1) r.2))/\H'=k6.enc (k6.lens r.1) r.1)
 |0,_,_,_,h=>by cases h
 |n+1,a0,o0,r,h=>by
  exact am9 (M:=kX n) (lk:=lW) (slots:=((alZ (lm 1 (Yp 7 kr))).enc (kx.lens ((),(),o0,())) ())) ⟨jQ,jR,qg _,qy _,uh,uj,vn,u1⟩ IR (jE) ⟨jE,jE⟩ rfl (sn (fx (jy (jE)) (fy (kx.sz _ _).symm)) _ ((kP lP kr).nb _ _)) (fun x hx=>Bg (fx (jy (jE)) (fy (kx.sz _ _).symm)) _ (kx.nb _ _ x hx)) (fun e σ hs=>ai5 (js:=[]) (pos:=[]) (base:=[0,1,2]) (low:=3) (os:=k6) (e:=e) (σ:=σ) (r:=r) (by rfl) hs) (((zV n).2 a0 o0).trans h)
open Go.Proofs
@[reducible] def aem:kD Int:=ol eZ f156 n (nE eZ [.tmp 2] (lO .i64))
def Na:{B:Int->Option Int // ∀(a0:Int),run (aem n) [.at []] (xI [(lO .u8).enc a0] 28)=B a0}:=mB
def zW:=fu fun n=>(Na n).1
def B0:zO eZ 156 (kP (lO .u8) kr) (lO .i64) (fun n a=>zW n a.1):=fC fun n a r h nb=>AQ (((Na n).2 _).trans h) (gd jQ jR) func156 nb ntmps156 results156
def FO:wX:=⟨[],[],(zK::l7 (l7 (zK::zK::zA::zK::Bm (me (l7 (l7 (l7 (zA::[])))))))),[oA l6],none,none⟩
def Mr:wX:=⟨[],[],(zK::l7 (l7 (zK::zK::zK::zK::Bm (me (l7 (l7 (l7 (zA::[])))))))),[oA l6],none,none⟩
def Ms:wX:=⟨[],[],(zK::zA::zA::zK::zK::zK::zK::Bm (me (me (zA::zA::zA::[])))),[],none,none⟩
@[reducible] def tP:kD (List Str):=ol eZ f186 n (nE eZ [.tmp 2] (l5 l6)) (sx:=qk [([0,0,1,1,1,1,0,1,0,0,0,1,1,1,1,1,1,1,1,1,1,1,1],FO),([0,0,1,1,1,1,1,1,1,1,1,1,1,1],Mr),([0,0,1,1,1,1,1,1,1,1,1,1],FO),([0,1,0,1,1,1,1],Ms)])
attribute [go_sem] FO Mr Ms
abbrev BG(v0:Str)(v1:Int)(v2:Int)(r0:List Str)(c0:Nat):jI:=⟨(.str (sb v0)::mq (mq (.acc 0 c0:: .int .i64 v1::qA:: .int .i64 v2::Bl (mo (mq (mq (mq (qA::[])))))))),[.acc false 1 (mp mA r0)],0,[]⟩
abbrev w9(m2:Nat):List Kt:=[.blk 6,.cut [1,1,1,1,1,0,1,0,0,0,1,1,1,1,1,1,1,1,1,1,1,1],.at [1,1,1,1,1,0,1,0,0,0,1,1,1,1,1,1,1,1,1,1,1,1],.blk 5,.lp m2 [0,0,1,1,1,1,1,1,1,1,1,1,1,1],.blk 4,.cut [1,1,1,1,1,1,1,1,1,1,1,1,1],.at [1,1,1,1,1,1,1,1,1,1,1,1,1]]
abbrev sF:=Str->Int->Int->(List Str)->Option (List Str)
abbrev uH(K:List Kt)(Z:sF):Prop:= ∀v0 v1 v2 r0 c0,c0=r0.length->run (tP n) K (BG v0 v1 v2 r0 c0)=Z v0 v1 v2 r0
abbrev FP(v0:Str)(v1:Int)(v2:Int)(v3:Int)(r0:List Str)(c0:Nat):jI:=⟨(.str (sb v0)::mq (mq (.acc 0 c0:: .int .i64 v1:: .int .i64 v2:: .int .i64 v3::Bl (mo (mq (mq (mq (qA::[])))))))),[.acc false 1 (mp mA r0)],0,[]⟩
abbrev sG:List Kt:=[.blk 4,.cut [1,1,1,1,1,1,1,1,1,1,1,1,1],.at [1,1,1,1,1,1,1,1,1,1,1,1,1]]
abbrev sH:=Str->Int->Int->Int->(List Str)->Option (List Str)
abbrev xa(K:List Kt)(Z:sH):Prop:= ∀v0 v1 v2 v3 r0 c0,c0=r0.length->run (tP n) K (FP v0 v1 v2 v3 r0 c0)=Z v0 v1 v2 v3 r0
abbrev xb:List Kt:=[.blk 2,.cut [1,1,1,1,1,1,1,1,1,1,1],.at [1,1,1,1,1,1,1,1,1,1,1]]
abbrev Mt(v0:Str)(v1:Int)(v2:Int)(v3:Int)(v4:Int):jI:=⟨(.str (sb v0)::qA::qA:: .int .i64 v1:: .int .i64 v2:: .int .u8 v3:: .int .i64 v4::Bl (mo (mo (qA::qA::qA::[])))),[],0,[]⟩
abbrev Mu:=Str->Int->Int->Int->Int->Option (List Str)
abbrev YE(K:List Kt)(Z:Mu):Prop:= ∀v0 v1 v2 v3 v4,run (tP n) K (Mt v0 v1 v2 v3 v4)=Z v0 v1 v2 v3 v4
attribute [go_sem] BG w9 FP sG xb Mt
def FQ:{B:sH->sF->sF // ∀m2 X2 m X0,xa n (.lq m2 [0,0,1,1,1,1,1,1,1,1,1,1,1,1]::sG) X2->uH n (.lq m [0,0,1,1,1,1,0,1,0,0,0,1,1,1,1,1,1,1,1,1,1,1,1]::w9 m2) X0-> ∀(v0:Str)(v1:Int)(v2:Int)(r0:List Str),run (tP n) (.at [0,0,0,1,1,1,1,0,1,0,0,0,1,1,1,1,1,1,1,1,1,1,1,1]:: .lp m [0,0,1,1,1,1,0,1,0,0,0,1,1,1,1,1,1,1,1,1,1,1,1]::w9 m2) (BG v0 v1 v2 r0 (r0.length))=B X2 X0 v0 v1 v2 r0}:=mB
def FR(X2:sH):Nat->sF:=w8 ((FQ n).1 X2)
def akt{n:Nat}(X2:sH):FR n X2 (m+1)=(FQ n).1 X2 (FR n X2 m):=rfl
def Ua{X2}(h2:xa n (.lq m2 [0,0,1,1,1,1,1,1,1,1,1,1,1,1]::sG) X2)(m:Nat):uH n (.lq m [0,0,1,1,1,1,0,1,0,0,0,1,1,1,1,1,1,1,1,1,1,1,1]::w9 m2) (FR n X2 m):=
 sE (G:=fun m Z=>uH n (.lq m [0,0,1,1,1,1,0,1,0,0,0,1,1,1,1,1,1,1,1,1,1,1,1]::w9 m2) Z) (fun _ _ _ _ _ _=>lw) (fun m _ ih=>by
  intro v0 v1 v2 r0 c0 ec0;subst ec0;rw[lz];exact(FQ n).2 _ _ _ _ h2 ih v0 v1 v2 r0) m
def FS:{B:sH->sH // ∀m X0,xa n (.lq m [0,0,1,1,1,1,1,1,1,1,1,1,1,1]::sG) X0-> ∀(v0:Str)(v1:Int)(v2:Int)(v3:Int)(r0:List Str),run (tP n) (.at [0,0,0,1,1,1,1,1,1,1,1,1,1,1,1]:: .lp m [0,0,1,1,1,1,1,1,1,1,1,1,1,1]::sG) (FP v0 v1 v2 v3 r0 (r0.length))=B X0 v0 v1 v2 v3 r0}:=by
 apply fz;intro m X0 ih v0 v1 v2 v3 r0;simp (config:={maxSteps:=100000000}) only[go_sem,fc,fg,e8,e9,fi,fj,fm,fo,fp,fa,fk,fq,f186,fb,mixed,Ua n ih,ih];exact rfl
def FT:Nat->sH:=w8 ((FS n).1)
def aku{n:Nat}:FT n (m+1)=(FS n).1 (FT n m):=rfl
@[go_sem]def Ub(m:Nat):xa n (.lq m [0,0,1,1,1,1,1,1,1,1,1,1,1,1]::sG) (FT n m):=
 sE (G:=fun m Z=>xa n (.lq m [0,0,1,1,1,1,1,1,1,1,1,1,1,1]::sG) Z) (fun _ _ _ _ _ _ _=>lw) (fun m _ ih=>by
  intro v0 v1 v2 v3 r0 c0 ec0;subst ec0;rw[lz];exact(FS n).2 _ _ ih v0 v1 v2 v3 r0) m
def FU:{B:sF->sF // ∀m X0,uH n (.lq m [0,0,1,1,1,1,1,1,1,1,1,1]::xb) X0-> ∀(v0:Str)(v1:Int)(v2:Int)(r0:List Str),run (tP n) (.at [0,0,0,1,1,1,1,1,1,1,1,1,1]:: .lp m [0,0,1,1,1,1,1,1,1,1,1,1]::xb) (BG v0 v1 v2 r0 (r0.length))=B X0 v0 v1 v2 r0}:=mB
def FV:Nat->sF:=w8 ((FU n).1)
def akv{n:Nat}:FV n (m+1)=(FU n).1 (FV n m):=rfl
@[go_sem]def Uc(m:Nat):uH n (.lq m [0,0,1,1,1,1,1,1,1,1,1,1]::xb) (FV n m):=
 sE (G:=fun m Z=>uH n (.lq m [0,0,1,1,1,1,1,1,1,1,1,1]::xb) Z) (fun _ _ _ _ _ _=>lw) (fun m _ ih=>by
  intro v0 v1 v2 r0 c0 ec0;subst ec0;rw[lz];exact(FU n).2 _ _ ih v0 v1 v2 r0) m
def FW:LB (YE n) [0,1,0,1,1,1,1] [.blk 0,.cut [1,1,1,1,1],.at [1,1,1,1,1]]:=mB
def FX:Nat->Mu:=w8 ((FW n).1)
def akw{n:Nat}:FX n (m+1)=(FW n).1 (FX n m):=rfl
@[go_sem]def Ud(m:Nat):=Ij (FW n) (FX n) m
def Oq:{B:Str->Option (List Str) // ∀(a0:Str),run (tP n) [.at []] (xI [lP.enc a0] 106)=B a0}:=mB
def Ue:=fu fun n=>(Oq n).1
def YF:zO eZ 186 (kP lP kr) (l5 l6) (fun n a=>Ue n a.1):=fC fun n a r h nb=>AQ (((Oq n).2 _).trans h) (gd jQ jR) func186 nb ntmps186 results186
@[reducible] def V4:kD Int:=ol eZ f135 n (nE eZ [.tmp 4] (lO .i64)) (cl:=nk [(175,rI lP (lO .u8) (lO .i64) (yO n))])
def JT:{B:Str->Int->Option Int // ∀(a0:Str)(a1:Int),run (V4 n) [.at []] (xI [lP.enc a0,(lO .u8).enc a1] 8)=B a0 a1}:=mB
def strings_IndexByte:=fu fun n=>(JT n).1
def IS:zO eZ 135 (kP lP (kP (lO .u8) kr)) (lO .i64) (fun n a=>strings_IndexByte n a.1 a.2.1):=fC fun n a r h nb=>AQ (((JT n).2 _ _).trans h) (gd (jL (nA (FA n)) jQ) jR) func135 nb ntmps135 results135
@[reducible] def Nb:kD Bool:=ol eZ f238 n (nE eZ [.tmp 2] my)
def xJ:{B:Int->Option Bool // ∀(a0:Int),run (Nb n) [.at []] (xI [(lO .i32).enc a0] 17)=B a0}:=mB
def vp:=fu fun n=>(xJ n).1
def LP:zO eZ 238 (kP (lO .i32) kr) my (fun n a=>vp n a.1):=fC fun n a r h nb=>AQ (((xJ n).2 _).trans h) (gd jQ jR) func238 nb ntmps238 results238
@[reducible] def FY:kD Bool:=ol eZ f136 n (nE eZ [.tmp 4] my)
def sI:{B:Str->Str->Option Bool // ∀(a0:Str)(a1:Str),run (FY n) [.at []] (xI [lP.enc a0,lP.enc a1] 18)=B a0 a1}:=mB
def tQ:=fu fun n=>(sI n).1
def FB:zO eZ 136 (kP lP (kP lP kr)) my (fun n a=>tQ n a.1 a.2.1):=fC fun n a r h nb=>AQ (((sI n).2 _ _).trans h) (gd jQ jR) func136 nb ntmps136 results136
@[go_sem]def EZ:wX:=⟨[],[],(zK::l7 (zK::me (me (l7 (l7 (l7 (zA::[]))))))),[oC [zK,zK,zK,zK,zK],oK,oK,oK],none,none⟩
@[go_sem]def ku:=(BP (PC (kP lP (kP (lO .i64) (XP 1 (XP 2 (XP 3 kr)))))) (BP ogM (BP ogM (BP ogM EC))))
@[go_sem]def mC:=(kP (lO .i64) (kP (lO .i64) (kP (lO .i64) kr)))
@[go_sem]def sJ(F:Str->Int->T9->T9->T9->Option Tg):=Yr [.arg 0 [],.obj 0 2 [],.obj 0 3 [],.obj 0 4 []] ku (lm 0 kr) ku mC (fun(b:Tw)(a:Unit)=>F b.1.1 b.1.2.1 b.2.1 b.2.2.1 b.2.2.2.1)
@[reducible] def Ai:kD Tg:=ol eZ f151 n (Ds eZ [.tmp 2,.tmp 3,.tmp 4] [] [0,1,2,3] 4 ku mC) (sx:=qk [([0,1,0,1],EZ)]) (yb:=lV []) (yd:=lV [])
@[go_sem]def P5:aum (Ai n) [0,0,0,1,0,0,1,0,1] [0,0,1] [0,0,1,0,0,1,0,0,1,0,1] [0,1,1]:=⟨jE,jE,jE,jE⟩
@[go_sem]abbrev E0(v0:Int)(v1:Str)(v2:Int)(r1:List (Str×Bool))(r2:List (Str×Bool))(r3:List (Str×Bool)):jI:=⟨(.ptr 0 0::mq (.int .i64 v0::mo (mo (mq (mq (mq (qA::[]))))))),[.cells [.str (sb v1),.int .i64 v2,.map 1,.map 2,.map 3],.map (mp CM r1),.map (mp CM r2),.map (mp CM r3)],4,[]⟩
abbrev mX:=Int->Str->Int->T9->T9->T9->Option Tg
abbrev Ot(K:List Kt)(Z:mX):Prop:= ∀v0 v1 v2 r1 r2 r3,run (Ai n) K (E0 v0 v1 v2 r1 r2 r3)=Z v0 v1 v2 r1 r2 r3
def rK:LB (Ot n) [0,1,0,1] [.blk 0,.cut [1,1],.at [1,1]]:=mB
def uI:Nat->mX:=w8 ((rK n).1)
def C7{n:Nat}:uI n (m+1)=(rK n).1 (uI n m):=rfl
@[go_sem]def KU(m:Nat):=Ij (rK n) (uI n) m
def Aj:{B:Str->Int->T9->T9->T9->Option Tg // ∀(o0:Str)(o1:Int)(o2:T9)(o3:T9)(o4:T9),run (Ai n) [.at []] (rB (lm 0 kr) ku ((o0,o1,()),o2,o3,o4,()) () 51)=B o0 o1 o2 o3 o4}:=mB
def xc:=fu fun n=>(Aj n).1
def Ou:OKX eZ 151 (lm 0 kr) ku ku mC (fun n b a=>xc n b.1.1 b.1.2.1 b.2.1 b.2.2.1 b.2.2.2.1):=fX fun n b a r h=>okG (((Aj n).2 b.1.1 b.1.2.1 b.2.1 b.2.2.1 b.2.2.2.1).trans h) (gd jQ jR) func151 ntmps151 results151
open Go.Proofs
@[reducible] def Kg:kD Bool:=ol eZ f212 n (nE eZ [.tmp 2] my)
def vq:{B:Int->Option Bool // ∀(a0:Int),run (Kg n) [.at []] (xI [(lO .i64).enc a0] 5)=B a0}:=mB
def strings_shouldUseASCIISet:=fu fun n=>(vq n).1
def Jx:zO eZ 212 (kP (lO .i64) kr) my (fun n a=>strings_shouldUseASCIISet n a.1):=fC fun n a r h nb=>AQ (((vq n).2 _).trans h) (gd jQ jR) func212 nb ntmps212 results212
@[go_sem]def JU:wX:=⟨[],[],(zA::zA::zA::zK::zK::l7 (zA::zA::zT (l5 jH.row)::zK::zK::l7 (zT (l5 l6)::zK::zK::me []))),[oK,oA l6],none,none⟩
@[go_sem]def JV:wX:=⟨[(4,1,true)],[],(zA::zA::zA::zK::zK::l7 (zA::zA::zT (l5 jH.row)::zK::zK::me (l7 (zA::zA::zA::[])))),[oK,oA l6],none,none⟩
@[reducible] def wg:kD (List Str):=ol eZ f70 n (nE eZ [.tmp 2] (l5 l6)) (sx:=qk [([0,1,1,0,0,1,1,0,0,1,0,1,1,1],JU),([0,1,0,1,1,1],JV)])
abbrev Du(v0:List jH)(v1:Int)(v2:Int)(v3:List Str)(v4:Int)(v5:Int)(r0:List (Str×Bool))(r1:List Str)(c1:Nat):jI:=⟨(qA::qA::qA:: .map 0:: .acc 1 c1::mq (qA::qA:: .lI false 4 (mp jH.cells v0):: .int .i64 v1:: .int .i64 v2::mq (.lI false 1 (mp mA v3):: .int .i64 v4:: .int .i64 v5::mo []))),[.map (mp CM r0),.acc true 1 (mp mA r1)],0,[]⟩
abbrev u6(m2:Nat):List Kt:=[.blk 2,.blk 1,.cut [1,1,1,0,0,1,0,1,1,1],.at [1,1,1,0,0,1,0,1,1,1],.lp m2 [0,1,0,1,1,1],.blk 0,.cut [1,1,1,1],.at [1,1,1,1]]
abbrev yj:=(List jH)->Int->Int->(List Str)->Int->Int->T9->(List Str)->Option (List Str)
abbrev Dv(K:List Kt)(Z:yj):Prop:= ∀v0 v1 v2 v3 v4 v5 r0 r1 c1,c1=r1.length->run (wg n) K (Du v0 v1 v2 v3 v4 v5 r0 r1 c1)=Z v0 v1 v2 v3 v4 v5 r0 r1
abbrev Dw(v0:List jH)(v1:Int)(v2:Int)(r0:List (Str×Bool))(r1:List Str)(c1:Nat):jI:=⟨(qA::qA::qA:: .map 0:: .acc 1 c1::mq (qA::qA:: .lI false 4 (mp jH.cells v0):: .int .i64 v1:: .int .i64 v2::mo (mq (qA::qA::qA::[])))),[.map (mp CM r0),.acc true 1 (mp mA r1)],0,[]⟩
abbrev qR:=(List jH)->Int->Int->T9->(List Str)->Option (List Str)
abbrev u7(K:List Kt)(Z:qR):Prop:= ∀v0 v1 v2 r0 r1 c1,c1=r1.length->run (wg n) K (Dw v0 v1 v2 r0 r1 c1)=Z v0 v1 v2 r0 r1
attribute [go_sem] Du u6 Dw
def u9:{B:qR->yj->yj // ∀m2 X2 m X0,u7 n (.lq m2 [0,1,0,1,1,1]::[.blk 0,.cut [1,1,1,1],.at [1,1,1,1]]) X2->Dv n (.lq m [0,1,1,0,0,1,1,0,0,1,0,1,1,1]::u6 m2) X0-> ∀(v0:List jH)(v1:Int)(v2:Int)(v3:List Str)(v4:Int)(v5:Int)(r0:List (Str×Bool))(r1:List Str),run (wg n) (.at [0,0,1,1,0,0,1,1,0,0,1,0,1,1,1]:: .lp m [0,1,1,0,0,1,1,0,0,1,0,1,1,1]::u6 m2) (Du v0 v1 v2 v3 v4 v5 r0 r1 (r1.length))=B X2 X0 v0 v1 v2 v3 v4 v5 r0 r1}:=mB
def yn(X2:qR):Nat->yj:=w8 ((u9 n).1 X2)
def GV{n:Nat}(X2:qR):yn n X2 (m+1)=(u9 n).1 X2 (yn n X2 m):=rfl
def P6{X2}(h2:u7 n (.lq m2 [0,1,0,1,1,1]::[.blk 0,.cut [1,1,1,1],.at [1,1,1,1]]) X2)(m:Nat):Dv n (.lq m [0,1,1,0,0,1,1,0,0,1,0,1,1,1]::u6 m2) (yn n X2 m):=
 sE (G:=fun m Z=>Dv n (.lq m [0,1,1,0,0,1,1,0,0,1,0,1,1,1]::u6 m2) Z) (fun _ _ _ _ _ _ _ _ _ _=>lw) (fun m _ ih=>by
  intro v0 v1 v2 v3 v4 v5 r0 r1 c1 ec1;subst ec1;rw[lz];exact(u9 n).2 _ _ _ _ h2 ih v0 v1 v2 v3 v4 v5 r0 r1) m
def va:{B:qR->qR // ∀m X0,u7 n (.lq m [0,1,0,1,1,1]::[.blk 0,.cut [1,1,1,1],.at [1,1,1,1]]) X0-> ∀(v0:List jH)(v1:Int)(v2:Int)(r0:List (Str×Bool))(r1:List Str),run (wg n) (.at [0,0,1,0,1,1,1]:: .lp m [0,1,0,1,1,1]::[.blk 0,.cut [1,1,1,1],.at [1,1,1,1]]) (Dw v0 v1 v2 r0 r1 (r1.length))=B X0 v0 v1 v2 r0 r1}:=by
 apply fz;intro m X0 ih v0 v1 v2 r0 r1;simp (config:={maxSteps:=100000000}) only[go_sem,fc,fg,e8,e9,fi,fj,fm,fo,fp,fa,fk,fq,f70,fb,mixed,P6 n ih,ih];exact rfl
def yo:Nat->qR:=w8 ((va n).1)
def GW{n:Nat}:yo n (m+1)=(va n).1 (yo n m):=rfl
@[go_sem]def P7(m:Nat):u7 n (.lq m [0,1,0,1,1,1]::[.blk 0,.cut [1,1,1,1],.at [1,1,1,1]]) (yo n m):=
 sE (G:=fun m Z=>u7 n (.lq m [0,1,0,1,1,1]::[.blk 0,.cut [1,1,1,1],.at [1,1,1,1]]) Z) (fun _ _ _ _ _ _ _=>lw) (fun m _ ih=>by
  intro v0 v1 v2 r0 r1 c1 ec1;subst ec1;rw[lz];exact(va n).2 _ _ ih v0 v1 v2 r0 r1) m
def EE:{B:(List jH)->Option (List Str) // ∀(a0:(List jH)),run (wg n) [.at []] (xI [(l5 jH.row).enc a0] 37)=B a0}:=mB
def yP:=fu fun n=>(EE n).1
def V5:zO eZ 70 (kP (l5 jH.row) kr) (l5 l6) (fun n a=>yP n a.1):=fC fun n a r h nb=>AQ (((EE n).2 _).trans h) (gd jQ jR) func70 nb ntmps70 results70
@[go_sem]def kH:=(BP (PC (lm 1 kr)) (BP (PC (alC jG.ky 6 kr)) EC))
@[reducible] def LQ:kD TG:=ol eZ f73 n (Ds eZ [] [] [0,1] 2 kH kr)
def wQ:{B:jG->Option TG // ∀(o0:jG),run (LQ n) [.at []] (rB (lm 0 kr) kH ((),(o0,()),()) () 8)=B o0}:=mB
def mD:=fu fun n=>(wQ n).1
def KV: ∀(n:Nat)(o0:jG)(r:TG),mD n o0=some r->SD eZ 73 (lm 0 kr) kH ((),(o0,()),()) () kH kr r
 |0,_,_,h=>by cases h
 |n+1,o0,r,h=>by
  exact okD (((wQ n).2 o0).trans h) (gd jQ jR) func73 ntmps73 results73
@[reducible] def Bn:kD j8:=ol eZ f56 n (nE eZ [.cell 2 45] (lF j8.ky)) (yb:=lV []) (yd:=lV [])
@[go_sem]def R1:tw (Bn n) [0,1]=true:=jE
@[go_sem]def R2:Fz (Bn n) [0,1] 3 10 7 10 8 10 9 10:=⟨jE,jE,jE,jE⟩
def Bo:{B:jG->Option j8 // ∀(a0:jG),run (Bn n) [.at []] (xI [(yg jG.ky).enc a0] 13)=B a0}:=mB
def k8:=fu fun n=>(Bo n).1
def lc:zO eZ 56 (kP (yg jG.ky) kr) (lF j8.ky) (fun n a=>k8 n a.1):=fC fun n a r h nb=>AQ (((Bo n).2 _).trans h) (gd jQ jR) func56 nb ntmps56 results56
@[reducible] def p8:kD (To×Unit):=ol eZ f191 n (aos eZ [.tmp 2] 0 l6 (rsA 0 (fun(b:To)=>b.1.length) II))
def yQ:{B:Str->List Str->Option (To×Unit) // ∀x xs,run (p8 n) [.at []] {slots:=[(l5 l6).enc (x::xs)]++fw 7 qA,heap:=[],low:=0}=B x xs}:=by
 apply fz;intro x xs;simp (config:={maxSteps:=100000000}) only[go_sem,fc,fg,e8,e9,fi,fj,fm,fo,fp,fa,fk,fq,f191,fb,mixed];exact rfl
def Nc(c:Nat):run (p8 n) [.at []] {slots:=[.raw (.slice none 0 c)]++fw 7 qA,heap:=[],low:=0}=some (([],()),()):=by simp (config:={maxSteps:=100000000}) only[go_sem,fc,fg,e8,e9,fi,fj,fm,fo,fp,fa,fk,fq,f191,fb,mixed]
def Nd(a:Addr)(c:Nat):run (p8 n) [.at []] {slots:=[.raw (.slice (some a) 0 c)]++fw 7 qA,heap:=[],low:=0}=some (([],()),()):=by simp (config:={maxSteps:=100000000}) only[go_sem,fc,fg,e8,e9,fi,fj,fm,fo,fp,fa,fk,fq,f191,fb,mixed]
def wx:Nat->(List Str)->Option (To×Unit)
 |0,_=>none
 |_+1,[]=>some (([],()),())
 |n+1,x::xs=>(yQ n).1 x xs
def Nf: ∀(n:Nat)(a0:(List Str))(r:(To×Unit)),wx n a0=some r->FnG eZ 191 (((asT (l5 l6) Kd):FL Unit _).enc () (a0,())) (tz.enc ()) (fun o H'=>o= .ret (tA ((rsA 0 (fun(b:To)=>b.1.length) II).enc r.1 r.2))/\H'=(uF (oaT true l6) tz).enc r.1)
 |0,_,_,h=>by cases h
 |n+1,[],r,h=>by
  cases h
  exact ac3 fun base c=>by
   cases base with
   |none=>exact BD (M:=p8 n) ⟨jQ,jR,qg _,qy _,uh,uj,vn,u1⟩ func191 rfl rfl ⟨trivial,trivial⟩ (fun _ h=>by cases h) ntmps191 results191 (fun σ hs=>agv hs) (Nc n c)
   |some a=>exact BD (M:=p8 n) ⟨jQ,jR,qg _,qy _,uh,uj,vn,u1⟩ func191 rfl rfl ⟨trivial,trivial⟩ (fun _ h=>by cases h) ntmps191 results191 (fun σ hs=>agv hs) (Nd n a c)
 |n+1,x::xs,r,h=>by
  exact BD (M:=p8 n) ⟨jQ,jR,qg _,qy _,uh,uj,vn,u1⟩ func191 rfl rfl ⟨(l5 l6).nb 0 _,trivial⟩ (tz.nb _ _) ntmps191 results191 (fun σ hs=>agv hs) (((yQ n).2 x xs).trans h)
@[reducible] def oh:kD TO:=ol eZ f192 n (amd eZ [.tmp 2] 0 jM.row (rsA 0 (fun(b:(Ti×Unit))=>b.1.length) II))
def u4:{B:jM->List jM->Option TO // ∀x xs,run (oh n) [.at []] {slots:=[(l5 jM.row).enc (x::xs)]++fw 7 qA,heap:=[],low:=0}=B x xs}:=by
 apply fz;intro x xs;simp (config:={maxSteps:=100000000}) only[go_sem,fc,fg,e8,e9,fi,fj,fm,fo,fp,fa,fk,fq,f192,fb,mixed];exact rfl
def IT(c:Nat):run (oh n) [.at []] {slots:=[.raw (.slice none 0 c)]++fw 7 qA,heap:=[],low:=0}=some (([],()),()):=by simp (config:={maxSteps:=100000000}) only[go_sem,fc,fg,e8,e9,fi,fj,fm,fo,fp,fa,fk,fq,f192,fb,mixed]
def IU(a:Addr)(c:Nat):run (oh n) [.at []] {slots:=[.raw (.slice (some a) 0 c)]++fw 7 qA,heap:=[],low:=0}=some (([],()),()):=by simp (config:={maxSteps:=100000000}) only[go_sem,fc,fg,e8,e9,fi,fj,fm,fo,fp,fa,fk,fq,f192,fb,mixed]
def sK:Nat->Ti->Option TO
 |0,_=>none
 |_+1,[]=>some (([],()),())
 |n+1,x::xs=>(u4 n).1 x xs
def IV: ∀(n:Nat)(a0:Ti)(r:TO),sK n a0=some r->FnG eZ 192 (((asT (l5 jM.row) Kd):FL Unit _).enc () (a0,())) (tz.enc ()) (fun o H'=>o= .ret (tA ((rsA 0 (fun(b:(Ti×Unit))=>b.1.length) II).enc r.1 r.2))/\H'=(uF (oaT false jM.row) tz).enc r.1)
 |0,_,_,h=>by cases h
 |n+1,[],r,h=>by
  cases h
  exact ac3 fun base c=>by
   cases base with
   |none=>exact BD (M:=oh n) ⟨jQ,jR,qg _,qy _,uh,uj,vn,u1⟩ func192 rfl rfl ⟨trivial,trivial⟩ (fun _ h=>by cases h) ntmps192 results192 (fun σ hs=>VE hs) (IT n c)
   |some a=>exact BD (M:=oh n) ⟨jQ,jR,qg _,qy _,uh,uj,vn,u1⟩ func192 rfl rfl ⟨trivial,trivial⟩ (fun _ h=>by cases h) ntmps192 results192 (fun σ hs=>VE hs) (IU n a c)
 |n+1,x::xs,r,h=>by
  exact BD (M:=oh n) ⟨jQ,jR,qg _,qy _,uh,uj,vn,u1⟩ func192 rfl rfl ⟨(l5 jM.row).nb 0 _,trivial⟩ (tz.nb _ _) ntmps192 results192 (fun σ hs=>VE hs) (((u4 n).2 x xs).trans h)
open Go.Proofs
@[reducible] def p9:kD (TD×Unit):=ol eZ f194 n (amd eZ [.tmp 2] 0 Syntax.row (rsA 0 (fun(b:TD)=>b.1.length) II))
def yR:{B:Syntax->List Syntax->Option (TD×Unit) // ∀x xs,run (p9 n) [.at []] {slots:=[(l5 Syntax.row).enc (x::xs)]++fw 7 qA,heap:=[],low:=0}=B x xs}:=by
 apply fz;intro x xs;simp (config:={maxSteps:=100000000}) only[go_sem,fc,fg,e8,e9,fi,fj,fm,fo,fp,fa,fk,fq,f194,fb,mixed];exact rfl
def Ng(c:Nat):run (p9 n) [.at []] {slots:=[.raw (.slice none 0 c)]++fw 7 qA,heap:=[],low:=0}=some (([],()),()):=by simp (config:={maxSteps:=100000000}) only[go_sem,fc,fg,e8,e9,fi,fj,fm,fo,fp,fa,fk,fq,f194,fb,mixed]
def Nh(a:Addr)(c:Nat):run (p9 n) [.at []] {slots:=[.raw (.slice (some a) 0 c)]++fw 7 qA,heap:=[],low:=0}=some (([],()),()):=by simp (config:={maxSteps:=100000000}) only[go_sem,fc,fg,e8,e9,fi,fj,fm,fo,fp,fa,fk,fq,f194,fb,mixed]
def wy:Nat->(List Syntax)->Option (TD×Unit)
 |0,_=>none
 |_+1,[]=>some (([],()),())
 |n+1,x::xs=>(yR n).1 x xs
def Ni: ∀(n:Nat)(a0:(List Syntax))(r:(TD×Unit)),wy n a0=some r->FnG eZ 194 (((asT (l5 Syntax.row) Kd):FL Unit _).enc () (a0,())) (tz.enc ()) (fun o H'=>o= .ret (tA ((rsA 0 (fun(b:TD)=>b.1.length) II).enc r.1 r.2))/\H'=(uF (oaT false Syntax.row) tz).enc r.1)
 |0,_,_,h=>by cases h
 |n+1,[],r,h=>by
  cases h
  exact ac3 fun base c=>by
   cases base with
   |none=>exact BD (M:=p9 n) ⟨jQ,jR,qg _,qy _,uh,uj,vn,u1⟩ func194 rfl rfl ⟨trivial,trivial⟩ (fun _ h=>by cases h) ntmps194 results194 (fun σ hs=>VE hs) (Ng n c)
   |some a=>exact BD (M:=p9 n) ⟨jQ,jR,qg _,qy _,uh,uj,vn,u1⟩ func194 rfl rfl ⟨trivial,trivial⟩ (fun _ h=>by cases h) ntmps194 results194 (fun σ hs=>VE hs) (Nh n a c)
 |n+1,x::xs,r,h=>by
  exact BD (M:=p9 n) ⟨jQ,jR,qg _,qy _,uh,uj,vn,u1⟩ func194 rfl rfl ⟨(l5 Syntax.row).nb 0 _,trivial⟩ (tz.nb _ _) ntmps194 results194 (fun σ hs=>VE hs) (((yR n).2 x xs).trans h)
@[reducible] def pQ:kD (List jP):=ol eZ f193 n (nE eZ [.tmp 2] (l5 jP.row))
def xK:{B:jP->List jP->Option (List jP) // ∀x xs,run (pQ n) [.at []] {slots:=[(l5 jP.row).enc (x::xs)]++fw 7 qA,heap:=[]}=B x xs}:=by
 apply fz;intro x xs;simp (config:={maxSteps:=100000000}) only[go_sem,fc,fg,e8,e9,fi,fj,fm,fo,fp,fa,fk,fq,f193,fb,mixed];exact rfl
def LR(c:Nat):run (pQ n) [.at []] {slots:=[.raw (.slice none 0 c)]++fw 7 qA,heap:=[]}=some []:=by simp (config:={maxSteps:=100000000}) only[go_sem,fc,fg,e8,e9,fi,fj,fm,fo,fp,fa,fk,fq,f193,fb,mixed]
def LS(a:Addr)(c:Nat):run (pQ n) [.at []] {slots:=[.raw (.slice (some a) 0 c)]++fw 7 qA,heap:=[]}=some []:=by simp (config:={maxSteps:=100000000}) only[go_sem,fc,fg,e8,e9,fi,fj,fm,fo,fp,fa,fk,fq,f193,fb,mixed]
def vu:Nat->(List jP)->Option (List jP)
 |0,_=>none
 |_+1,[]=>some []
 |n+1,x::xs=>(xK n).1 x xs
def LU: ∀(n:Nat)(a0:(List jP))(r:(List jP)),vu n a0=some r->GP eZ 193 [(l5 jP.row).enc a0] (fun v=>v=(l5 jP.row).enc r)
 |0,_,_,h=>by cases h
 |n+1,[],r,h=>by
  cases h
  exact arc fun base c=>by
   cases base with
   |none=>exact abS (M:=pQ n) ⟨jQ,jR,qg _,qy _,uh,uj,vn,u1⟩ func193 rfl rfl ⟨trivial,trivial⟩ ntmps193 results193 (fun σ hs=>Yl (P:=eZ) (rs:=[.tmp 2]) (t:=(l5 jP.row)) (σ:=σ) hs) (LR n c)
   |some a=>exact abS (M:=pQ n) ⟨jQ,jR,qg _,qy _,uh,uj,vn,u1⟩ func193 rfl rfl ⟨trivial,trivial⟩ ntmps193 results193 (fun σ hs=>Yl (P:=eZ) (rs:=[.tmp 2]) (t:=(l5 jP.row)) (σ:=σ) hs) (LS n a c)
 |n+1,x::xs,r,h=>by
  exact abS (M:=pQ n) ⟨jQ,jR,qg _,qy _,uh,uj,vn,u1⟩ func193 rfl rfl ⟨(l5 jP.row).nb 0 _,trivial⟩ ntmps193 results193 (fun σ hs=>Yl (P:=eZ) (rs:=[.tmp 2]) (t:=(l5 jP.row)) (σ:=σ) hs) (((xK n).2 x xs).trans h)
@[reducible] def yp:kD Int:=ol eZ f157 n (nE eZ [.tmp 2] (lO .i64)) (yb:=lV []) (yd:=lV [])
@[go_sem]def V6:aml (yp n) [0,1,1] [0,1,1,1]:=⟨jE,jE⟩
@[go_sem]def V7:Fz (yp n) [0,1,1] 3 12 7 12 9 12 10 12/\Oe (yp n) [0,1,1] 11 12=true:=⟨⟨jE,jE,jE,jE⟩,jE⟩
def Dx:{B:jG->Option Int // ∀(a0:jG),run (yp n) [.at []] (xI [(yg jG.ky).enc a0] 35)=B a0}:=mB
def mY:=fu fun n=>(Dx n).1
def qm:zO eZ 157 (kP (yg jG.ky) kr) (lO .i64) (fun n a=>mY n a.1):=fC fun n a r h nb=>AQ (((Dx n).2 _).trans h) (gd jQ jR) func157 nb ntmps157 results157
@[reducible] def Ov:kD Tm:=ol eZ f158 n (nE eZ [.tmp 2] (aiJ 190 (yg (cL jO.row)))) (cut:=Xq [([1,1],[0])])
def yS:{B:Tm->Option Tm // ∀(a0:Tm),run (Ov n) [.at []] (xI [(l5 jO.row).enc a0] 4)=B a0}:=mB
def Bp:=fu fun n=>(yS n).1
def Nj:zO eZ 158 (kP (l5 jO.row) kr) (aiJ 190 (yg (cL jO.row))) (fun n a=>Bp n a.1):=fC fun n a r h nb=>AQ (((yS n).2 _).trans h) (gd jQ jR) func158 nb ntmps158 results158
def nJ:u5:=(asS [] (sub [0,1,0,1] ((f121.body).getD .skip)))
@[go_sem,go_sem]def Ak:nJ.ps.size=2/\ ∀j:Int,om nJ.js j=none:=⟨jE,fun j=>(by show om [] j=none;unfold om amS;cases (j==0)<;>rfl)⟩
def qG:=(kP (lO .i64) (kP (lF jO.ky) kr))
def kF:=(BP (aoD nJ (Yp 3 (lm 1 (alZ (lm 2 (Yp 23 kr)))))) (BP (PC (alC Syntax.ky 8 kr)) (BP (PC (alC Syntax.ky 8 kr)) EC)))
def lJ:=(BP (ogL nJ (Yp 3 (lm 1 (alZ (lm 2 (Yp 23 kr)))))) (BP (PC (alC Syntax.ky 8 kr)) (BP (PC (alC Syntax.ky 8 kr)) EC)))
attribute [go_sem] qG kF lJ
def lD:kD (Tp×(Bool×Unit)) where
 body:= .seq (acY (sub [0,1,0,1] ((f121.body).getD .skip))) (al1 (sub [0,1,0,1] ((f121.body).getD .skip)))
 P:=eZ
 cl:=nk []
 cd:=KO []
 sx:=qk []
 cut:=Xq []
 n:=n
 out:=(fun _=>none)
 nE:=Yv [] [] [0,1,2] 3 lJ
 wL:=lV []
def Nk:(lD n).P=eZ/\(lD n).cl=nk []/\(lD n).cd=KO []/\(lD n).sx=qk []/\(lD n).cut=Xq []/\(lD n).n=n/\(lD n).out=(fun _=>none)/\(lD n).nE=Yv [] [] [0,1,2] 3 lJ/\(lD n).wL=lV []:=⟨rfl,rfl,rfl,rfl,rfl,rfl,rfl,rfl,rfl⟩
def Nl:(lD n).body= .seq (acY (sub [0,1,0,1] ((f121.body).getD .skip))) (al1 (sub [0,1,0,1] ((f121.body).getD .skip))):=rfl
def Nn:Code.seq (acY (sub [0,1,0,1] ((f121.body).getD .skip))) (al1 (sub [0,1,0,1] ((f121.body).getD .skip)))=Code.seq nJ.assign nJ.body:=jE
attribute [go_sem] Nk Nl Ak
def xL:{B:Int->jO->Syntax->Syntax->Option (Tp×(Bool×Unit)) // ∀(a0:Int)(a1:jO)(o0:Syntax)(o1:Syntax),run (lD n) [.at [0],.rb,.at [1],.rd] {slots:=Od ((Yp 3 (lm 1 (alZ (lm 2 (Yp 23 kr))))).enc (kF.lens ((),(o0,()),(o1,()),())) ()) [11,12] (qG.enc (kF.lens ((),(o0,()),(o1,()),())) (a0,a1,())),heap:=(kF.enc (kF.lens ((),(o0,()),(o1,()),())) ((),(o0,()),(o1,()),())),low:=(kF.enc (kF.lens ((),(o0,()),(o1,()),())) ((),(o0,()),(o1,()),())).length}=B a0 a1 o0 o1}:=mB
def Al:=fu fun n=>(xL n).1
def LV: ∀(n:Nat)(a0:Int)(a1:jO)(o0:Syntax)(o1:Syntax)(r:(Tp×(Bool×Unit))),Al n a0 a1 o0 o1=some r->FnT eZ (SM eZ) (qG.enc (kF.lens ((),(o0,()),(o1,()),())) (a0,a1,())) (kF.enc (kF.lens ((),(o0,()),(o1,()),())) ((),(o0,()),(o1,()),())) (fun o H'=>o= .ret (tA ((kP my kr).enc (lJ.lens r.1) r.2))/\H'=lJ.enc (lJ.lens r.1) r.1)
 |0,_,_,_,_,_,h=>by cases h
 |n+1,a0,a1,o0,o1,r,h=>by
  exact am9 (M:=lD n) (lk:=nJ) (slots:=((Yp 3 (lm 1 (alZ (lm 2 (Yp 23 kr))))).enc (kF.lens ((),(o0,()),(o1,()),())) ())) ⟨jQ,jR,qg _,qy _,uh,uj,vn,u1⟩ Nn (jE) ⟨jE,jE⟩ rfl (sn (fx (jy (jE)) (fy (kF.sz _ _).symm)) _ (qG.nb _ _)) (fun x hx=>Bg (fx (jy (jE)) (fy (kF.sz _ _).symm)) _ (kF.nb _ _ x hx)) (fun e σ hs=>ai5 (js:=[]) (pos:=[]) (base:=[0,1,2]) (low:=3) (os:=lJ) (e:=e) (σ:=σ) (r:=r) (by rfl) hs) (((xL n).2 a0 a1 o0 o1).trans h)
@[reducible] def Kh:kD TG:=ol eZ f289 n (Ds eZ [] [] [0,1] 2 kH kr)
def vz:{B:jG->Option TG // ∀(o0:jG),run (Kh n) [.at []] (rB (lm 0 kr) kH ((),(o0,()),()) () 8)=B o0}:=mB
def oa:=fu fun n=>(vz n).1
def Jy: ∀(n:Nat)(o0:jG)(r:TG),oa n o0=some r->SD eZ 289 (lm 0 kr) kH ((),(o0,()),()) () kH kr r
 |0,_,_,h=>by cases h
 |n+1,o0,r,h=>by
  exact okD (((vz n).2 o0).trans h) (gd jQ jR) func289 ntmps289 results289
open Go.Proofs
@[go_sem]def FZ:wX:=⟨[],[],(zT (l5 l6)::zK::l7 (zA::zK::zK::l7 (l7 (zA::zA::[])))),[],none,none⟩
@[reducible] def GX:kD Int:=ol eZ f216 n (nE eZ [.tmp 4] (lO .i64)) (sx:=qk [([0,1,0,1],FZ)])
@[go_sem]abbrev F0(v0:List Str)(v1:Str)(v2:Int)(v3:Int):jI:=⟨(.lI false 1 (mp mA v0):: .str (sb v1)::mq (qA:: .int .i64 v2:: .int .i64 v3::mq (mq (qA::qA::[])))),[],0,[]⟩
abbrev F1:=(List Str)->Str->Int->Int->Option Int
abbrev P8(K:List Kt)(Z:F1):Prop:= ∀v0 v1 v2 v3,run (GX n) K (F0 v0 v1 v2 v3)=Z v0 v1 v2 v3
def sL:LB (P8 n) [0,1,0,1] [.blk 0,.cut [1,1],.at [1,1]]:=mB
def vA:Nat->F1:=w8 ((sL n).1)
def DT{n:Nat}:vA n (m+1)=(sL n).1 (vA n m):=rfl
@[go_sem]def LW(m:Nat):=Ij (sL n) (vA n) m
def Bq:{B:(List Str)->Str->Option Int // ∀(a0:(List Str))(a1:Str),run (GX n) [.at []] (xI [(l5 l6).enc a0,lP.enc a1] 19)=B a0 a1}:=mB
def yq:=fu fun n=>(Bq n).1
def P9:zO eZ 216 (kP (l5 l6) (kP lP kr)) (lO .i64) (fun n a=>yq n a.1 a.2.1):=fC fun n a r h nb=>AQ (((Bq n).2 _ _).trans h) (gd jQ jR) func216 nb ntmps216 results216
@[go_sem]def jW:=(BP (PC (lm 4 kr)) (BP (PC (alC Syntax.ky 8 kr)) (BP (PC (alC (cI .i64) 1 kr)) (BP (PC (alC (cI .i64) 1 kr)) (BP (PC (lm 5 (kP (l5 Syntax.row) (kP (lO .i64) kr)))) (BP (PC (XP 6 (XP 7 (XP 8 (kP (lO .i64) kr))))) (BP (aeg (lF jH.ky)) (BP (aeg (lF jH.ky)) (BP ogM EC)))))))))
@[reducible] def oN:kD (Tj×Unit):=ol eZ f198 n (Ds eZ [] [] [0,1,2,3,4,5,6,7,8] 9 jW kr)
def Br:{B:Syntax->Int->Int->(List Syntax)->Int->Int->Tb->Tb->T9->Option (Tj×Unit) // ∀(o0:Syntax)(o1:Int)(o2:Int)(o3:(List Syntax))(o4:Int)(o5:Int)(o6:Tb)(o7:Tb)(o8:T9),run (oN n) [.ops (qv (oN n) [0]) ((qv (oN n) [0]).toList.drop 1),.cut [1],.at [1]] (jI.put {slots:=((lm 0 (lm 1 (lm 2 (lm 3 kr)))).enc (jW.lens ((),(o0,()),(o1,()),(o2,()),(o3,o4,()),(o5,()),o6,o7,o8,())) ())++fw (23-((lm 0 (lm 1 (lm 2 (lm 3 kr)))).enc (jW.lens ((),(o0,()),(o1,()),(o2,()),(o3,o4,()),(o5,()),o6,o7,o8,())) ()).length) qA,heap:=(jW.enc (jW.lens ((),(o0,()),(o1,()),(o2,()),(o3,o4,()),(o5,()),o6,o7,o8,())) ((),(o0,()),(o1,()),(o2,()),(o3,o4,()),(o5,()),o6,o7,o8,())),low:=(jW.enc (jW.lens ((),(o0,()),(o1,()),(o2,()),(o3,o4,()),(o5,()),o6,o7,o8,())) ((),(o0,()),(o1,()),(o2,()),(o3,o4,()),(o5,()),o6,o7,o8,())).length} (some 7) (.raw .nilIface))=B o0 o1 o2 o3 o4 o5 o6 o7 o8}:=mB
def vb:=fu fun n=>(Br n).1
def Qa: ∀(n:Nat)(o0:Syntax)(o1:Int)(o2:Int)(o3:(List Syntax))(o4:Int)(o5:Int)(o6:Tb)(o7:Tb)(o8:T9)(r:(Tj×Unit)),vb n o0 o1 o2 o3 o4 o5 o6 o7 o8=some r->FnT eZ (ad6 eZ 198) ((lm 0 (lm 1 (lm 2 (lm 3 kr)))).enc (jW.lens ((),(o0,()),(o1,()),(o2,()),(o3,o4,()),(o5,()),o6,o7,o8,())) ()) (jW.enc (jW.lens ((),(o0,()),(o1,()),(o2,()),(o3,o4,()),(o5,()),o6,o7,o8,())) ((),(o0,()),(o1,()),(o2,()),(o3,o4,()),(o5,()),o6,o7,o8,())) (fun o H'=>o=(enR jW kr r).1/\H'=(enR jW kr r).2)
 |0,_,_,_,_,_,_,_,_,_,_,h=>by cases h
 |n+1,o0,o1,o2,o3,o4,o5,o6,o7,o8,r,h=>by
  exact YA (M:=oN n) (p1:=[]) (b1:=[0,1,2,3,4,5,6,7,8]) (args:=((lm 0 (lm 1 (lm 2 (lm 3 kr)))).enc (jW.lens ((),(o0,()),(o1,()),(o2,()),(o3,o4,()),(o5,()),o6,o7,o8,())) ())) ⟨jQ,jR,qg _,qy _,uh,uj,vn,u1⟩ func198 rfl (jE) (sn (fx (jy (jE)) (fy (jW.sz _ _).symm)) _ ((lm 0 (lm 1 (lm 2 (lm 3 kr)))).nb (jW.lens ((),(o0,()),(o1,()),(o2,()),(o3,o4,()),(o5,()),o6,o7,o8,())) ())) (fun x hx=>Bg (fx (jy (jE)) (fy (jW.sz _ _).symm)) _ (jW.nb _ _ x hx)) ntmps198 results198 (low:=9) (by rfl) rfl (((Br n).2 o0 o1 o2 o3 o4 o5 o6 o7 o8).trans h)
@[go_sem]def qz:=(lm 0 (lm 1 (lm 2 (lm 3 (kP (M4 202 TT) kr)))))
def Bt:{B:Unit->Syntax->Int->Int->(List Syntax)->Int->Int->Tb->Tb->T9->Option (Tj×Unit) // ∀(a0:Unit)(o0:Syntax)(o1:Int)(o2:Int)(o3:(List Syntax))(o4:Int)(o5:Int)(o6:Tb)(o7:Tb)(o8:T9),run (oN n) [.ops (qv (oN n) [0]) ((qv (oN n) [0]).toList.drop 1),.cut [1],.at [1]] (jI.put {slots:=((lm 0 (lm 1 (lm 2 (lm 3 kr)))).enc (jW.lens ((),(o0,()),(o1,()),(o2,()),(o3,o4,()),(o5,()),o6,o7,o8,())) ())++fw (23-((lm 0 (lm 1 (lm 2 (lm 3 kr)))).enc (jW.lens ((),(o0,()),(o1,()),(o2,()),(o3,o4,()),(o5,()),o6,o7,o8,())) ()).length) qA,heap:=(jW.enc (jW.lens ((),(o0,()),(o1,()),(o2,()),(o3,o4,()),(o5,()),o6,o7,o8,())) ((),(o0,()),(o1,()),(o2,()),(o3,o4,()),(o5,()),o6,o7,o8,())),low:=(jW.enc (jW.lens ((),(o0,()),(o1,()),(o2,()),(o3,o4,()),(o5,()),o6,o7,o8,())) ((),(o0,()),(o1,()),(o2,()),(o3,o4,()),(o5,()),o6,o7,o8,())).length} (some 7) ((M4 202 TT).enc a0))=B a0 o0 o1 o2 o3 o4 o5 o6 o7 o8}:=mB
def s9:=fu fun n=>(Bt n).1
def Qb: ∀(n:Nat)(a0:Unit)(o0:Syntax)(o1:Int)(o2:Int)(o3:(List Syntax))(o4:Int)(o5:Int)(o6:Tb)(o7:Tb)(o8:T9)(r:(Tj×Unit)),s9 n a0 o0 o1 o2 o3 o4 o5 o6 o7 o8=some r->FnT eZ (ad7 eZ 198) (qz.enc (jW.lens ((),(o0,()),(o1,()),(o2,()),(o3,o4,()),(o5,()),o6,o7,o8,())) (a0,())) (jW.enc (jW.lens ((),(o0,()),(o1,()),(o2,()),(o3,o4,()),(o5,()),o6,o7,o8,())) ((),(o0,()),(o1,()),(o2,()),(o3,o4,()),(o5,()),o6,o7,o8,())) (fun o H'=>o=(enR jW kr r).1/\H'=(enR jW kr r).2)
 |0,_,_,_,_,_,_,_,_,_,_,_,h=>by cases h
 |n+1,a0,o0,o1,o2,o3,o4,o5,o6,o7,o8,r,h=>by
  exact Yz (M:=oN n) (p1:=[]) (b1:=[0,1,2,3,4,5,6,7,8]) (args:=((lm 0 (lm 1 (lm 2 (lm 3 kr)))).enc (jW.lens ((),(o0,()),(o1,()),(o2,()),(o3,o4,()),(o5,()),o6,o7,o8,())) ())) (x:=(M4 202 TT).enc a0) ⟨jQ,jR,qg _,qy _,uh,uj,vn,u1⟩ func198 rfl (jE) (sn (fx (jy (jE)) (fy (jW.sz _ _).symm)) _ (qz.nb (jW.lens ((),(o0,()),(o1,()),(o2,()),(o3,o4,()),(o5,()),o6,o7,o8,())) (a0,()))) (fun x hx=>Bg (fx (jy (jE)) (fy (jW.sz _ _).symm)) _ (jW.nb _ _ x hx)) ntmps198 results198 (low:=9) (by rfl) rfl (((Bt n).2 a0 o0 o1 o2 o3 o4 o5 o6 o7 o8).trans h)
@[go_sem]def kJ:=(BP (PC (XP 1 (XP 2 (XP 3 (kP (lO .i64) kr))))) (BP (aeg (lF jH.ky)) (BP (aeg (lF jH.ky)) (BP ogM EC))))
@[go_sem]def JW(F:Option (Tf×Unit)):=Yr [] EC kr kJ (lm 0 kr) (fun(b:Unit)(a:Unit)=>F)
@[reducible] def V8:kD (Tf×Unit):=ol eZ f218 n (Ds eZ [.tmp 0] [.arg 0 [],.obj 0 0 [],.obj 0 1 [],.obj 0 2 []] [] 0 kJ (lm 0 kr))
def Dy:{B:Option (Tf×Unit) // run (V8 n) [.at []] (rB kr EC () () 6)=B}:=mB
def BH:=fu fun n=>(Dy n).1
def Uf:OKX eZ 218 kr EC kJ (lm 0 kr) (fun n b a=>BH n):=fX fun n b a r h=>okG ((Dy n).2.trans h) (gd jQ jR) func218 ntmps218 results218
@[reducible] def abi:kD Bool:=ol eZ f244 n (nE eZ [.tmp 2] my)
def Jz:{B:jH->Option Bool // ∀(a0:jH),run (abi n) [.at []] (xI [(lF jH.ky).enc a0] 8)=B a0}:=mB
def xM:=fu fun n=>(Jz n).1
def CU:zO eZ 244 (kP (lF jH.ky) kr) my (fun n a=>xM n a.1):=fC fun n a r h nb=>AQ (((Jz n).2 _).trans h) (gd jQ jR) func244 nb ntmps244 results244
@[reducible] def Z1:kD Bool:=ol eZ f245 n (nE eZ [.tmp 2] my)
def HH:{B:jH->Option Bool // ∀(a0:jH),run (Z1 n) [.at []] (xI [(lF jH.ky).enc a0] 12)=B a0}:=mB
def yT:=fu fun n=>(HH n).1
def F2:zO eZ 245 (kP (lF jH.ky) kr) my (fun n a=>yT n a.1):=fC fun n a r h nb=>AQ (((HH n).2 _).trans h) (gd jQ jR) func245 nb ntmps245 results245
open Go.Proofs
@[reducible] def aen:kD Bool:=ol eZ f270 n (nE eZ [.tmp 2] my)
def No:{B:Int->Option Bool // ∀(a0:Int),run (aen n) [.at []] (xI [(lO .u8).enc a0] 21)=B a0}:=mB
def Mv:=fu fun n=>(No n).1
def ac9:zO eZ 270 (kP (lO .u8) kr) my (fun n a=>Mv n a.1):=fC fun n a r h nb=>AQ (((No n).2 _).trans h) (gd jQ jR) func270 nb ntmps270 results270
@[go_sem]def jV:=(BP (PC (lm 1 (kP (l5 Syntax.row) (kP (lO .i64) kr)))) (BP (PC (XP 2 (XP 3 (XP 4 (kP (lO .i64) kr))))) (BP (aeg (lF jH.ky)) (BP (aeg (lF jH.ky)) (BP ogM EC)))))
@[go_sem]def xN(F:(List Syntax)->Int->Int->Tb->Tb->T9->Option TP):=Yr [.arg 0 [],.obj 0 0 [],.obj 1 0 [],.obj 1 1 [],.obj 1 2 []] jV (lm 0 kr) jV (kP lP (kP my kr)) (fun(b:T7)(a:Unit)=>F b.1.1 b.1.2.1 b.2.1.1 b.2.2.1 b.2.2.2.1 b.2.2.2.2.1)
@[reducible] def DU:kD TP:=ol eZ f221 n (Ds eZ [.tmp 2,.tmp 3] [] [0,1,2,3,4] 5 jV (kP lP (kP my kr))) (yb:=lV []) (yd:=lV [])
@[go_sem]def Np:aml (DU n) [0,0,1] [0,1,1]:=⟨jE,jE⟩
def xO:{B:(List Syntax)->Int->Int->Tb->Tb->T9->Option TP // ∀(o0:(List Syntax))(o1:Int)(o2:Int)(o3:Tb)(o4:Tb)(o5:T9),run (DU n) [.at []] (rB (lm 0 kr) jV ((o0,o1,()),(o2,()),o3,o4,o5,()) () 39)=B o0 o1 o2 o3 o4 o5}:=mB
def sM:=fu fun n=>(xO n).1
def C8:OKX eZ 221 (lm 0 kr) jV jV (kP lP (kP my kr)) (fun n b a=>sM n b.1.1 b.1.2.1 b.2.1.1 b.2.2.1 b.2.2.2.1 b.2.2.2.2.1):=fX fun n b a r h=>okG (((xO n).2 b.1.1 b.1.2.1 b.2.1.1 b.2.2.1 b.2.2.2.1 b.2.2.2.2.1).trans h) (gd jQ jR) func221 ntmps221 results221
@[reducible] def LX:kD Bool:=ol eZ f165 n (nE eZ [.tmp 4] my)
def wR:{B:j8->Str->Option Bool // ∀(a0:j8)(a1:Str),run (LX n) [.at []] (xI [(lF j8.ky).enc a0,lP.enc a1] 14)=B a0 a1}:=mB
def uJ:=fu fun n=>(wR n).1
def KW:zO eZ 165 (kP (lF j8.ky) (kP lP kr)) my (fun n a=>uJ n a.1 a.2.1):=fC fun n a r h nb=>AQ (((wR n).2 _ _).trans h) (gd jQ jR) func165 nb ntmps165 results165
@[go_sem]def Rn:wX:=⟨[],[],(zA::zK::zA::zK::me (me (l7 (l7 (zA::zA::[]))))),[oT Syntax.ky],none,none⟩
@[reducible] def Ug(X:Syntax->Option Bool)(n:Nat):kD Bool:=ol eZ f17 n (nE eZ [.tmp 2] my) (cl:=nk [(17,mW (lF Syntax.ky) my X)]) (sx:=qk [([0,1,0,1],Rn)])
@[go_sem]abbrev Ro(v0:Int)(o0:Syntax):jI:=⟨(qA:: .ptr 0 0::qA:: .int .i64 v0::mo (mo (mq (mq (qA::qA::[]))))),[.cells (Syntax.cells o0)],0,[]⟩
abbrev Rp:=Int->Syntax->Option Bool
abbrev abj(X:Syntax->Option Bool)(n:Nat)(K:List Kt)(Z:Rp):Prop:= ∀v0 o0,run (Ug X n) K (Ro v0 o0)=Z v0 o0
def AU(X:Syntax->Option Bool)(n:Nat):LB (abj X n) [0,1,0,1] [.blk 0,.cut [1,1],.at [1,1]]:=mB
def AW(X:Syntax->Option Bool)(n:Nat):Nat->Rp:=w8 ((AU X n).1)
def Mw(X:Syntax->Option Bool){n:Nat}:AW X n (m+1)=(AU X n).1 (AW X n m):=rfl
@[go_sem]def Xw(X:Syntax->Option Bool)(n:Nat)(m:Nat):=Ij (AU X n) (AW X n) m
def KX(X:Syntax->Option Bool)(n:Nat):{B:Syntax->Option Bool // ∀(a0:Syntax),run (Ug X n) [.at []] (xI [(lF Syntax.ky).enc a0] 46)=B a0}:=mB
def xd:Nat->Syntax->Option Bool
 |0,_=>none
 |n+1,a0=>(KX (xd n) n).1 a0
def Rq: ∀(n:Nat)(a0:Syntax)(r:Bool),xd n a0=some r->GP eZ 17 [(lF Syntax.ky).enc a0] (fun v=>v=my.enc r)
 |0,_,_,h=>by cases h
 |n+1,a0,r,h=>by
  have abk:=Rq n;exact AQ (((KX (xd n) n).2 a0).trans h) (gd (jL (lg (abk)) jQ) jR) func17 ⟨(lF Syntax.ky).nb 0 _,trivial⟩ ntmps17 results17
@[go_sem]def F3:wX:=⟨[],[],(zT (l5 l6)::zT (l5 l6)::l7 (l7 (zA::zA::zK::zK::l7 (l7 (l7 []))))),[],none,none⟩
@[reducible] def Bu:kD Bool:=ol eZ f41 n (nE eZ [.tmp 4] my) (sx:=qk [([0,1,0,1,1],F3)]) (yb:=lV []) (yd:=lV [])
@[go_sem]def R3:tw (Bu n) [0,1,0,0,1,1,0,0,1,0,1,1]=true:=jE
@[go_sem]abbrev F4(v0:List Str)(v1:List Str)(v2:Int)(v3:Int):jI:=⟨(.lI false 1 (mp mA v0):: .lI false 1 (mp mA v1)::mq (mq (qA::qA:: .int .i64 v2:: .int .i64 v3::mq (mq (mq []))))),[],0,[]⟩
abbrev F5:=(List Str)->(List Str)->Int->Int->Option Bool
abbrev Qc(K:List Kt)(Z:F5):Prop:= ∀v0 v1 v2 v3,run (Bu n) K (F4 v0 v1 v2 v3)=Z v0 v1 v2 v3
def sN:LB (Qc n) [0,1,0,1,1] [.blk 0,.cut [1,1,1],.at [1,1,1]]:=mB
def sO:Nat->F5:=w8 ((sN n).1)
def DV{n:Nat}:sO n (m+1)=(sN n).1 (sO n m):=rfl
@[go_sem]def LY(m:Nat):=Ij (sN n) (sO n) m
def Bv:{B:(List Str)->(List Str)->Option Bool // ∀(a0:(List Str))(a1:(List Str)),run (Bu n) [.at []] (xI [(l5 l6).enc a0,(l5 l6).enc a1] 26)=B a0 a1}:=mB
def yt:=fu fun n=>(Bv n).1
def Qd:zO eZ 41 (kP (l5 l6) (kP (l5 l6) kr)) my (fun n a=>yt n a.1 a.2.1):=fC fun n a r h nb=>AQ (((Bv n).2 _ _).trans h) (gd jQ jR) func41 nb ntmps41 results41
@[go_sem]def C9:wX:=⟨[],[],(zT (l5 jP.row)::zT (l5 jP.row)::l7 (l7 (zA::zA::zK::zK::l7 (l7 (l7 []))))),[],none,none⟩
@[reducible] def xP:kD Bool:=ol eZ f83 n (nE eZ [.tmp 4] my) (sx:=qk [([0,1,0,1,1],C9)]) (yb:=lV []) (yd:=lV [])
@[go_sem]def Nq:tw (xP n) [0,1,0,0,1,1,0,0,1,0,1,1]=true:=jE
@[go_sem]abbrev Da(v0:List jP)(v1:List jP)(v2:Int)(v3:Int):jI:=⟨(.lI false 2 (mp jP.cells v0):: .lI false 2 (mp jP.cells v1)::mq (mq (qA::qA:: .int .i64 v2:: .int .i64 v3::mq (mq (mq []))))),[],0,[]⟩
abbrev Db:=(List jP)->(List jP)->Int->Int->Option Bool
abbrev LZ(K:List Kt)(Z:Db):Prop:= ∀v0 v1 v2 v3,run (xP n) K (Da v0 v1 v2 v3)=Z v0 v1 v2 v3
def qH:LB (LZ n) [0,1,0,1,1] [.blk 0,.cut [1,1,1],.at [1,1,1]]:=mB
def qI:Nat->Db:=w8 ((qH n).1)
def BI{n:Nat}:qI n (m+1)=(qH n).1 (qI n m):=rfl
@[go_sem]def JA(m:Nat):=Ij (qH n) (qI n) m
def xQ:{B:(List jP)->(List jP)->Option Bool // ∀(a0:(List jP))(a1:(List jP)),run (xP n) [.at []] (xI [(l5 jP.row).enc a0,(l5 jP.row).enc a1] 26)=B a0 a1}:=mB
def vB:=fu fun n=>(xQ n).1
def L0:zO eZ 83 (kP (l5 jP.row) (kP (l5 jP.row) kr)) my (fun n a=>vB n a.1 a.2.1):=fC fun n a r h nb=>AQ (((xQ n).2 _ _).trans h) (gd jQ jR) func83 nb ntmps83 results83
open Go.Proofs
@[go_sem]def Qe:wX:=⟨[],[],(zT (l5 l6)::zK::zA::zA::zA::zK::l7 (l7 (l7 []))),[],none,none⟩
@[reducible] def aaM:kD Bool:=ol eZ f48 n (nE eZ [.tmp 4] my) (sx:=qk [([0,1,0,1],Qe)])
@[go_sem]abbrev Qf(v0:List Str)(v1:Str)(v2:Int):jI:=⟨(.lI false 1 (mp mA v0):: .str (sb v1)::qA::qA::qA:: .int .i64 v2::mq (mq (mq []))),[],0,[]⟩
abbrev Ki:=(List Str)->Str->Int->Option Bool
abbrev agJ(K:List Kt)(Z:Ki):Prop:= ∀v0 v1 v2,run (aaM n) K (Qf v0 v1 v2)=Z v0 v1 v2
def F6:LB (agJ n) [0,1,0,1] [.blk 0,.cut [1,1],.at [1,1]]:=mB
def Kj:Nat->Ki:=w8 ((F6 n).1)
def Uh{n:Nat}:Kj n (m+1)=(F6 n).1 (Kj n m):=rfl
@[go_sem]def abl(m:Nat):=Ij (F6 n) (Kj n) m
def Ui:{B:(List Str)->Str->Option Bool // ∀(a0:(List Str))(a1:Str),run (aaM n) [.at []] (xI [(l5 l6).enc a0,lP.enc a1] 18)=B a0 a1}:=mB
def VF:=fu fun n=>(Ui n).1
def agK:zO eZ 48 (kP (l5 l6) (kP lP kr)) my (fun n a=>VF n a.1 a.2.1):=fC fun n a r h nb=>AQ (((Ui n).2 _ _).trans h) (gd jQ jR) func48 nb ntmps48 results48
@[go_sem]def Nr:wX:=⟨[],[],(zK::zK::Bm (zA::[])),[],none,none⟩
@[reducible] def YG:kD Int:=ol eZ f46 n (nE eZ [.tmp 4] (lO .i64)) (sx:=qk [([0,0,1,1,1,0,0,1,0,0,0,1],Nr),([0,0,1],Nr)])
@[go_sem]abbrev WK(v0:Str)(v1:Int):jI:=⟨(.str (sb v0):: .int .i64 v1::Bl (qA::[])),[],0,[]⟩
@[go_sem]abbrev WL(m2:Nat):List Kt:=[.blk 3,.blk 2,.blk 1,.lp m2 [0,0,1],.blk 0,.cut [1,1],.at [1,1]]
abbrev q8:=Str->Int->Option Int
abbrev Il(K:List Kt)(Z:q8):Prop:= ∀v0 v1,run (YG n) K (WK v0 v1)=Z v0 v1
def DW:LB2 (Il n) [0,0,1] [.blk 0,.cut [1,1],.at [1,1]] (Il n) [0,0,1,1,1,0,0,1,0,0,0,1] WL:=mB
def DX(X2:q8):Nat->q8:=w8 ((DW n).1 X2)
def Rr{n:Nat}(X2:q8):DX n X2 (m+1)=(DW n).1 X2 (DX n X2 m):=rfl
def Z2{X2}(h2:Il n (.lq m2 [0,0,1]::[.blk 0,.cut [1,1],.at [1,1]]) X2)(m:Nat):=arn (DW n) h2 (DX n X2) m
def Im:LB (Il n) [0,0,1] [.blk 0,.cut [1,1],.at [1,1]]:=by
 apply fz;intro m X0 ih v0 v1;simp (config:={maxSteps:=100000000}) only[go_sem,fc,fg,e8,e9,fi,fj,fm,fo,fp,fa,fk,fq,f46,fb,mixed,Z2 n ih,ih];exact rfl
def vP:Nat->q8:=w8 ((Im n).1)
def abm{n:Nat}:vP n (m+1)=(Im n).1 (vP n m):=rfl
@[go_sem]def Z3(m:Nat):=Ij (Im n) (vP n) m
def Qg:{B:Str->Int->Option Int // ∀(a0:Str)(a1:Int),run (YG n) [.at []] (xI [lP.enc a0,(lO .i64).enc a1] 67)=B a0 a1}:=mB
def Qh:=fu fun n=>(Qg n).1
def aeo:zO eZ 46 (kP lP (kP (lO .i64) kr)) (lO .i64) (fun n a=>Qh n a.1 a.2.1):=fC fun n a r h nb=>AQ (((Qg n).2 _ _).trans h) (gd jQ jR) func46 nb ntmps46 results46
@[reducible] def aaN:kD Bool:=ol eZ f89 n (nE eZ [.tmp 4] my) (sx:=qk [([0,1,0,1],Qe)])
abbrev agL(K:List Kt)(Z:Ki):Prop:= ∀v0 v1 v2,run (aaN n) K (Qf v0 v1 v2)=Z v0 v1 v2
def Kk:LB (agL n) [0,1,0,1] [.blk 0,.cut [1,1],.at [1,1]]:=mB
def Kl:Nat->Ki:=w8 ((Kk n).1)
def ada{n:Nat}:Kl n (m+1)=(Kk n).1 (Kl n m):=rfl
@[go_sem]def abn(m:Nat):=Ij (Kk n) (Kl n) m
def Uj:{B:(List Str)->Str->Option Bool // ∀(a0:(List Str))(a1:Str),run (aaN n) [.at []] (xI [(l5 l6).enc a0,lP.enc a1] 18)=B a0 a1}:=mB
def VG:=fu fun n=>(Uj n).1
def agM:zO eZ 89 (kP (l5 l6) (kP lP kr)) my (fun n a=>VG n a.1 a.2.1):=fC fun n a r h nb=>AQ (((Uj n).2 _ _).trans h) (gd jQ jR) func89 nb ntmps89 results89
@[go_sem]def Ow:wX:=⟨[],[],(zK::zK::zT (l5 l6)::l7 (zK::zK::me (me (l7 (zA::zA::[]))))),[],none,none⟩
@[reducible] def JB:kD Int:=ol eZ f91 n (nE eZ [.tmp 6] (lO .i64)) (sx:=qk [([0,1,0,1,1],Ow)]) (yb:=lV []) (yd:=lV [])
@[go_sem]def abo:tw (JB n) [0,1,0,0,1,0,0,1,0,1,1]=true:=jE
@[go_sem]abbrev Ox(v0:Str)(v1:Int)(v2:List Str)(v3:Int)(v4:Int):jI:=⟨(.str (sb v0):: .int .i64 v1:: .lI false 1 (mp mA v2)::mq (.int .i64 v3:: .int .i64 v4::mo (mo (mq (qA::qA::[]))))),[],0,[]⟩
abbrev Oy:=Str->Int->(List Str)->Int->Int->Option Int
abbrev Z4(K:List Kt)(Z:Oy):Prop:= ∀v0 v1 v2 v3 v4,run (JB n) K (Ox v0 v1 v2 v3 v4)=Z v0 v1 v2 v3 v4
def yU:LB (Z4 n) [0,1,0,1,1] [.blk 0,.cut [1,1,1],.at [1,1,1]]:=mB
def yV:Nat->Oy:=w8 ((yU n).1)
def KY{n:Nat}:yV n (m+1)=(yU n).1 (yV n m):=rfl
@[go_sem]def V9(m:Nat):=Ij (yU n) (yV n) m
def JC:{B:Str->Int->(List Str)->Option Int // ∀(a0:Str)(a1:Int)(a2:(List Str)),run (JB n) [.at []] (xI [lP.enc a0,(lO .i64).enc a1,(l5 l6).enc a2] 47)=B a0 a1 a2}:=mB
def DY:=fu fun n=>(JC n).1
def Z5:zO eZ 91 (kP lP (kP (lO .i64) (kP (l5 l6) kr))) (lO .i64) (fun n a=>DY n a.1 a.2.1 a.2.2.1):=fC fun n a r h nb=>AQ (((JC n).2 _ _ _).trans h) (gd jQ jR) func91 nb ntmps91 results91
open Go.Proofs
@[reducible] def adb:kD Bool:=ol eZ f84 n (nE eZ [.tmp 2] my) (cl:=nk [(134,mW (lO .u8) my (Ke n))])
def KZ:{B:Int->Option Bool // ∀(a0:Int),run (adb n) [.at []] (xI [(lO .u8).enc a0] 9)=B a0}:=mB
def ub:=fu fun n=>(KZ n).1
def Es:zO eZ 84 (kP (lO .u8) kr) my (fun n a=>ub n a.1):=fC fun n a r h nb=>AQ (((KZ n).2 _).trans h) (gd (jL (lg (c1 abf n)) jQ) jR) func84 nb ntmps84 results84
@[go_sem]def WM:wX:=⟨[],[],(zK::zA::zA::zK::zK::me (me (l7 (l7 [])))),[],none,none⟩
@[reducible] def YH:kD Bool:=ol eZ f146 n (nE eZ [.tmp 2] my) (cl:=nk [(182,mW (lO .u8) my (Kf n))]) (sx:=qk [([0,1,0,1,1,1],WM)])
@[go_sem]abbrev WN(v0:Str)(v1:Bool)(v2:Int):jI:=⟨(.str (sb v0)::qA::qA:: .bool v1:: .int .i64 v2::mo (mo (mq (mq [])))),[],0,[]⟩
abbrev WO:=Str->Bool->Int->Option Bool
abbrev aep(K:List Kt)(Z:WO):Prop:= ∀v0 v1 v2,run (YH n) K (WN v0 v1 v2)=Z v0 v1 v2
def DZ:LB (aep n) [0,1,0,1,1,1] [.blk 0,.cut [1,1,1,1],.at [1,1,1,1]]:=mB
def D0:Nat->WO:=w8 ((DZ n).1)
def Rt{n:Nat}:D0 n (m+1)=(DZ n).1 (D0 n m):=rfl
@[go_sem]def Z6(m:Nat):=Ij (DZ n) (D0 n) m
def Qi:{B:Str->Option Bool // ∀(a0:Str),run (YH n) [.at []] (xI [lP.enc a0] 45)=B a0}:=mB
def Qj:=fu fun n=>(Qi n).1
def aeq:zO eZ 146 (kP lP kr) my (fun n a=>Qj n a.1):=fC fun n a r h nb=>AQ (((Qi n).2 _).trans h) (gd (jL (lg (c1 abg n)) jQ) jR) func146 nb ntmps146 results146
@[reducible] def agN:kD Str:=ol eZ f117 n (nE eZ [.tmp 2] lP) (cl:=nk [(116,mW (lF jH.ky) my (Ag n))])
def Qk:{B:jH->Option Str // ∀(a0:jH),run (agN n) [.at []] (xI [(lF jH.ky).enc a0] 13)=B a0}:=mB
def HI:=fu fun n=>(Qk n).1
def WP:zO eZ 117 (kP (lF jH.ky) kr) lP (fun n a=>HI n a.1):=fC fun n a r h nb=>AQ (((Qk n).2 _).trans h) (gd (jL (lg (c1 DS n)) jQ) jR) func117 nb ntmps117 results117
@[go_sem]def Uk:wX:=⟨[],[],(zA::zK::zK::zA::zA::zA::zK::me (zA::[])),[oT jH.ky],none,none⟩
@[reducible] def WQ:kD Bool:=ol eZ f147 n (nE eZ [.tmp 4] my) (cl:=nk [(116,mW (lF jH.ky) my (Ag n))]) (sx:=qk [([0,1,0,1,1,1],Uk)])
@[go_sem]abbrev Ul(v0:Str)(v1:Int)(o0:jH):jI:=⟨(qA:: .str (sb v0):: .ptr 0 0::qA::qA::qA:: .int .i64 v1::mo (qA::[])),[.cells (jH.cells o0)],0,[]⟩
abbrev Um:=Str->Int->jH->Option Bool
abbrev ade(K:List Kt)(Z:Um):Prop:= ∀v0 v1 o0,run (WQ n) K (Ul v0 v1 o0)=Z v0 v1 o0
def B1:LB (ade n) [0,1,0,1,1,1] [.blk 0,.cut [1,1,1,1],.at [1,1,1,1]]:=mB
def yW:Nat->Um:=w8 ((B1 n).1)
def Oz{n:Nat}:yW n (m+1)=(B1 n).1 (yW n m):=rfl
@[go_sem]def YI(m:Nat):=Ij (B1 n) (yW n) m
def Ns:{B:jH->Str->Option Bool // ∀(a0:jH)(a1:Str),run (WQ n) [.at []] (xI [(lF jH.ky).enc a0,lP.enc a1] 24)=B a0 a1}:=mB
def IW:=fu fun n=>(Ns n).1
def adf:zO eZ 147 (kP (lF jH.ky) (kP lP kr)) my (fun n a=>IW n a.1 a.2.1):=fC fun n a r h nb=>AQ (((Ns n).2 _ _).trans h) (gd (jL (lg (c1 DS n)) jQ) jR) func147 nb ntmps147 results147
@[go_sem]def td:=(lm 0 (lm 1 (lm 2 (kP (M4 66 (lF jT.ky)) kr))))
@[reducible] def rG:kD (Tl×Unit):=ol eZ f31 n (Ds eZ [] [] [0,1,2] 3 jZ kr) (cl:=nk [(32,Rm (Ik n))]) (yb:=lV []) (yd:=lV [])
@[go_sem]def Xx:tw (rG n) [1,0,1,1]=true:=jE
@[go_sem]def Xy:Fz (rG n) [1,0,1,1] 2 6 5 6 2 7 4 7/\aoR (rG n) [1,0,1,1] 5 7 6 7:=⟨⟨jE,jE,jE,jE⟩,jE,jE⟩
def Am:{B:jT->Syntax->Int->Int->Option (Tl×Unit) // ∀(a0:jT)(o0:Syntax)(o1:Int)(o2:Int),run (rG n) [.ops (qv (rG n) [0]) ((qv (rG n) [0]).toList.drop 1),.cut [1],.at [1]] (jI.put {slots:=((lm 0 (lm 1 (lm 2 kr))).enc (jZ.lens ((o0,()),(o1,()),(o2,()),())) ())++fw (15-((lm 0 (lm 1 (lm 2 kr))).enc (jZ.lens ((o0,()),(o1,()),(o2,()),())) ()).length) qA,heap:=(jZ.enc (jZ.lens ((o0,()),(o1,()),(o2,()),())) ((o0,()),(o1,()),(o2,()),())),low:=(jZ.enc (jZ.lens ((o0,()),(o1,()),(o2,()),())) ((o0,()),(o1,()),(o2,()),())).length} (some 5) ((M4 66 (lF jT.ky)).enc a0))=B a0 o0 o1 o2}:=mB
def qB:=fu fun n=>(Am n).1
def Wa: ∀(n:Nat)(a0:jT)(o0:Syntax)(o1:Int)(o2:Int)(r:(Tl×Unit)),qB n a0 o0 o1 o2=some r->FnT eZ (ad7 eZ 31) (td.enc (jZ.lens ((o0,()),(o1,()),(o2,()),())) (a0,())) (jZ.enc (jZ.lens ((o0,()),(o1,()),(o2,()),())) ((o0,()),(o1,()),(o2,()),())) (fun o H'=>o=(enR jZ kr r).1/\H'=(enR jZ kr r).2)
 |0,_,_,_,_,_,h=>by cases h
 |n+1,a0,o0,o1,o2,r,h=>by
  exact Yz (M:=rG n) (p1:=[]) (b1:=[0,1,2]) (args:=((lm 0 (lm 1 (lm 2 kr))).enc (jZ.lens ((o0,()),(o1,()),(o2,()),())) ())) (x:=(M4 66 (lF jT.ky)).enc a0) ⟨(jL (BE (Z0 n)) jQ),jR,qg _,qy _,uh,uj,vn,u1⟩ func31 rfl (jE) (sn (fx (jy (jE)) (fy (jZ.sz _ _).symm)) _ (td.nb (jZ.lens ((o0,()),(o1,()),(o2,()),())) (a0,()))) (fun x hx=>Bg (fx (jy (jE)) (fy (jZ.sz _ _).symm)) _ (jZ.nb _ _ x hx)) ntmps31 results31 (low:=3) (by rfl) rfl (((Am n).2 a0 o0 o1 o2).trans h)
@[go_sem]def F7:wX:=⟨[],[],(zK::zT (yg cS)::zA::zK::zK::me (me (me (zA::zA::zA::[])))),[oL [zA,zK,zA,zA,zA,zA,zA,zA,zA],oC [zK],oK],none,none⟩
@[go_sem]def GY(F:Str->T9->Option (Tz×Unit)):=Yr [.arg 0 [],.obj 0 1 [],.obj 1 0 []] kx (XP 0 (kP (yg cS) kr)) k6 kr (fun(b:(Unit×(Unit×(T9×Unit))))(a:(Str×Unit))=>F a.1 b.2.2.1)
@[reducible] def GZ:kD (Tz×Unit):=ol eZ f207 n (Ds eZ [] [] [0,1,2] 3 k6 kr) (sx:=qk [([0,1,0,1],F7)]) (cy:=ai3 [(0,aqL [.obj 0 1 [],.obj 1 0 []] kx (kP lP kr) k6 (kP my kr) (fun(b:(Unit×(Unit×(T9×Unit))))(a:(Str×Unit))=>(BF n) a.1 b.2.2.1))])
@[go_sem]abbrev F8(v0:Str)(v1:Int)(v2:Int)(j0:Int)(r2:List (Str×Bool)):jI:=⟨(.map 0:: .pp [.str (sb v0)]::qA:: .int .i64 v1:: .int .i64 v2::mo (mo (mo (qA::qA::qA::[])))),[.loop lW [qA,.ptr 1 0,qA,qA,qA,qA,qA,qA,qA] (stJ lW j0) j0,.cells [.map 2],.map (mp CM r2)],3,[]⟩
abbrev F9:=Str->Int->Int->Int->T9->Option (Tz×Unit)
abbrev Ql(K:List Kt)(Z:F9):Prop:= ∀v0 v1 v2 j0 r2,run (GZ n) K (F8 v0 v1 v2 j0 r2)=Z v0 v1 v2 j0 r2
def An:LB (Ql n) [0,1,0,1] [.blk 0,.cut [1,1],.at [1,1]]:=mB
def Ao:Nat->F9:=w8 ((An n).1)
def aer{n:Nat}:Ao n (m+1)=(An n).1 (Ao n m):=rfl
@[go_sem]def L1(m:Nat):=Ij (An n) (Ao n) m
def G1:{B:Str->T9->Option (Tz×Unit) // ∀(a0:Str)(o0:T9),run (GZ n) [.at []] (rB (XP 0 (kP (yg cS) kr)) kx ((),(),o0,()) (a0,()) 56)=B a0 o0}:=mB
def JX:=fu fun n=>(G1 n).1
def Qm:OKX eZ 207 (XP 0 (kP (yg cS) kr)) kx k6 kr (fun n b a=>JX n a.1 b.2.2.1):=fX fun n b a r h=>okG (((G1 n).2 a.1 b.2.2.1).trans h) (gd jQ jR (y:=(Yt (fun _ _ _ _ _ h=>anh (fun b a r h=>(HG n) a.1 b.2.2.1 r h) h) aaF))) func207 ntmps207 results207
open Go.Proofs
@[reducible] def adg:kD Bool:=ol eZ f184 n (nE eZ [.tmp 2] my) (cl:=nk [(156,mW (lO .u8) (lO .i64) (zW n))])
def K1:{B:Int->Option Bool // ∀(a0:Int),run (adg n) [.at []] (xI [(lO .u8).enc a0] 15)=B a0}:=mB
def vC:=fu fun n=>(K1 n).1
def JD:zO eZ 184 (kP (lO .u8) kr) my (fun n a=>vC n a.1):=fC fun n a r h nb=>AQ (((K1 n).2 _).trans h) (gd (jL (lg (c1 B0 n)) jQ) jR) func184 nb ntmps184 results184
@[reducible] def aes:kD (List Str):=ol eZ f150 n (nE eZ [.tmp 0] (l5 l6)) (cl:=nk [(186,mW lP (l5 l6) (Ue n))])
def WR:{B:Option (List Str) // run (aes n) [.at []] (xI ([]:List AV) 2)=B}:=mB
def IX:=fu fun n=>(WR n).1
def Un:zO eZ 150 kr (l5 l6) (fun n a=>IX n):=fC fun n a r h nb=>AQ ((WR n).2.trans h) (gd (jL (lg (c1 YF n)) jQ) jR) func150 nb ntmps150 results150
def IY:wX:=⟨[],[],(Bm (Bm (me (me (l7 (l7 (l7 (zA::zA::zA::zK::l7 (l7 (zA::zA::zA::[])))))))))),[oK],none,none⟩
def IZ:wX:=⟨[],[],(zK::l7 (zA::zA::zK::zK::zK::zA::zA::zK::Bm (Bm (me (me (l7 (l7 (l7 (zA::zA::[]))))))))),[],none,none⟩
def I0:wX:=⟨[],[],(zK::l7 (zA::zA::zK::zK::zK::Bm (Bm (me (me (me (zA::[]))))))),[],none,none⟩
@[reducible] def vc:kD Int:=ol eZ f211 n (nE eZ [.tmp 4] (lO .i64)) (cl:=nk [(135,rI lP (lO .u8) (lO .i64) (strings_IndexByte n)),(238,mW (lO .i32) my (vp n))]) (cd:=KO [(135,pU (rI lP (lO .u8) (lO .i64) (strings_IndexByte n)))]) (sx:=qk [([0,1,0,0,1,1,1,0,1],IY),([0,1,0,1,0,0,1,0,0,0,1,1,1,1,0,1,1,1,1,1,1,0,1],IZ),([0,0,1,1,1,1,0,1,1,1,1,1,1,0,1],I0)]) (yb:=lV []) (yd:=lV [])
def Wb:aul (vc n) [0,0,0,0,1,0,0,0,1,1,1,1,0,1,1,1,1,1,1,0,1] [0,0,0,1,0,0,1,0,1,0,0,1,0,0,0,1,1,1,1,0,1,1,1,1,1,1,0,1] [0,0,1,0,0,0,1,0,0,0,1,1,1,1,0,1,1,1,1,1,1,0,1]:=⟨jE,jE,jE⟩
attribute [go_sem] Wb IY IZ I0
abbrev I1(iv0:Str)(ip0:Nat):jI:=⟨(Bl (Bl (mo (mo (mq (mq (mq (qA::qA::qA:: .ptr 0 0::mq (mq (qA::qA::qA::[])))))))))),[.iter (sb iv0) ip0],0,[]⟩
abbrev I2:List Kt:=[.blk 9,.cut [1,0,1,1,1,0,1],.at [1,0,1,1,1,0,1],.blk 0]
abbrev I3:=Str->Nat->Option Int
abbrev Uo(K:List Kt)(Z:I3):Prop:= ∀iv0 ip0,run (vc n) K (I1 iv0 ip0)=Z iv0 ip0
abbrev I4(v0:Str)(v1:Str)(v2:Int)(v3:Int)(v4:Int):jI:=⟨(.str (sb v0)::mq (qA::qA:: .str (sb v1):: .int .i64 v2:: .int .i64 v3::qA::qA:: .int .i64 v4::Bl (Bl (mo (mo (mq (mq (mq (qA::qA::[]))))))))),[],0,[]⟩
abbrev I5(m3:Nat):List Kt:=[.blk 3,.cut [1,1,0,0,1,0,0,0,1,1,1,1,0,1,1,1,1,1,1,0,1],.at [1,1,0,0,1,0,0,0,1,1,1,1,0,1,1,1,1,1,1,0,1],.blk 2,.lp m3 [0,0,1,1,1,1,0,1,1,1,1,1,1,0,1],.blk 1,.cut [1,1,1,1,1,0,1,1,1,1,1,1,0,1],.at [1,1,1,1,1,0,1,1,1,1,1,1,0,1],.blk 0]
abbrev I6:=Str->Str->Int->Int->Int->Option Int
abbrev Up(K:List Kt)(Z:I6):Prop:= ∀v0 v1 v2 v3 v4,run (vc n) K (I4 v0 v1 v2 v3 v4)=Z v0 v1 v2 v3 v4
abbrev I7(v0:Str)(v1:Str)(v2:Int)(v3:Int):jI:=⟨(.str (sb v0)::mq (qA::qA:: .str (sb v1):: .int .i64 v2:: .int .i64 v3::Bl (Bl (mo (mo (mo (qA::[]))))))),[],0,[]⟩
abbrev xe:List Kt:=[.blk 1,.cut [1,1,1,1,1,0,1,1,1,1,1,1,0,1],.at [1,1,1,1,1,0,1,1,1,1,1,1,0,1],.blk 0]
abbrev xf:=Str->Str->Int->Int->Option Int
abbrev B2(K:List Kt)(Z:xf):Prop:= ∀v0 v1 v2 v3,run (vc n) K (I7 v0 v1 v2 v3)=Z v0 v1 v2 v3
attribute [go_sem] I1 I2 I4 I5 I7 xe
def B3:LB (Uo n) [0,1,0,0,1,1,1,0,1] I2:=mB
def B4:Nat->I3:=w8 ((B3 n).1)
def agO{n:Nat}:B4 n (m+1)=(B3 n).1 (B4 n m):=rfl
@[go_sem]def E3(m:Nat):=Ij (B3 n) (B4 n) m
def B5:LB2 (B2 n) [0,0,1,1,1,1,0,1,1,1,1,1,1,0,1] xe (Up n) [0,1,0,1,0,0,1,0,0,0,1,1,1,1,0,1,1,1,1,1,1,0,1] I5:=mB
def B6(X3:xf):Nat->I6:=w8 ((B5 n).1 X3)
def agP{n:Nat}(X3:xf):B6 n X3 (m+1)=(B5 n).1 X3 (B6 n X3 m):=rfl
def OA{m3:Nat}{X3}(h3:B2 n (.lq m3 [0,0,1,1,1,1,0,1,1,1,1,1,1,0,1]::xe) X3)(m:Nat):=arn (B5 n) h3 (B6 n X3) m
def xg:LB (B2 n) [0,0,1,1,1,1,0,1,1,1,1,1,1,0,1] xe:=by
 apply fz;intro m X0 ih v0 v1 v2 v3;simp (config:={maxSteps:=100000000}) only[go_sem,fc,fg,e8,e9,fi,fj,fm,fo,fp,fa,fk,fq,f211,fb,mixed,E3 n,OA n ih,ih];exact rfl
def xh:Nat->xf:=w8 ((xg n).1)
def Qn{n:Nat}:xh n (m+1)=(xg n).1 (xh n m):=rfl
@[go_sem]def OB(m:Nat):=Ij (xg n) (xh n) m
def Dz:{B:Str->Int->Option Int // ∀(a0:Str)(a1:Int),run (vc n) [.at []] (xI [lP.enc a0,(lO .i32).enc a1] 187)=B a0 a1}:=mB
def mI:=fu fun n=>(Dz n).1
def I8:zO eZ 211 (kP lP (kP (lO .i32) kr)) (lO .i64) (fun n a=>mI n a.1 a.2.1):=fC fun n a r h nb=>AQ (((Dz n).2 _ _).trans h) (gd (jL (nA (c2 IS n)) (jL (lg (c1 LP n)) jQ)) (nP (ui (c2 IS n)) jR)) func211 nb ntmps211 results211
@[reducible] def Wc:kD Bool:=ol eZ f93 n (nE eZ [.tmp 4] my) (cl:=nk [(136,rI lP lP my (tQ n))])
def DA:{B:Str->Str->Option Bool // ∀(a0:Str)(a1:Str),run (Wc n) [.at []] (xI [lP.enc a0,lP.enc a1] 8)=B a0 a1}:=mB
def BJ:=fu fun n=>(DA n).1
def Uq:zO eZ 93 (kP lP (kP lP kr)) my (fun n a=>BJ n a.1 a.2.1):=fC fun n a r h nb=>AQ (((DA n).2 _ _).trans h) (gd (jL (nA (c2 FB n)) jQ) jR) func93 nb ntmps93 results93
@[reducible] def I9:kD Int:=ol eZ f58 n (nE eZ [.tmp 2] (lO .i64)) (cd:=KO [(56,pU (mW (yg jG.ky) (lF j8.ky) (k8 n)))]) (yb:=lV []) (yd:=lV [])
@[go_sem]def Ur:tw (I9 n) [0,1]=true:=jE
def B7:{B:jG->Option Int // ∀(a0:jG),run (I9 n) [.at []] (xI [(yg jG.ky).enc a0] 11)=B a0}:=mB
def nN:=fu fun n=>(B7 n).1
def qV:zO eZ 58 (kP (yg jG.ky) kr) (lO .i64) (fun n a=>nN n a.1):=fC fun n a r h nb=>AQ (((B7 n).2 _).trans h) (gd jQ (nP (mh (c1 lc n)) jR)) func58 nb ntmps58 results58
@[reducible] def B8:kD (Td×(Str×Unit)):=ol eZ f59 n (agu eZ [.tmp 2] (uF (xG jG.ky) tz) (Ml lP II) 1) (cl:=nk [(56,zN (pU (mW (yg jG.ky) (lF j8.ky) (k8 n))))]) (yb:=lV []) (yd:=lV [])
@[go_sem]def Us:tw (B8 n) [0,0,1,1]=true:=jE
def B9:{B:jG->Option (Td×(Str×Unit)) // ∀(a0:jG),run (B8 n) [.at []] (xI ((MZ 0 Kd).enc (a0,()) ()) 26 ((uF (xG jG.ky) tz).enc (a0,())))=B a0}:=mB
def kE:=fu fun n=>(B9 n).1
def kY: ∀(n:Nat)(a0:jG)(r:(Td×(Str×Unit))),kE n a0=some r->FnG eZ 59 ((MZ 0 Kd).enc (a0,()) ()) ((uF (xG jG.ky) tz).enc (a0,())) (fun o H'=>o= .ret (tA ((Ml lP II).enc r.1 r.2))/\H'=(uF (xG jG.ky) tz).enc r.1)
 |0,_,_,h=>by cases h
 |n+1,a0,r,h=>by
  exact BD (M:=B8 n) ⟨(jL (nQ (mh (c1 lc n))) jQ),jR,qg _,qy _,uh,uj,vn,u1⟩ func59 rfl rfl (by simp only[go_sem,fc,fg,e8,e9,fi,fj,fm,fo,fp,fa,fk,fq]) ((uF (xG jG.ky) tz).nb _ _) ntmps59 results59 (fun σ hs=>abU hs) (((B9 n).2 a0).trans h)
open Go.Proofs
@[reducible] def Xz:kD Bool:=ol eZ f74 n (nE eZ [.tmp 6] my) (cl:=nk [(56,mW (yg jG.ky) (lF j8.ky) (k8 n))])
def EF:{B:jG->Int->Str->Option Bool // ∀(a0:jG)(a1:Int)(a2:Str),run (Xz n) [.at []] (xI [(yg jG.ky).enc a0,(lO .i64).enc a1,lP.enc a2] 20)=B a0 a1 a2}:=mB
def rL:=fu fun n=>(EF n).1
def ve:zO eZ 74 (kP (yg jG.ky) (kP (lO .i64) (kP lP kr))) my (fun n a=>rL n a.1 a.2.1 a.2.2.1):=fC fun n a r h nb=>AQ (((EF n).2 _ _ _).trans h) (gd (jL (lg (c1 lc n)) jQ) jR) func74 nb ntmps74 results74
@[reducible] def Qo:kD Bool:=ol eZ f159 n (nE eZ [.tmp 2] my) (cl:=nk [(56,mW (yg jG.ky) (lF j8.ky) (k8 n)),(166,rI lP lP my (strings_Contains n))])
def Ap:{B:jG->Option Bool // ∀(a0:jG),run (Qo n) [.at []] (xI [(yg jG.ky).enc a0] 15)=B a0}:=mB
def rM:=fu fun n=>(Ap n).1
def yX:zO eZ 159 (kP (yg jG.ky) kr) my (fun n a=>rM n a.1):=fC fun n a r h nb=>AQ (((Ap n).2 _).trans h) (gd (jL (lg (c1 lc n)) (jL (nA (Dt n)) jQ)) jR) func159 nb ntmps159 results159
def OC:wX:=⟨[],[],(zA::zK::zK::me (me (zA::zA::zA::zK::zK::l7 (l7 (l7 (zA::zA::[])))))),[oC [zK,zK,zK,zK,zK,zK,zK,zK],oK,oA l6,oA jM.row,oA Syntax.row],none,none⟩
def OD:wX:=⟨[],[],(zA::zK::zK::l7 (l7 (l7 (zK::zK::me (me (l7 (zA::[]))))))),[oC [zK,zK,zK,zK,zK,zT (l5 Syntax.row),zK,zK],oK,oA l6,oA jM.row],none,none⟩
@[reducible] def qt(X:Syntax->Option Syntax)(n:Nat):kD Syntax:=ol eZ f160 n (nE eZ [.cell 2 29] (lF Syntax.ky)) (cl:=nk [(191,yM [] tz (asT (l5 l6) Kd) (uF (oaT true l6) tz) (rsA 0 (fun(b:To)=>b.1.length) II) (fun(b:Unit) a=>(wx n) a.1)),(192,yM [] tz (asT (l5 jM.row) Kd) (uF (oaT false jM.row) tz) (rsA 0 (fun(b:(Ti×Unit))=>b.1.length) II) (fun(b:Unit) a=>(sK n) a.1)),(194,yM [] tz (asT (l5 Syntax.row) Kd) (uF (oaT false Syntax.row) tz) (rsA 0 (fun(b:TD)=>b.1.length) II) (fun(b:Unit) a=>(wy n) a.1))]) (cd:=KO [(160,pU (mW (lF Syntax.ky) (lF Syntax.ky) X)),(193,pU (mW (l5 jP.row) (l5 jP.row) (vu n)))]) (sx:=qk [([0,1,0,1,1,1,1,1],OC),([0,1,0,1,1,1],OD)]) (cut:=Xq [([1,1,1,1,1,1],[3,4])]) (yb:=lV []) (yd:=lV [])
def abp(X:Syntax->Option Syntax)(n:Nat):aml (qt X n) [1,0,0,1,1,0,0,1,0,1,1,1] [1,0,0,1,1,0,0,1,0,1,1,1,1,1]:=⟨jE,jE⟩
def abq(X:Syntax->Option Syntax)(n:Nat):Fz (qt X n) [1,0,0,1,1,0,0,1,0,1,1,1] 1 12 4 12 6 12 8 12/\Oe (qt X n) [1,0,0,1,1,0,0,1,0,1,1,1] 10 12=true/\Fz (qt X n) [1,0,0,1,1,0,0,1,0,1,1,1,1,1] 1 10 4 10 6 10 7 10/\Oe (qt X n) [1,0,0,1,1,0,0,1,0,1,1,1,1,1] 9 10=true:=⟨⟨jE,jE,jE,jE⟩,jE,⟨jE,jE,jE,jE⟩,jE⟩
attribute [go_sem] abp abq OC OD
@[go_sem]abbrev HJ(v0:Int)(v1:Int)(v2:Int)(v3:Str)(v4:Int)(v5:Int)(v6:Int)(r2:List Str)(r3:List jM)(r4:List Syntax)(c2:Nat)(c3:Nat)(c4:Nat):jI:=⟨(qA:: .ptr 0 0:: .ptr 1 0::mo (mo (qA::qA::qA:: .int .i64 v0:: .int .i64 v1::mq (mq (mq (qA::qA::[])))))),[.cells [.int .i64 v2,.str (sb v3),.int .i64 v4,.acc 2 c2,.acc 3 c3,.acc 4 c4,.int .i64 v5,.int .i64 v6],.cells [.int .i64 0,.str (sb []),.int .i64 0,.lI true 0 [],.lI true 0 [],.lI true 0 [],.int .i64 0,.int .i64 0],.acc true 1 (mp mA r2),.acc false 2 (mp jM.cells r3),.acc false 8 (mp Syntax.cells r4)],0,[]⟩
abbrev CV:=Int->Int->Int->Str->Int->Int->Int->(List Str)->Ti->(List Syntax)->Option Syntax
abbrev HK(X:Syntax->Option Syntax)(n:Nat)(K:List Kt)(Z:CV):Prop:= ∀v0 v1 v2 v3 v4 v5 v6 r2 r3 r4 c2 c3 c4,c2=r2.length->c3=r3.length->c4=r4.length->run (qt X n) K (HJ v0 v1 v2 v3 v4 v5 v6 r2 r3 r4 c2 c3 c4)=Z v0 v1 v2 v3 v4 v5 v6 r2 r3 r4
@[go_sem]abbrev HL(v0:Int)(v1:Int)(v2:Int)(v3:Str)(v4:Int)(v5:List Syntax)(v6:Int)(v7:Int)(r2:List Str)(r3:List jM)(c2:Nat)(c3:Nat):jI:=⟨(qA:: .ptr 0 0:: .ptr 1 0::mq (mq (mq (.int .i64 v0:: .int .i64 v1::mo (mo (mq (qA::[]))))))),[.cells [.int .i64 v2,.str (sb v3),.int .i64 v4,.acc 2 c2,.acc 3 c3,.lI false 8 (mp Syntax.cells v5),.int .i64 v6,.int .i64 v7],.cells [.int .i64 0,.str (sb []),.int .i64 0,.lI true 0 [],.lI true 0 [],.lI true 0 [],.int .i64 0,.int .i64 0],.acc true 1 (mp mA r2),.acc false 2 (mp jM.cells r3)],0,[]⟩
abbrev CW:=Int->Int->Int->Str->Int->(List Syntax)->Int->Int->(List Str)->Ti->Option Syntax
abbrev HM(X:Syntax->Option Syntax)(n:Nat)(K:List Kt)(Z:CW):Prop:= ∀v0 v1 v2 v3 v4 v5 v6 v7 r2 r3 c2 c3,c2=r2.length->c3=r3.length->run (qt X n) K (HL v0 v1 v2 v3 v4 v5 v6 v7 r2 r3 c2 c3)=Z v0 v1 v2 v3 v4 v5 v6 v7 r2 r3
def yY(X:Syntax->Option Syntax)(n:Nat):{B:CV->CV // ∀m X0,HK X n (.lq m [0,1,0,1,1,1,1,1]::[.blk 2,.cut [1,1,1,1,1,1],.at [1,1,1,1,1,1]]) X0-> ∀(v0:Int)(v1:Int)(v2:Int)(v3:Str)(v4:Int)(v5:Int)(v6:Int)(r2:List Str)(r3:List jM)(r4:List Syntax),run (qt X n) (.at [0,0,1,0,1,1,1,1,1]:: .lp m [0,1,0,1,1,1,1,1]::[.blk 2,.cut [1,1,1,1,1,1],.at [1,1,1,1,1,1]]) (HJ v0 v1 v2 v3 v4 v5 v6 r2 r3 r4 (r2.length) (r3.length) (r4.length))=B X0 v0 v1 v2 v3 v4 v5 v6 r2 r3 r4}:=mB
def yZ(X:Syntax->Option Syntax)(n:Nat):Nat->CV:=w8 ((yY X n).1)
def K2(X:Syntax->Option Syntax){n:Nat}:yZ X n (m+1)=(yY X n).1 (yZ X n m):=rfl
@[go_sem]def Wd(X:Syntax->Option Syntax)(n:Nat)(m:Nat):HK X n (.lq m [0,1,0,1,1,1,1,1]::[.blk 2,.cut [1,1,1,1,1,1],.at [1,1,1,1,1,1]]) (yZ X n m):=
 sE (G:=fun m Z=>HK X n (.lq m [0,1,0,1,1,1,1,1]::[.blk 2,.cut [1,1,1,1,1,1],.at [1,1,1,1,1,1]]) Z) (fun _ _ _ _ _ _ _ _ _ _ _ _ _ _ _ _=>lw) (fun m _ ih=>by
  intro v0 v1 v2 v3 v4 v5 v6 r2 r3 r4 c2 c3 c4 ec2 ec3 ec4;subst ec2;subst ec3;subst ec4;rw[lz];exact(yY X n).2 _ _ ih v0 v1 v2 v3 v4 v5 v6 r2 r3 r4) m
def y8(X:Syntax->Option Syntax)(n:Nat):{B:CW->CW // ∀m X0,HM X n (.lq m [0,1,0,1,1,1]::[.blk 0,.cut [1,1,1,1],.at [1,1,1,1]]) X0-> ∀(v0:Int)(v1:Int)(v2:Int)(v3:Str)(v4:Int)(v5:List Syntax)(v6:Int)(v7:Int)(r2:List Str)(r3:List jM),run (qt X n) (.at [0,0,1,0,1,1,1]:: .lp m [0,1,0,1,1,1]::[.blk 0,.cut [1,1,1,1],.at [1,1,1,1]]) (HL v0 v1 v2 v3 v4 v5 v6 v7 r2 r3 (r2.length) (r3.length))=B X0 v0 v1 v2 v3 v4 v5 v6 v7 r2 r3}:=mB
def y9(X:Syntax->Option Syntax)(n:Nat):Nat->CW:=w8 ((y8 X n).1)
def K3(X:Syntax->Option Syntax){n:Nat}:y9 X n (m+1)=(y8 X n).1 (y9 X n m):=rfl
@[go_sem]def We(X:Syntax->Option Syntax)(n:Nat)(m:Nat):HM X n (.lq m [0,1,0,1,1,1]::[.blk 0,.cut [1,1,1,1],.at [1,1,1,1]]) (y9 X n m):=
 sE (G:=fun m Z=>HM X n (.lq m [0,1,0,1,1,1]::[.blk 0,.cut [1,1,1,1],.at [1,1,1,1]]) Z) (fun _ _ _ _ _ _ _ _ _ _ _ _ _ _=>lw) (fun m _ ih=>by
  intro v0 v1 v2 v3 v4 v5 v6 v7 r2 r3 c2 c3 ec2 ec3;subst ec2;subst ec3;rw[lz];exact(y8 X n).2 _ _ ih v0 v1 v2 v3 v4 v5 v6 v7 r2 r3) m
def JE(X:Syntax->Option Syntax)(n:Nat):{B:Syntax->Option Syntax // ∀(a0:Syntax),run (qt X n) [.at []] (xI [(lF Syntax.ky).enc a0] 54)=B a0}:=mB
def sB:Nat->Syntax->Option Syntax
 |0,_=>none
 |n+1,a0=>(JE (sB n) n).1 a0
def OE: ∀(n:Nat)(a0:Syntax)(r:Syntax),sB n a0=some r->GP eZ 160 [(lF Syntax.ky).enc a0] (fun v=>v=(lF Syntax.ky).enc r)
 |0,_,_,h=>by cases h
 |n+1,a0,r,h=>by
  have Z7:=OE n;exact AQ (((JE (sB n) n).2 a0).trans h) (gd (jL (n7 (fun b a r h=>(Nf n) a.1 r h)) (jL (n7 (fun b a r h=>(IV n) a.1 r h)) (jL (n7 (fun b a r h=>(Ni n) a.1 r h)) jQ))) (nP (mh (Z7)) (nP (mh (LU n)) jR))) func160 ⟨(lF Syntax.ky).nb 0 _,trivial⟩ ntmps160 results160
@[reducible] def xj:kD (Td×(Syntax×Unit)):=ol eZ f120 n (agu eZ [.cell 2 29] (uF (xG jG.ky) tz) (Ml (lF Syntax.ky) II) 1) (co:=LO [(157,Rk (pU (mW (yg jG.ky) (lO .i64) (mY n))))]) (yb:=lV [157]) (yd:=lV [])
@[go_sem]def Ut:tw (xj n) [0,1]=true:=jE
@[go_sem]def Uu:aoS (xj n) [0,1] 3 7 3 9 7 9:=⟨jE,jE,jE⟩
def Ca:{B:jG->Option (Td×(Syntax×Unit)) // ∀(a0:jG),run (xj n) [.at []] (xI ((MZ 0 Kd).enc (a0,()) ()) 12 ((uF (xG jG.ky) tz).enc (a0,())))=B a0}:=pu
def tR:=fu fun n=>(Ca n).1
def G2: ∀(n:Nat)(a0:jG)(r:(Td×(Syntax×Unit))),tR n a0=some r->FnG eZ 120 ((MZ 0 Kd).enc (a0,()) ()) ((uF (xG jG.ky) tz).enc (a0,())) (fun o H'=>o= .ret (tA ((Ml (lF Syntax.ky) II).enc r.1 r.2))/\H'=(uF (xG jG.ky) tz).enc r.1)
 |0,_,_,h=>by cases h
 |n+1,a0,r,h=>by
  exact BD (M:=xj n) ⟨jQ,jR,qg _,qy _,uh,uj,vn,(mi (IL (mh (c1 qm n))) rJ)⟩ func120 rfl rfl (by simp only[go_sem,fc,fg,e8,e9,fi,fj,fm,fo,fp,fa,fk,fq]) ((uF (xG jG.ky) tz).nb _ _) ntmps120 results120 (fun σ hs=>abU hs) (((Ca n).2 a0).trans h)
@[go_sem]def Cb:wX:=⟨[],[],(zK::zT (yg (cL jO.row))::zA::zK::l7 (l7 (l7 (zA::zA::zA::[])))),[oL [zA,zA,zA,zK,zA,zK,zA,zA,zA,zA,zA,zA,zA,zA,zA,zA,zA,zA,zA,zA,zA,zA,zA,zA,zA,zA,zA,zA,zA],oT Syntax.ky,oT Syntax.ky],none,none⟩
@[go_sem]def sP:=(XP 0 (kP (yg (cL jO.row)) kr))
@[go_sem]def Dc(F:Tm->Syntax->Syntax->Option (Tp×Unit)):=Yr [.arg 0 [],.obj 0 3 [],.obj 0 5 []] kF sP lJ kr (fun(b:TQ)(a:(Tm×Unit))=>F a.1 b.2.1.1 b.2.2.1.1)
@[reducible] def Dd:kD (Tp×Unit):=ol eZ f190 n (Ds eZ [] [] [0,1,2] 3 lJ kr) (sx:=qk [([0,1],Cb)]) (cy:=ai3 [(0,aqL [.obj 0 3 [],.obj 0 5 []] kF qG lJ (kP my kr) (fun(b:TQ)(a:(Int×(jO×Unit)))=>(Al n) a.1 a.2.1 b.2.1.1 b.2.2.1.1))])
@[go_sem]abbrev Cc(v0:List jO)(v1:Int)(j0:Int)(o1:Syntax)(o2:Syntax):jI:=⟨(.map 0:: .pp [.lI false 9 (mp jO.cells v0)]::qA:: .int .i64 v1::mq (mq (mq (qA::qA::qA::[])))),[.loop nJ [qA,qA,qA,.ptr 1 0,qA,.ptr 2 0,qA,qA,qA,qA,qA,qA,qA,qA,qA,qA,qA,qA,qA,qA,qA,qA,qA,qA,qA,qA,qA,qA,qA] (stJ nJ j0) j0,.cells (Syntax.cells o1),.cells (Syntax.cells o2)],3,[]⟩
abbrev Cd:=Tm->Int->Int->Syntax->Syntax->Option (Tp×Unit)
abbrev K4(K:List Kt)(Z:Cd):Prop:= ∀v0 v1 j0 o1 o2,run (Dd n) K (Cc v0 v1 j0 o1 o2)=Z v0 v1 j0 o1 o2
def qn:LB (K4 n) [0,1] [.blk 0]:=mB
def sQ:Nat->Cd:=w8 ((qn n).1)
def AX{n:Nat}:sQ n (m+1)=(qn n).1 (sQ n m):=rfl
@[go_sem]def Ja(m:Nat):=Ij (qn n) (sQ n) m
def wS:{B:Tm->Syntax->Syntax->Option (Tp×Unit) // ∀(a0:Tm)(o0:Syntax)(o1:Syntax),run (Dd n) [.at []] (rB sP kF ((),(o0,()),(o1,()),()) (a0,()) 19)=B a0 o0 o1}:=mB
def za:=fu fun n=>(wS n).1
def K5:OKX eZ 190 sP kF lJ kr (fun n b a=>za n a.1 b.2.1.1 b.2.2.1.1):=fX fun n b a r h=>okG (((wS n).2 a.1 b.2.1.1 b.2.2.1.1).trans h) (gd jQ jR (y:=(Yt (fun _ _ _ _ _ h=>anh (fun b a r h=>(LV n) a.1 a.2.1 b.2.1.1 b.2.2.1.1 r h) h) aaF))) func190 ntmps190 results190
@[go_sem]def jF:=(BP (PC (alC jG.ky 6 kr)) EC)
@[go_sem]def OF(F:jG->Option TK):=Yr [.arg 0 []] jF (lm 0 kr) jF (kP lP kr) (fun(b:T6)(a:Unit)=>F b.1.1)
@[reducible] def E4:kD TK:=ol eZ f59 n (Ds eZ [.tmp 2] [] [0] 1 jF (kP lP kr)) (cl:=nk [(56,zN (pU (mW (yg jG.ky) (lF j8.ky) (k8 n))))]) (yb:=lV []) (yd:=lV [])
@[go_sem]def OH:tw (E4 n) [0,0,1,1]=true:=jE
def zb:{B:jG->Option TK // ∀(o0:jG),run (E4 n) [.at []] (rB (lm 0 kr) jF ((o0,()),()) () 26)=B o0}:=mB
def wz:=fu fun n=>(zb n).1
def Nt:OKX eZ 59 (lm 0 kr) jF jF (kP lP kr) (fun n b a=>wz n b.1.1):=fX fun n b a r h=>okG (((zb n).2 b.1.1).trans h) (gd (jL (nQ (mh (c1 lc n))) jQ) jR) func59 ntmps59 results59
open Go.Proofs
@[reducible] def Qp:kD Bool:=ol eZ f162 n (nE eZ [.tmp 2] my) (cl:=nk [(56,mW (yg jG.ky) (lF j8.ky) (k8 n))])
def Aq:{B:jG->Option Bool // ∀(a0:jG),run (Qp n) [.at []] (xI [(yg jG.ky).enc a0] 48)=B a0}:=mB
def ul:=fu fun n=>(Aq n).1
def E5:zO eZ 162 (kP (yg jG.ky) kr) my (fun n a=>ul n a.1):=fC fun n a r h nb=>AQ (((Aq n).2 _).trans h) (gd (jL (lg (c1 lc n)) jQ) jR) func162 nb ntmps162 results162
@[reducible] def Nu:kD Bool:=ol eZ f195 n (nE eZ [.tmp 4] my) (cl:=nk [(216,rI (l5 l6) lP (lO .i64) (yq n))])
def xR:{B:(List Str)->Str->Option Bool // ∀(a0:(List Str))(a1:Str),run (Nu n) [.at []] (xI [(l5 l6).enc a0,lP.enc a1] 9)=B a0 a1}:=mB
def mj:=fu fun n=>(xR n).1
def De:zO eZ 195 (kP (l5 l6) (kP lP kr)) my (fun n a=>mj n a.1 a.2.1):=fC fun n a r h nb=>AQ (((xR n).2 _ _).trans h) (gd (jL (nA (c2 P9 n)) jQ) jR) func195 nb ntmps195 results195
@[go_sem]def Ga(F:jH->Int->Tb->Tb->T9->Option TJ):=tB false [.arg 0 [],.obj 0 0 [],.obj 0 1 [],.obj 0 2 []] kJ (lm 0 (kP (lF jH.ky) kr)) kJ (XP 2 (kP lP (kP (l5 l6) kr))) kJ (XP 1 (kP lP (kP (l5 l6) kr))) (fun(b:Tf)(a:(jH×Unit))=>F a.1 b.1.1 b.2.1 b.2.2.1 b.2.2.2.1)
@[reducible] def Gb:kD TJ:=ol eZ f243 n (ac2 eZ [.tmp 4,.tmp 5,.tmp 6] [] [0,1,2,3] 4 kJ (XP 2 (kP lP (kP (l5 l6) kr))) [] kJ (XP 1 (kP lP (kP (l5 l6) kr)))) (cl:=nk [(244,mW (lF jH.ky) my (xM n))]) (yb:=lV []) (yd:=lV [])
@[go_sem]def Qq:aml (Gb n) [0,0,1,0,1] [0,1,1]:=⟨jE,jE⟩
def Ar:{B:jH->Int->Tb->Tb->T9->Option TJ // ∀(a0:jH)(o0:Int)(o1:Tb)(o2:Tb)(o3:T9),run (Gb n) [.at []] (rB (lm 0 (kP (lF jH.ky) kr)) kJ ((o0,()),o1,o2,o3,()) (a0,()) 31)=B a0 o0 o1 o2 o3}:=mB
def Ce:=fu fun n=>(Ar n).1
def OI:OKP eZ 243 (lm 0 (kP (lF jH.ky) kr)) kJ false kJ (XP 2 (kP lP (kP (l5 l6) kr))) kJ (XP 1 (kP lP (kP (l5 l6) kr))) (fun n b a=>Ce n a.1 b.1.1 b.2.1 b.2.2.1 b.2.2.2.1):=fP fun n b a r h=>okS (((Ar n).2 a.1 b.1.1 b.2.1 b.2.2.1 b.2.2.2.1).trans h) (gd (jL (lg (c1 CU n)) jQ) jR) func243 ntmps243 results243
@[go_sem]def YJ:wX:=⟨[],[],(zK::zA::zA::zK::zA::zA::zA::zK::zK::me (l7 (l7 (l7 (zA::zA::[]))))),[],none,none⟩
@[reducible] def aaO:kD Bool:=ol eZ f260 n (nE eZ [.tmp 2] my) (cl:=nk [(270,mW (lO .u8) my (Mv n))]) (sx:=qk [([0,1,0,1,1],YJ)])
@[go_sem]abbrev YK(v0:Str)(v1:Bool)(v2:Int)(v3:Int):jI:=⟨(.str (sb v0)::qA::qA:: .bool v1::qA::qA::qA:: .int .i64 v2:: .int .i64 v3::mo (mq (mq (mq (qA::qA::[]))))),[],0,[]⟩
abbrev YL:=Str->Bool->Int->Int->Option Bool
abbrev agQ(K:List Kt)(Z:YL):Prop:= ∀v0 v1 v2 v3,run (aaO n) K (YK v0 v1 v2 v3)=Z v0 v1 v2 v3
def Gc:LB (agQ n) [0,1,0,1,1] [.blk 0,.cut [1,1,1],.at [1,1,1]]:=mB
def Gd:Nat->YL:=w8 ((Gc n).1)
def Uv{n:Nat}:Gd n (m+1)=(Gc n).1 (Gd n m):=rfl
@[go_sem]def abr(m:Nat):=Ij (Gc n) (Gd n) m
def Uw:{B:Str->Option Bool // ∀(a0:Str),run (aaO n) [.at []] (xI [lP.enc a0] 39)=B a0}:=mB
def VH:=fu fun n=>(Uw n).1
def agR:zO eZ 260 (kP lP kr) my (fun n a=>VH n a.1):=fC fun n a r h nb=>AQ (((Uw n).2 _).trans h) (gd (jL (lg (c1 ac9 n)) jQ) jR) func260 nb ntmps260 results260
@[reducible] def abt:kD Int:=ol eZ f222 n (nE eZ [.tmp 4] (lO .i64)) (cl:=nk [(244,mW (lF jH.ky) my (xM n)),(245,mW (lF jH.ky) my (yT n))])
def JF:{B:jH->Int->Option Int // ∀(a0:jH)(a1:Int),run (abt n) [.at []] (xI [(lF jH.ky).enc a0,(lO .i64).enc a1] 51)=B a0 a1}:=mB
def D1:=fu fun n=>(JF n).1
def OJ:zO eZ 222 (kP (lF jH.ky) (kP (lO .i64) kr)) (lO .i64) (fun n a=>D1 n a.1 a.2.1):=fC fun n a r h nb=>AQ (((JF n).2 _ _).trans h) (gd (jL (lg (c1 CU n)) (jL (lg (c1 F2 n)) jQ)) jR) func222 nb ntmps222 results222
@[go_sem]def D2:wX:=⟨[(6,1,true)],[],(l7 (zA::zT (tyF 165)::zK::me (l7 (zT (l5 j8.row)::zK::zK::me (l7 (l7 (zA::zA::zA::[]))))))),[oT jG.ky,oA l6],none,none⟩
@[reducible] def uK:kD (Td×To):=ol eZ f126 n (agu eZ [.tmp 4] (uF (xG jG.ky) tz) (Ml (l5 l6) II) 1) (cl:=nk [(165,rI (lF j8.ky) lP my (uJ n)),(166,rI lP lP my (strings_Contains n))]) (sx:=qk [([0,1,0,1,1,1,1],D2)])
@[go_sem]abbrev xS(v0:List j8)(v1:Int)(v2:Int)(o0:jG)(r1:List Str)(c1:Nat):jI:=⟨(mq (qA:: .func (.func 165) [] []:: .acc 1 c1::mo (mq (.lI false 3 (mp j8.cells v0):: .int .i64 v1:: .int .i64 v2::mo (mq (mq (qA::qA::qA::[]))))))),[.cells (jG.cells o0),.acc true 1 (mp mA r1)],1,[]⟩
abbrev uc:=(List j8)->Int->Int->jG->(List Str)->Option (Td×To)
abbrev xT(K:List Kt)(Z:uc):Prop:= ∀v0 v1 v2 o0 r1 c1,c1=r1.length->run (uK n) K (xS v0 v1 v2 o0 r1 c1)=Z v0 v1 v2 o0 r1
def q9:{B:uc->uc // ∀m X0,xT n (.lq m [0,1,0,1,1,1,1]::[.blk 0,.cut [1,1,1,1,1],.at [1,1,1,1,1]]) X0-> ∀(v0:List j8)(v1:Int)(v2:Int)(o0:jG)(r1:List Str),run (uK n) (.at [0,0,1,0,1,1,1,1]:: .lp m [0,1,0,1,1,1,1]::[.blk 0,.cut [1,1,1,1,1],.at [1,1,1,1,1]]) (xS v0 v1 v2 o0 r1 (r1.length))=B X0 v0 v1 v2 o0 r1}:=mB
def rj:Nat->uc:=w8 ((q9 n).1)
def Cf{n:Nat}:rj n (m+1)=(q9 n).1 (rj n m):=rfl
@[go_sem]def Km(m:Nat):xT n (.lq m [0,1,0,1,1,1,1]::[.blk 0,.cut [1,1,1,1,1],.at [1,1,1,1,1]]) (rj n m):=
 sE (G:=fun m Z=>xT n (.lq m [0,1,0,1,1,1,1]::[.blk 0,.cut [1,1,1,1,1],.at [1,1,1,1,1]]) Z) (fun _ _ _ _ _ _ _=>lw) (fun m _ ih=>by
  intro v0 v1 v2 o0 r1 c1 ec1;subst ec1;rw[lz];exact(q9 n).2 _ _ ih v0 v1 v2 o0 r1) m
def zc:{B:jG->Int->Option (Td×To) // ∀(a0:jG)(a1:Int),run (uK n) [.at []] (xI ((MZ 0 (asT (lO .i64) Kd)).enc (a0,()) (a1,())) 57 ((uF (xG jG.ky) tz).enc (a0,())))=B a0 a1}:=mB
def wA:=fu fun n=>(zc n).1
def Nv: ∀(n:Nat)(a0:jG)(a1:Int)(r:(Td×To)),wA n a0 a1=some r->FnG eZ 126 ((MZ 0 (asT (lO .i64) Kd)).enc (a0,()) (a1,())) ((uF (xG jG.ky) tz).enc (a0,())) (fun o H'=>o= .ret (tA ((Ml (l5 l6) II).enc r.1 r.2))/\H'=(uF (xG jG.ky) tz).enc r.1)
 |0,_,_,_,h=>by cases h
 |n+1,a0,a1,r,h=>by
  exact BD (M:=uK n) ⟨(jL (nA (c2 KW n)) (jL (nA (Dt n)) jQ)),jR,qg _,qy _,uh,uj,vn,u1⟩ func126 rfl rfl (by simp only[go_sem,fc,fg,e8,e9,fi,fj,fm,fo,fp,fa,fk,fq]) ((uF (xG jG.ky) tz).nb _ _) ntmps126 results126 (fun σ hs=>abU hs) (((zc n).2 a0 a1).trans h)
open Go.Proofs
@[reducible] def aet:kD Bool:=ol eZ f43 n (nE eZ [.tmp 4] my) (cl:=nk [(83,rI (l5 jP.row) (l5 jP.row) my (vB n))])
def Ny:{B:jM->jM->Option Bool // ∀(a0:jM)(a1:jM),run (aet n) [.at []] (xI [(lF jM.ky).enc a0,(lF jM.ky).enc a1] 17)=B a0 a1}:=mB
def Mx:=fu fun n=>(Ny n).1
def adh:zO eZ 43 (kP (lF jM.ky) (kP (lF jM.ky) kr)) my (fun n a=>Mx n a.1 a.2.1):=fC fun n a r h nb=>AQ (((Ny n).2 _ _).trans h) (gd (jL (nA (c2 L0 n)) jQ) jR) func43 nb ntmps43 results43
@[go_sem]def OK:wX:=⟨[],[],(zT (l5 jH.row)::zA::zA::zK::zK::zK::me (me (l7 (zA::zA::[])))),[oA l6],none,none⟩
@[go_sem]def OM:wX:=⟨[(3,1,true)],[],(zT (l5 jH.row)::zA::zA::zK::zK::me (me (l7 (zA::zA::zA::[])))),[oA l6],none,none⟩
@[reducible] def AY:kD (List Str):=ol eZ f22 n (nE eZ [.tmp 2] (l5 l6)) (cl:=nk [(48,rI (l5 l6) lP my (VF n))]) (sx:=qk [([0,1,0,0,1,0,0,1,0,1,1],OK),([0,1,0,1,1],OM)])
abbrev HN(v0:List jH)(v1:Int)(v2:Int)(r0:List Str)(c0:Nat):jI:=⟨(.lI false 4 (mp jH.cells v0)::qA::qA:: .acc 0 c0:: .int .i64 v1:: .int .i64 v2::mo (mo (mq (qA::qA::[])))),[.acc true 1 (mp mA r0)],0,[]⟩
abbrev zd(m2:Nat):List Kt:=[.blk 2,.blk 1,.cut [1,1,0,0,1,0,1,1],.at [1,1,0,0,1,0,1,1],.lp m2 [0,1,0,1,1],.blk 0,.cut [1,1,1],.at [1,1,1]]
abbrev CX:=(List jH)->Int->Int->(List Str)->Option (List Str)
abbrev HO(K:List Kt)(Z:CX):Prop:= ∀v0 v1 v2 r0 c0,c0=r0.length->run (AY n) K (HN v0 v1 v2 r0 c0)=Z v0 v1 v2 r0
abbrev HP(v0:List jH)(v1:Int)(r0:List Str)(c0:Nat):jI:=⟨(.lI false 4 (mp jH.cells v0)::qA::qA:: .acc 0 c0:: .int .i64 v1::mo (mo (mq (qA::qA::qA::[])))),[.acc true 1 (mp mA r0)],0,[]⟩
abbrev tS:=(List jH)->Int->(List Str)->Option (List Str)
abbrev ze(K:List Kt)(Z:tS):Prop:= ∀v0 v1 r0 c0,c0=r0.length->run (AY n) K (HP v0 v1 r0 c0)=Z v0 v1 r0
attribute [go_sem] HN zd HP
def zf:{B:tS->CX->CX // ∀m2 X2 m X0,ze n (.lq m2 [0,1,0,1,1]::[.blk 0,.cut [1,1,1],.at [1,1,1]]) X2->HO n (.lq m [0,1,0,0,1,0,0,1,0,1,1]::zd m2) X0-> ∀(v0:List jH)(v1:Int)(v2:Int)(r0:List Str),run (AY n) (.at [0,0,1,0,0,1,0,0,1,0,1,1]:: .lp m [0,1,0,0,1,0,0,1,0,1,1]::zd m2) (HN v0 v1 v2 r0 (r0.length))=B X2 X0 v0 v1 v2 r0}:=mB
def zg(X2:tS):Nat->CX:=w8 ((zf n).1 X2)
def K6{n:Nat}(X2:tS):zg n X2 (m+1)=(zf n).1 X2 (zg n X2 m):=rfl
def Wf{X2}(h2:ze n (.lq m2 [0,1,0,1,1]::[.blk 0,.cut [1,1,1],.at [1,1,1]]) X2)(m:Nat):HO n (.lq m [0,1,0,0,1,0,0,1,0,1,1]::zd m2) (zg n X2 m):=
 sE (G:=fun m Z=>HO n (.lq m [0,1,0,0,1,0,0,1,0,1,1]::zd m2) Z) (fun _ _ _ _ _ _=>lw) (fun m _ ih=>by
  intro v0 v1 v2 r0 c0 ec0;subst ec0;rw[lz];exact(zf n).2 _ _ _ _ h2 ih v0 v1 v2 r0) m
def zh:{B:tS->tS // ∀m X0,ze n (.lq m [0,1,0,1,1]::[.blk 0,.cut [1,1,1],.at [1,1,1]]) X0-> ∀(v0:List jH)(v1:Int)(r0:List Str),run (AY n) (.at [0,0,1,0,1,1]:: .lp m [0,1,0,1,1]::[.blk 0,.cut [1,1,1],.at [1,1,1]]) (HP v0 v1 r0 (r0.length))=B X0 v0 v1 r0}:=by
 apply fz;intro m X0 ih v0 v1 r0;simp (config:={maxSteps:=100000000}) only[go_sem,fc,fg,e8,e9,fi,fj,fm,fo,fp,fa,fk,fq,f22,fb,mixed,Wf n ih,ih];exact rfl
def zi:Nat->tS:=w8 ((zh n).1)
def K7{n:Nat}:zi n (m+1)=(zh n).1 (zi n m):=rfl
@[go_sem]def Wg(m:Nat):ze n (.lq m [0,1,0,1,1]::[.blk 0,.cut [1,1,1],.at [1,1,1]]) (zi n m):=
 sE (G:=fun m Z=>ze n (.lq m [0,1,0,1,1]::[.blk 0,.cut [1,1,1],.at [1,1,1]]) Z) (fun _ _ _ _ _=>lw) (fun m _ ih=>by
  intro v0 v1 r0 c0 ec0;subst ec0;rw[lz];exact(zh n).2 _ _ ih v0 v1 r0) m
def JG:{B:(List jH)->Option (List Str) // ∀(a0:(List jH)),run (AY n) [.at []] (xI [(l5 jH.row).enc a0] 44)=B a0}:=mB
def D3:=fu fun n=>(JG n).1
def Z8:zO eZ 22 (kP (l5 jH.row) kr) (l5 l6) (fun n a=>D3 n a.1):=fC fun n a r h nb=>AQ (((JG n).2 _).trans h) (gd (jL (nA (c2 agK n)) jQ) jR) func22 nb ntmps22 results22
open Go.Proofs
@[go_sem]def K8:wX:=⟨[],[],(zK::zK::me (l7 (l7 (l7 [])))),[],none,none⟩
@[reducible] def My:kD Int:=ol eZ f85 n (nE eZ [.tmp 4] (lO .i64)) (cl:=nk [(84,mW (lO .u8) my (ub n)),(90,mW (lO .u8) my (IN n))]) (sx:=qk [([0,0,1],K8)])
@[go_sem]abbrev K9(v0:Str)(v1:Int):jI:=⟨(.str (sb v0):: .int .i64 v1::mo (mq (mq (mq [])))),[],0,[]⟩
abbrev XA(K:List Kt)(Z:q8):Prop:= ∀v0 v1,run (My n) K (K9 v0 v1)=Z v0 v1
def wh:LB (XA n) [0,0,1] [.blk 0,.cut [1,1],.at [1,1]]:=mB
def wi:Nat->q8:=w8 ((wh n).1)
def Jb{n:Nat}:wi n (m+1)=(wh n).1 (wi n m):=rfl
@[go_sem]def R4(m:Nat):=Ij (wh n) (wi n) m
def Ge:{B:Str->Int->Option Int // ∀(a0:Str)(a1:Int),run (My n) [.at []] (xI [lP.enc a0,(lO .i64).enc a1] 30)=B a0 a1}:=mB
def AZ:=fu fun n=>(Ge n).1
def La:zO eZ 85 (kP lP (kP (lO .i64) kr)) (lO .i64) (fun n a=>AZ n a.1 a.2.1):=fC fun n a r h nb=>AQ (((Ge n).2 _ _).trans h) (gd (jL (lg (c1 Es n)) (jL (lg (c1 TX n)) jQ)) jR) func85 nb ntmps85 results85
@[reducible] def ON:kD Bool:=ol eZ f115 n (nE eZ [.tmp 4] my) (cd:=KO [(116,pU (mW (lF jH.ky) my (Ag n))),(117,pU (mW (lF jH.ky) lP (HI n))),(147,pU (rI (lF jH.ky) lP my (IW n)))]) (yb:=lV []) (yd:=lV [])
@[go_sem]def Z9:tw (ON n) [0,1]=true:=jE
def HQ:{B:jH->jH->Option Bool // ∀(a0:jH)(a1:jH),run (ON n) [.at []] (xI [(lF jH.ky).enc a0,(lF jH.ky).enc a1] 23)=B a0 a1}:=mB
def zj:=fu fun n=>(HQ n).1
def Mz:zO eZ 115 (kP (lF jH.ky) (kP (lF jH.ky) kr)) my (fun n a=>zj n a.1 a.2.1):=fC fun n a r h nb=>AQ (((HQ n).2 _ _).trans h) (gd jQ (nP (mh (c1 DS n)) (nP (mh (c1 WP n)) (nP (ui (c2 adf n)) jR)))) func115 nb ntmps115 results115
@[go_sem]def HR(F:Option ((T9×Unit)×Unit)):=Yr [] EC kr (BP ogM EC) (XP 0 kr) (fun(b:Unit)(a:Unit)=>F)
@[reducible] def OO:kD ((T9×Unit)×Unit):=ol eZ f148 n (Ds eZ [.tmp 0] [.arg 0 []] [] 0 (BP ogM EC) (XP 0 kr)) (cl:=nk [(183,mW lP (aiJ 207 (yg cS)) (Mq n)),(207,GY (JX n))]) (js:=awL [([0,1,0,1,1],[])])
@[go_sem]def XB:lkM (OO n) [0,1,0,1,1]=lW:=rfl
def OP:{B:Option ((T9×Unit)×Unit) // run (OO n) [.at []] (rB kr EC () () 9)=B}:=mB
def Cg:=fu fun n=>(OP n).1
def MA:OKX eZ 148 kr EC (BP ogM EC) (XP 0 kr) (fun n b a=>Cg n):=fX fun n b a r h=>okG ((OP n).2.trans h) (gd (jL (lg (c1 TZ n)) (jL (BE (Qm n)) jQ)) jR) func148 ntmps148 results148
@[reducible] def Qr:kD Bool:=ol eZ f188 n (nE eZ [.tmp 4] my) (cl:=nk [(211,rI lP (lO .i32) (lO .i64) (mI n))])
def Gf:{B:Str->Int->Option Bool // ∀(a0:Str)(a1:Int),run (Qr n) [.at []] (xI [lP.enc a0,(lO .i32).enc a1] 9)=B a0 a1}:=mB
def um:=fu fun n=>(Gf n).1
def OQ:zO eZ 188 (kP lP (kP (lO .i32) kr)) my (fun n a=>um n a.1 a.2.1):=fC fun n a r h nb=>AQ (((Gf n).2 _ _).trans h) (gd (jL (nA (c2 I8 n)) jQ) jR) func188 nb ntmps188 results188
@[go_sem]def Bw:wX:=⟨[],[],(zK::l7 (zK::Bm (me (l7 (l7 (l7 [])))))),[oC [zK,zK,zK,zK,zK],oK,oK,oK],none,none⟩
@[reducible] def Ch:kD Tg:=ol eZ f152 n (Ds eZ [.tmp 2,.tmp 3,.tmp 4] [] [0,1,2,3] 4 ku mC) (cl:=nk [(156,mW (lO .u8) (lO .i64) (zW n)),(184,mW (lO .u8) my (vC n))]) (sx:=qk [([0,0,0,0,0,0,1,1],Bw),([0,0,1,1],Bw)]) (yb:=lV []) (yd:=lV [])
@[go_sem]def Ux:aml (Ch n) [0,0,1,0,0,1,1,1,1] [0,1,1,1]:=⟨jE,jE⟩
@[go_sem]abbrev G3(v0:Int)(v1:Str)(v2:Int)(r1:List (Str×Bool))(r2:List (Str×Bool))(r3:List (Str×Bool)):jI:=⟨(.ptr 0 0::mq (.int .i64 v0::Bl (mo (mq (mq (mq [])))))),[.cells [.str (sb v1),.int .i64 v2,.map 1,.map 2,.map 3],.map (mp CM r1),.map (mp CM r2),.map (mp CM r3)],4,[]⟩
@[go_sem]abbrev G4(m2:Nat):List Kt:=[.blk 2,.cut [1,0,0,0,0,1,1],.at [1,0,0,0,0,1,1],.blk 1,.lp m2 [0,0,1,1],.blk 0,.cut [1,1,1],.at [1,1,1]]
abbrev wB(K:List Kt)(Z:mX):Prop:= ∀v0 v1 v2 r1 r2 r3,run (Ch n) K (G3 v0 v1 v2 r1 r2 r3)=Z v0 v1 v2 r1 r2 r3
def tC:LB2 (wB n) [0,0,1,1] [.blk 0,.cut [1,1,1],.at [1,1,1]] (wB n) [0,0,0,0,0,0,1,1] G4:=mB
def qW(X2:mX):Nat->mX:=w8 ((tC n).1 X2)
def E6{n:Nat}(X2:mX):qW n X2 (m+1)=(tC n).1 X2 (qW n X2 m):=rfl
def Nz{X2}(h2:wB n (.lq m2 [0,0,1,1]::[.blk 0,.cut [1,1,1],.at [1,1,1]]) X2)(m:Nat):=arn (tC n) h2 (qW n X2) m
def wC:LB (wB n) [0,0,1,1] [.blk 0,.cut [1,1,1],.at [1,1,1]]:=by
 apply fz;intro m X0 ih v0 v1 v2 r1 r2 r3;simp (config:={maxSteps:=100000000}) only[go_sem,fc,fg,e8,e9,fi,fj,fm,fo,fp,fa,fk,fq,f152,fb,mixed,Nz n ih,ih];exact rfl
def pV:Nat->mX:=w8 ((wC n).1)
def OR{n:Nat}:pV n (m+1)=(wC n).1 (pV n m):=rfl
@[go_sem]def NA(m:Nat):=Ij (wC n) (pV n) m
def Ci:{B:Str->Int->T9->T9->T9->Option Tg // ∀(o0:Str)(o1:Int)(o2:T9)(o3:T9)(o4:T9),run (Ch n) [.at []] (rB (lm 0 kr) ku ((o0,o1,()),o2,o3,o4,()) () 98)=B o0 o1 o2 o3 o4}:=mB
def As:=fu fun n=>(Ci n).1
def R5:OKX eZ 152 (lm 0 kr) ku ku mC (fun n b a=>As n b.1.1 b.1.2.1 b.2.1 b.2.2.1 b.2.2.2.1):=fX fun n b a r h=>okG (((Ci n).2 b.1.1 b.1.2.1 b.2.1 b.2.2.1 b.2.2.2.1).trans h) (gd (jL (lg (c1 B0 n)) (jL (lg (c1 JD n)) jQ)) jR) func152 ntmps152 results152
@[go_sem]def E7:wX:=⟨[],[],(zK::l7 (zK::Bm (l7 (l7 (l7 (zA::zA::[])))))),[oC [zK,zK,zK,zK,zK],oK,oK,oK],none,none⟩
@[reducible] def At:kD Tg:=ol eZ f153 n (Ds eZ [.tmp 2,.tmp 3,.tmp 4] [] [0,1,2,3] 4 ku mC) (cl:=nk [(156,mW (lO .u8) (lO .i64) (zW n)),(184,mW (lO .u8) my (vC n))]) (sx:=qk [([0,0,1,1],E7)]) (yb:=lV []) (yd:=lV [])
@[go_sem]def Qs:aul (At n) [0,0,1,0,0,1,1,1] [0,0,1,1,1,0,0,1,1,1] [0,1,1,0,0,1,1,1]:=⟨jE,jE,jE⟩
@[go_sem]abbrev E8(v0:Int)(v1:Str)(v2:Int)(r1:List (Str×Bool))(r2:List (Str×Bool))(r3:List (Str×Bool)):jI:=⟨(.ptr 0 0::mq (.int .i64 v0::Bl (mq (mq (mq (qA::qA::[])))))),[.cells [.str (sb v1),.int .i64 v2,.map 1,.map 2,.map 3],.map (mp CM r1),.map (mp CM r2),.map (mp CM r3)],4,[]⟩
abbrev OS(K:List Kt)(Z:mX):Prop:= ∀v0 v1 v2 r1 r2 r3,run (At n) K (E8 v0 v1 v2 r1 r2 r3)=Z v0 v1 v2 r1 r2 r3
def rN:LB (OS n) [0,0,1,1] [.blk 0,.cut [1,1,1],.at [1,1,1]]:=mB
def rO:Nat->mX:=w8 ((rN n).1)
def Df{n:Nat}:rO n (m+1)=(rN n).1 (rO n m):=rfl
@[go_sem]def Lb(m:Nat):=Ij (rN n) (rO n) m
def Au:{B:Str->Int->T9->T9->T9->Option Tg // ∀(o0:Str)(o1:Int)(o2:T9)(o3:T9)(o4:T9),run (At n) [.at []] (rB (lm 0 kr) ku ((o0,o1,()),o2,o3,o4,()) () 84)=B o0 o1 o2 o3 o4}:=mB
def xk:=fu fun n=>(Au n).1
def OT:OKX eZ 153 (lm 0 kr) ku ku mC (fun n b a=>xk n b.1.1 b.1.2.1 b.2.1 b.2.2.1 b.2.2.2.1):=fX fun n b a r h=>okG (((Au n).2 b.1.1 b.1.2.1 b.2.1 b.2.2.1 b.2.2.2.1).trans h) (gd (jL (lg (c1 B0 n)) (jL (lg (c1 JD n)) jQ)) jR) func153 ntmps153 results153
open Go.Proofs
@[go_sem]def JY:wX:=⟨[],[],(zA::zK::me (me (l7 (l7 (zA::zA::zA::zK::l7 (l7 (zA::[]))))))),[oK],none,none⟩
@[go_sem]def JZ:wX:=⟨[],[],(zK::l7 (zA::zK::zA::zK::me (me (l7 (l7 (l7 (zA::zA::[]))))))),[oC [zA]],none,none⟩
@[reducible] def EG:kD Int:=ol eZ f187 n (nE eZ [.tmp 4] (lO .i64)) (cl:=nk [(211,rI lP (lO .i32) (lO .i64) (mI n)),(212,mW (lO .i64) my (strings_shouldUseASCIISet n))]) (sx:=qk [([0,1,0,1,1,1,1],JY),([0,1,0,0,1,1,0,1,0,1,1,1],JZ)])
abbrev J0(v0:Str)(iv0:Str)(ip0:Nat):jI:=⟨(qA:: .str (sb v0)::mo (mo (mq (mq (qA::qA::qA:: .ptr 0 0::mq (mq (qA::[]))))))),[.iter (sb iv0) ip0],0,[]⟩
abbrev J1:=Str->Str->Nat->Option Int
abbrev Wh(K:List Kt)(Z:J1):Prop:= ∀v0 iv0 ip0,run (EG n) K (J0 v0 iv0 ip0)=Z v0 iv0 ip0
abbrev J2(v0:Str)(v1:Int):jI:=⟨(.str (sb v0)::mq (qA:: .ptr 0 0::qA:: .int .i64 v1::mo (mo (mq (mq (mq (qA::qA::[]))))))),[.cells [qA]],0,[]⟩
abbrev J3:List Kt:=[.blk 0,.cut [1,0,1,1,0,1,0,1,1,1],.at [1,0,1,1,0,1,0,1,1,1],.cut [1,1,1,1],.at [1,1,1,1]]
abbrev Wi(K:List Kt)(Z:q8):Prop:= ∀v0 v1,run (EG n) K (J2 v0 v1)=Z v0 v1
attribute [go_sem] J0 J2 J3
def yu:LB (Wh n) [0,1,0,1,1,1,1] [.blk 2,.cut [1,1,1,1,1],.at [1,1,1,1,1]]:=mB
def vf:Nat->J1:=w8 ((yu n).1)
def R6{n:Nat}:vf n (m+1)=(yu n).1 (vf n m):=rfl
@[go_sem]def Qt(m:Nat):=Ij (yu n) (vf n) m
def DB:LB (Wi n) [0,1,0,0,1,1,0,1,0,1,1,1] J3:=mB
def DC:Nat->q8:=w8 ((DB n).1)
def ahv{n:Nat}:DC n (m+1)=(DB n).1 (DC n m):=rfl
@[go_sem]def Qu(m:Nat):=Ij (DB n) (DC n) m
def EH:{B:Str->Str->Option Int // ∀(a0:Str)(a1:Str),run (EG n) [.at []] (xI [lP.enc a0,lP.enc a1] 55)=B a0 a1}:=mB
def strings_IndexAny:=fu fun n=>(EH n).1
def Wj: ∀(n:Nat)(a0:Str)(a1:Str)(r:Int),strings_IndexAny n a0 a1=some r->GP eZ 187 [lP.enc a0,lP.enc a1] (fun v=>v=(lO .i64).enc r)
 |0,_,_,_,h=>by cases h
 |n+1,a0,a1,r,h=>by
  exact AQ (((EH n).2 a0 a1).trans h) (gd (jL (nA (c2 I8 n)) (jL (lg (c1 Jx n)) jQ)) jR) func187 ⟨lP.nb 0 _,lP.nb 0 _,trivial⟩ ntmps187 results187
@[go_sem]def kS(F:Int->jG->Option Ts):=tB true [.arg 0 []] jF (lm 0 (kP (lO .i64) kr)) jF kr jF jN (fun(b:T6)(a:(Int×Unit))=>F a.1 b.1.1)
@[reducible] def Qv:kD Ts:=ol eZ f103 n (pd eZ [] [] [0] 1 jF kr) (cl:=nk [(58,zN (pU (mW (yg jG.ky) (lO .i64) (nN n))))]) (nB:=pe [] [0] 1 jF jN)
def Av:{B:Int->jG->Option Ts // ∀(a0:Int)(o0:jG),run (Qv n) [.at []] (rB (lm 0 (kP (lO .i64) kr)) jF ((o0,()),()) (a0,()) 9)=B a0 o0}:=pu
def lK:=fu fun n=>(Av n).1
def rP:OKP eZ 103 (lm 0 (kP (lO .i64) kr)) jF true jF kr jF jN (fun n b a=>lK n a.1 b.1.1):=fP fun n b a r h=>P2 (((Av n).2 a.1 b.1.1).trans h) (gd (jL (nQ (mh (c1 qV n))) jQ) jR) func103 ntmps103 results103
@[reducible] def Qw:kD Bool:=ol eZ f79 n (nE eZ [.tmp 4] my) (cl:=nk [(74,S7 (yg jG.ky) (lO .i64) lP my (rL n))])
def Aw:{B:jG->Str->Option Bool // ∀(a0:jG)(a1:Str),run (Qw n) [.at []] (xI [(yg jG.ky).enc a0,lP.enc a1] 8)=B a0 a1}:=mB
def lY:=fu fun n=>(Aw n).1
def mZ:zO eZ 79 (kP (yg jG.ky) (kP lP kr)) my (fun n a=>lY n a.1 a.2.1):=fC fun n a r h nb=>AQ (((Aw n).2 _ _).trans h) (gd (jL (Vz (c3 ve n)) jQ) jR) func79 nb ntmps79 results79
@[go_sem]def Ru:wX:=⟨[(5,9,true)],[],(zA::zA::zA::zK::zA::zK::zA::zA::zT (l5 l6)::zK::zK::l7 (l7 (l7 []))),[oT Syntax.ky,oA jO.row],none,none⟩
@[reducible] def Lc:kD Tm:=ol eZ f124 n (nE eZ [.tmp 4] (l5 jO.row)) (cl:=nk [(160,mW (lF Syntax.ky) (lF Syntax.ky) (sB n))]) (sx:=qk [([0,1,0,1,1],Ru)])
@[go_sem]abbrev JH(v0:List Str)(v1:Int)(v2:Int)(o0:Syntax)(r1:List jO)(c1:Nat):jI:=⟨(qA::qA::qA:: .ptr 0 0::qA:: .acc 1 c1::qA::qA:: .lI false 1 (mp mA v0):: .int .i64 v1:: .int .i64 v2::mq (mq (mq []))),[.cells (Syntax.cells o0),.acc true 9 (mp jO.cells r1)],0,[]⟩
abbrev Et:=(List Str)->Int->Int->Syntax->Tm->Option Tm
abbrev JI(K:List Kt)(Z:Et):Prop:= ∀v0 v1 v2 o0 r1 c1,c1=r1.length->run (Lc n) K (JH v0 v1 v2 o0 r1 c1)=Z v0 v1 v2 o0 r1
def A0:{B:Et->Et // ∀m X0,JI n (.lq m [0,1,0,1,1]::[.blk 0,.cut [1,1,1],.at [1,1,1]]) X0-> ∀(v0:List Str)(v1:Int)(v2:Int)(o0:Syntax)(r1:List jO),run (Lc n) (.at [0,0,1,0,1,1]:: .lp m [0,1,0,1,1]::[.blk 0,.cut [1,1,1],.at [1,1,1]]) (JH v0 v1 v2 o0 r1 (r1.length))=B X0 v0 v1 v2 o0 r1}:=mB
def A1:Nat->Et:=w8 ((A0 n).1)
def MB{n:Nat}:A1 n (m+1)=(A0 n).1 (A1 n m):=rfl
@[go_sem]def XC(m:Nat):JI n (.lq m [0,1,0,1,1]::[.blk 0,.cut [1,1,1],.at [1,1,1]]) (A1 n m):=
 sE (G:=fun m Z=>JI n (.lq m [0,1,0,1,1]::[.blk 0,.cut [1,1,1],.at [1,1,1]]) Z) (fun _ _ _ _ _ _ _=>lw) (fun m _ ih=>by
  intro v0 v1 v2 o0 r1 c1 ec1;subst ec1;rw[lz];exact(A0 n).2 _ _ ih v0 v1 v2 o0 r1) m
def Ld:{B:(List Str)->Syntax->Option Tm // ∀(a0:(List Str))(a1:Syntax),run (Lc n) [.at []] (xI [(l5 l6).enc a0,(lF Syntax.ky).enc a1] 23)=B a0 a1}:=mB
def CY:=fu fun n=>(Ld n).1
def Rv:zO eZ 124 (kP (l5 l6) (kP (lF Syntax.ky) kr)) (l5 jO.row) (fun n a=>CY n a.1 a.2.1):=fC fun n a r h nb=>AQ (((Ld n).2 _ _).trans h) (gd (jL (lg (OE n)) jQ) jR) func124 nb ntmps124 results124
@[reducible] def WS:kD Syntax:=ol eZ f121 n (nE eZ [.cell 6 29] (lF Syntax.ky)) (cl:=nk [(158,mW (l5 jO.row) (aiJ 190 (yg (cL jO.row))) (Bp n)),(190,Dc (za n))]) (js:=awL [([0,1,0,1],[])])
@[go_sem]def abu:lkM (WS n) [0,1,0,1]=nJ:=rfl
def NB:{B:Syntax->Tm->Syntax->Option Syntax // ∀(a0:Syntax)(a1:Tm)(a2:Syntax),run (WS n) [.at []] (xI [(lF Syntax.ky).enc a0,(l5 jO.row).enc a1,(lF Syntax.ky).enc a2] 29)=B a0 a1 a2}:=mB
def zX:=fu fun n=>(NB n).1
def Lf:zO eZ 121 (kP (lF Syntax.ky) (kP (l5 jO.row) (kP (lF Syntax.ky) kr))) (lF Syntax.ky) (fun n a=>zX n a.1 a.2.1 a.2.2.1):=fC fun n a r h nb=>AQ (((NB n).2 _ _ _).trans h) (gd (jL (lg (c1 Nj n)) (jL (BE (K5 n)) jQ)) jR) func121 nb ntmps121 results121
@[reducible] def D4:kD Bool:=ol eZ f161 n (nE eZ [.tmp 2] my) (cl:=nk [(56,mW (yg jG.ky) (lF j8.ky) (k8 n))]) (cd:=KO [(195,pU (rI (l5 l6) lP my (mj n)))]) (yb:=lV []) (yd:=lV [])
@[go_sem]def NC:tw (D4 n) [0,1,1]=true:=jE
def xU:{B:jG->Option Bool // ∀(a0:jG),run (D4 n) [.at []] (xI [(yg jG.ky).enc a0] 25)=B a0}:=mB
def sR:=fu fun n=>(xU n).1
def Dg:zO eZ 161 (kP (yg jG.ky) kr) my (fun n a=>sR n a.1):=fC fun n a r h nb=>AQ (((xU n).2 _).trans h) (gd (jL (lg (c1 lc n)) jQ) (nP (ui (c2 De n)) jR)) func161 nb ntmps161 results161
end Go.Abs
end
