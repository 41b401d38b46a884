/- A part of the proof: what the functions compute. -/
import Derived.Test.YtpdbjkgnmjnebaaGreatDoorDataA
import Derived.Test.YtpdbjkgnmjnebaaGreatDoorExtA
import Derived.Test.YtpdbjkgnmjnebaaGreatDoorCoreD
set_option linter.all false
open Go.Proofs.Tryz renaming prog→fq
open Nat renaming reduceLeDiff→fw,reduceEqDiff→fx,reduceAdd→fB,reduceSub→fC,reduceBEq→fD,reduceMul→fE,reduceLT→fG,le_trans→fL,le_of_eq→fM
open Int renaming reduceToNat→fy,reduceBEq→fF,reduceLE→fH,reduceLT→fI,reduceEq→fJ
open Option renaming getD_some→fA
open List renaming replicate→fK
open Subtype renaming mk→fN
open Go.Abs.AV renaming any→qA
noncomputable section
open Go.Proofs.Tryz
namespace Go.Abs
variable {m m2:Nat}{J:jJ}
variable (n:Nat)
open Go.Proofs
attribute [go_sem] f270 f271 f228 f238 f239 f137 f191 f217 f31 f33 f34 f41 f42 f241 f199 f193 f240 f302 f303 f280 f200 f277 f55 f83 f94 f37 f247 f249 f248 f205 f206 f152 f346 f142 f251 f75 f78 f140 f196 f284 f213 f46 f38 f186 f187 f127 f315 f234 f181 f224 f129 f11 f236 f162 f138 f192 f74 f32 f274 f194 f195 f276 f244 f84 f88 f85 f207 f208 f150 f246 f210 f79 f77 f141 f285 f157 f14 f131 f297 f171 f39
set_option maxRecDepth 100000
set_option maxHeartbeats 4000000
@[reducible] def aj1:kG Bool:=oN fq f270 n (oB fq [.tmp 2] nD)
def QD:RM (aj1 n) (mP .u8) 17:=mB
def PZ:=fu fun n=>(QD n).1
def ah7:∀n:Nat,Ap fq 270 (mP .u8) nD (PZ n):=BO fun n=>Bk (QD n) (gd jP jQ) func270 ntmps270 results270
@[reducible] def alq:kG Bool:=oN fq f271 n (oB fq [.tmp 2] nD)
def Uu:RM (alq n) (mP .u8) 9:=mB
def Sm:=fu fun n=>(Uu n).1
def aj2:∀n:Nat,Ap fq 271 (mP .u8) nD (Sm n):=BO fun n=>Bk (Uu n) (gd jP jQ) func271 ntmps271 results271
@[go_sem]def VO:Af:=⟨[],[],(zK::zA::zA::zT (l8 mc)::zK::nj (nj (nj (zA::[])))),[],none,none⟩
@[reducible] def aJq:kG Bool:=oN fq f228 n (oB fq [.tmp 2] nD) (tv:=sj [([0,1,0,1,1],VO)])
@[go_sem]abbrev VP(v0:Str)(v1:List Str)(v2:Int):jJ:=⟨(.str (sb v0)::qA::qA::.kW false 1 (mp nY v1)::.int .i64 v2::nN (nN (nN (qA::[])))),[],0,[]⟩
abbrev Hl:=Str->(List Str)->Int->Option Bool
abbrev agB(K:List Kt)(Z:Hl):Prop:=∀v0 v1 v2,run (aJq n) K (VP v0 v1 v2)=Z v0 v1 v2
def Ho:LB (agB n) [0,1,0,1,1] [.tX 0,.cut [1,1,1],.at [1,1,1]]:=mB
def Hp:Nat->Hl:=AU ((Ho n).1)
def aek{n:Nat}:Hp n (m+1)=(Ho n).1 (Hp n m):=rfl
@[go_sem]def acN(m:Nat):=Dv (Ho n) (Hp n) m
def aJM:RM (aJq n) mq 18:=mB
def NJ:=fu fun n=>(aJM n).1
def agC:∀n:Nat,Ap fq 228 mq nD (NJ n):=BO fun n=>Bk (aJM n) (gd jP jQ) func228 ntmps228 results228
@[go_sem]def adx:Af:=⟨[],[],(zK::zA::zA::zK::zK::nj (nj (zA::zA::zA::[]))),[],none,none⟩
@[reducible] def afr:kG Bool:=oN fq f238 n (oB fq [.tmp 2] nD) (tv:=sj [([0,1,0,1,1],adx)])
@[go_sem]abbrev ady(v0:Int)(v1:Str)(v2:Int):jJ:=⟨(.int .u8 v0::qA::qA::.str (sb v1)::.int .i64 v2::nN (nN (qA::qA::qA::[]))),[],0,[]⟩
abbrev adz:=Int->Str->Int->Option Bool
abbrev alr(K:List Kt)(Z:adz):Prop:=∀v0 v1 v2,run (afr n) K (ady v0 v1 v2)=Z v0 v1 v2
def Uv:LB (alr n) [0,1,0,1,1] [.tX 0,.cut [1,1,1],.at [1,1,1]]:=mB
def Uw:Nat->adz:=AU ((Uv n).1)
def axr{n:Nat}:Uw n (m+1)=(Uv n).1 (Uw n m):=rfl
@[go_sem]def agD(m:Nat):=Dv (Uv n) (Uw n) m
def afs:RM (afr n) (mP .u8) 16:=mB
def XL:=fu fun n=>(afs n).1
def als:∀n:Nat,Ap fq 238 (mP .u8) nD (XL n):=BO fun n=>Bk (afs n) (gd jP jQ) func238 ntmps238 results238
@[reducible] def alu:kG (List Str):=oN fq f239 n (oB fq [.tmp 0] (awv mc))
def Ux:SC0 (alu n) 2:=mB
def Sn:=fu fun n=>(Ux n).1
def aj3:∀n:Nat,atX fq 239 (awv mc) (Sn n):=aB3 fun n=>aB2 (Ux n) (gd jP jQ) func239 ntmps239 results239
@[reducible] def aoi:kG Bool:=oN fq f137 n (oB fq [.tmp 2] nD)
def XM:RM (aoi n) (lD jI.kv) 8:=mB
def DX:=fu fun n=>(XM n).1
def ID:∀n:Nat,Ap fq 137 (lD jI.kv) nD (DX n):=BO fun n=>Bk (XM n) (gd jP jQ) func137 ntmps137 results137
open Go.Proofs
@[reducible] def alv:kG Bool:=oN fq f191 n (oB fq [.tmp 2] nD)
def Uy:RM (alv n) (lD jI.kv) 12:=mB
def So:=fu fun n=>(Uy n).1
def aj4:∀n:Nat,Ap fq 191 (lD jI.kv) nD (So n):=BO fun n=>Bk (Uy n) (gd jP jQ) func191 ntmps191 results191
@[reducible] def aj5:kG Bool:=oN fq f217 n (oB fq [.tmp 2] nD)
def QE:RM (aj5 n) (mP .u8) 21:=mB
def P0:=fu fun n=>(QE n).1
def ah8:∀n:Nat,Ap fq 217 (mP .u8) nD (P0 n):=BO fun n=>Bk (QE n) (gd jP jQ) func217 ntmps217 results217
@[reducible] def aj6:kG Bool:=oN fq f31 n (oB fq [.tmp 2] nD)
def QF:RM (aj6 n) (lD jI.kv) 13:=mB
def XN:=fu fun n=>(QF n).1
def ah9:∀n:Nat,Ap fq 31 (lD jI.kv) nD (XN n):=BO fun n=>Bk (QF n) (gd jP jQ) func31 ntmps31 results31
@[reducible] def alw:kG Syntax:=oN fq f33 n (oB fq [.cell 2 37] (lD Syntax.kv))
def adA:RM (alw n) mq 5:=mB
def aaR:=fu fun n=>(adA n).1
def aaS:∀n:Nat,Ap fq 33 mq (lD Syntax.kv) (aaR n):=BO fun n=>Bk (adA n) (gd jP jQ) func33 ntmps33 results33
@[reducible] def aj7:kG (List jI):=oN fq f34 n (oB fq [.tmp 0] (l8 jI.row))
def aaT:SC0 (aj7 n) 6:=mB
def XO:=fu fun n=>(aaT n).1
def aJr:∀n:Nat,atX fq 34 (l8 jI.row) (XO n):=aB3 fun n=>aB2 (aaT n) (gd jP jQ) func34 ntmps34 results34
@[go_sem]def ke:=(zh (KI (alC Syntax.kv 8 kr)) (zh (KI (alC (cI .i64) 1 kr)) (zh (KI (alC (cI .i64) 1 kr)) Du)))
@[reducible] def DY:kG (Ti×Unit):=oN fq f41 n (xT fq [] [] [0,1,2] 3 ke kr)
def Jo:{B:Syntax->Int->Int->Option (Ti×Unit) //∀(o0:Syntax)(o1:Int)(o2:Int),run (DY n) [.j8 (tP (DY n) [0]) ((tP (DY n) [0]).toList.drop 1),.cut [1],.at [1]] (jJ.put {jV:=((lH 0 (lH 1 (lH 2 kr))).enc (ke.l9 ((o0,()),(o1,()),(o2,()),())) ())++fK (15-((lH 0 (lH 1 (lH 2 kr))).enc (ke.l9 ((o0,()),(o1,()),(o2,()),())) ()).length) qA,heap:=(ke.enc (ke.l9 ((o0,()),(o1,()),(o2,()),())) ((o0,()),(o1,()),(o2,()),())),low:=(ke.enc (ke.l9 ((o0,()),(o1,()),(o2,()),())) ((o0,()),(o1,()),(o2,()),())).length} (some 5) (.sO .nilIface))=B o0 o1 o2}:=mB
def xz:=fu fun n=>(Jo n).1
def acO:∀(n:Nat)(o0:Syntax)(o1:Int)(o2:Int)(r:(Ti×Unit)),xz n o0 o1 o2=some r->FnT fq (ald fq 41) ((lH 0 (lH 1 (lH 2 kr))).enc (ke.l9 ((o0,()),(o1,()),(o2,()),())) ()) (ke.enc (ke.l9 ((o0,()),(o1,()),(o2,()),())) ((o0,()),(o1,()),(o2,()),())) (fun o H'=>o=(enR ke kr r).1/\H'=(enR ke kr r).2)
 |0,_,_,_,_,h=>by cases h
 |n+1,o0,o1,o2,r,h=>by
  exact afo (M:=DY n) (p1:=[]) (b1:=[0,1,2]) (args:=((lH 0 (lH 1 (lH 2 kr))).enc (ke.l9 ((o0,()),(o1,()),(o2,()),())) ())) ⟨jP,jQ,qI _,rz _,uK,uM,vU,vg⟩ func41 rfl (jF) (sY (fL (jC (jF)) (fM (ke.sz _ _).symm)) _ ((lH 0 (lH 1 (lH 2 kr))).nb (ke.l9 ((o0,()),(o1,()),(o2,()),())) ())) (fun x hx=>Ff (fL (jC (jF)) (fM (ke.sz _ _).symm)) _ (ke.nb _ _ x hx)) ntmps41 results41 (low:=3) (by rfl) rfl (((Jo n).2 o0 o1 o2).trans h)
open Go.Proofs
@[go_sem]def jO:=(lw (Ut 85 (lD jW.kv)) kr)
@[go_sem]abbrev Jc(F:jW->Option (Unit×T8))(b:Unit)(a:T8):=F a.1
@[go_sem]def aJs(F:jW->Option (Unit×T8)):=Kr [] Du jO Du (lw (lD jW.kv) kr) (Jc F)
@[reducible] def aia:kG (Unit×T8):=oN fq f42 n (xT fq [.cell 2 85] [] [] 0 Du (lw (lD jW.kv) kr))
def Jd:SX (aia n) jO Du 14 Jc:=mC
def NK:=fu fun n=>(Jd n).1
def agE:∀n:Nat,Bl fq 42 jO Du Du (lw (lD jW.kv) kr) (Jc (NK n)):=VN fun n=>Jn (Jd n) (gd jP jQ) func42 ntmps42 results42
@[reducible] def acP:kG Str:=oN fq f241 n (oB fq [.tmp 2] (ap9 274 (Ch cS))) (cut:=aaH [([1,1],[0])])
def Pl:RM (acP n) mq 4:=mB
def Sp:=fu fun n=>(Pl n).1
def aaU:∀n:Nat,Ap fq 241 mq (ap9 274 (Ch cS)) (Sp n):=BO fun n=>Bk (Pl n) (gd jP jQ) func241 ntmps241 results241
def nB:yN:=(aAH [] (sub [0,1,0,1,1] ((f199.body).getD .skip)))
@[go_sem]def zj:nB.ps.size=1/\∀j:Int,qy nB.js j=none:=⟨jF,fun j=>(by show qy [] j=none;unfold qy auz;cases (j==0)<;>rfl)⟩
@[go_sem]def kH:=(zh (awn nB (alZ (lH 1 (afe 7 kr)))) (zh (KI (alM 2 kr)) (zh ogM Du)))
@[go_sem]def lJ:=(zh (ogL nB (alZ (lH 1 (afe 7 kr)))) (zh (KI (alM 2 kr)) (zh ogM Du)))
def lA:kG (Tz×(Bool×Unit)) where
 body:=.seq (ajR (sub [0,1,0,1,1] ((f199.body).getD .skip))) (atz (sub [0,1,0,1,1] ((f199.body).getD .skip)))
 P:=fq
 cl:=nE []
 cd:=M5 []
 tv:=sj []
 cut:=aaH []
 n:=n
 out:=(fun _=>none)
 oB:=afi [] [] [0,1,2] 3 lJ
 xb:=mE []
def N5:(lA n).P=fq/\(lA n).cl=nE []/\(lA n).cd=M5 []/\(lA n).tv=sj []/\(lA n).cut=aaH []/\(lA n).n=n/\(lA n).out=(fun _=>none)/\(lA n).oB=afi [] [] [0,1,2] 3 lJ/\(lA n).xb=mE []:=⟨rfl,rfl,rfl,rfl,rfl,rfl,rfl,rfl,rfl⟩
def N6:(lA n).body=.seq (ajR (sub [0,1,0,1,1] ((f199.body).getD .skip))) (atz (sub [0,1,0,1,1] ((f199.body).getD .skip))):=rfl
def N7:Code.seq (ajR (sub [0,1,0,1,1] ((f199.body).getD .skip))) (atz (sub [0,1,0,1,1] ((f199.body).getD .skip)))=Code.seq nB.assign nB.body:=jF
attribute [go_sem] N5 N6 zj
def DE:{B:Str->Tb->Option (Tz×(Bool×Unit)) //∀(a0:Str)(o0:Tb),run (lA n) [.at [0],.rb,.at [1],.rd] {jV:=VD ((alZ (lH 1 (afe 7 kr))).enc (kH.l9 ((),(),o0,())) ()) [5] ((lw mq kr).enc (kH.l9 ((),(),o0,())) (a0,())),heap:=(kH.enc (kH.l9 ((),(),o0,())) ((),(),o0,())),low:=(kH.enc (kH.l9 ((),(),o0,())) ((),(),o0,())).length}=B a0 o0}:=mB
def FM:=fu fun n=>(DE n).1
def M8:∀(n:Nat)(a0:Str)(o0:Tb)(r:(Tz×(Bool×Unit))),FM n a0 o0=some r->FnT fq (aau fq) ((lw mq kr).enc (kH.l9 ((),(),o0,())) (a0,())) (kH.enc (kH.l9 ((),(),o0,())) ((),(),o0,())) (fun o H'=>o=.ret (uv ((lw nD kr).enc (lJ.l9 r.1) r.2))/\H'=lJ.enc (lJ.l9 r.1) r.1)
 |0,_,_,_,h=>by cases h
 |n+1,a0,o0,r,h=>by
  exact auS (M:=lA n) (lk:=nB) (jV:=((alZ (lH 1 (afe 7 kr))).enc (kH.l9 ((),(),o0,())) ())) ⟨jP,jQ,qI _,rz _,uK,uM,vU,vg⟩ N7 (jF) ⟨jF,jF⟩ rfl (sY (fL (jC (jF)) (fM (kH.sz _ _).symm)) _ ((lw mq kr).nb _ _)) (fun x hx=>Ff (fL (jC (jF)) (fM (kH.sz _ _).symm)) _ (kH.nb _ _ x hx)) (fun e J hs=>aqx (js:=[]) (pos:=[]) (base:=[0,1,2]) (low:=3) (os:=lJ) (e:=e) (J:=J) (r:=r) (by rfl) hs) (((DE n).2 a0 o0).trans h)
@[reducible] def alx:kG Int:=oN fq f193 n (oB fq [.tmp 2] (mP .i64))
def Uz:RM (alx n) (mP .u8) 28:=mB
def DF:=fu fun n=>(Uz n).1
def Gj:∀n:Nat,Ap fq 193 (mP .u8) (mP .i64) (DF n):=BO fun n=>Bk (Uz n) (gd jP jQ) func193 ntmps193 results193
def KP:Af:=⟨[],[],(zK::nj (nj (zK::zK::zA::zK::DU (nh (nj (nj (nj (zA::[])))))))),[oA mc],none,none⟩
def Sq:Af:=⟨[],[],(zK::nj (nj (zK::zK::zK::zK::DU (nh (nj (nj (nj (zA::[])))))))),[oA mc],none,none⟩
def Ss:Af:=⟨[],[],(zK::zA::zA::zK::zK::zK::zK::DU (nh (nh (zA::zA::zA::[])))),[],none,none⟩
@[reducible] def Hq:kG (List Str):=oN fq f240 n (oB fq [.tmp 2] (l8 mc)) (tv:=sj [([0,0,1,1,1,1,0,1,0,0,0,1,1,1,1,1,1,1,1,1,1,1,1],KP),([0,0,1,1,1,1,1,1,1,1,1,1,1,1],Sq),([0,0,1,1,1,1,1,1,1,1,1,1],KP),([0,1,0,1,1,1,1],Ss)])
attribute [go_sem] KP Sq Ss
abbrev St(v0:Str)(v1 v2:Int)(r0:List Str)(c0:Nat):jJ:=⟨(.str (sb v0)::nN (nN (.lN 0 c0::.int .i64 v1::qA::.int .i64 v2::DT (nu (nN (nN (nN (qA::[])))))))),[.lN false 1 (mp nY r0)],0,[]⟩
abbrev Su(m2:Nat):List Kt:=[.tX 6,.cut [1,1,1,1,1,0,1,0,0,0,1,1,1,1,1,1,1,1,1,1,1,1],.at [1,1,1,1,1,0,1,0,0,0,1,1,1,1,1,1,1,1,1,1,1,1],.tX 5,.lp m2 [0,0,1,1,1,1,1,1,1,1,1,1,1,1],.tX 4,.cut [1,1,1,1,1,1,1,1,1,1,1,1,1],.at [1,1,1,1,1,1,1,1,1,1,1,1,1]]
abbrev KQ:=Str->Int->Int->(List Str)->Option (List Str)
abbrev Sv(K:List Kt)(Z:KQ):Prop:=∀v0 v1 v2 r0 c0,c0=r0.length->run (Hq n) K (St v0 v1 v2 r0 c0)=Z v0 v1 v2 r0
abbrev Sw(v0:Str)(v1 v2 v3:Int)(r0:List Str)(c0:Nat):jJ:=⟨(.str (sb v0)::nN (nN (.lN 0 c0::.int .i64 v1::.int .i64 v2::.int .i64 v3::DT (nu (nN (nN (nN (qA::[])))))))),[.lN false 1 (mp nY r0)],0,[]⟩
abbrev FN:List Kt:=[.tX 4,.cut [1,1,1,1,1,1,1,1,1,1,1,1,1],.at [1,1,1,1,1,1,1,1,1,1,1,1,1]]
abbrev FO:=Str->Int->Int->Int->(List Str)->Option (List Str)
abbrev KR(K:List Kt)(Z:FO):Prop:=∀v0 v1 v2 v3 r0 c0,c0=r0.length->run (Hq n) K (Sw v0 v1 v2 v3 r0 c0)=Z v0 v1 v2 v3 r0
abbrev Sx:List Kt:=[.tX 2,.cut [1,1,1,1,1,1,1,1,1,1,1],.at [1,1,1,1,1,1,1,1,1,1,1]]
abbrev Sy(v0:Str)(v1 v2 v3 v4:Int):jJ:=⟨(.str (sb v0)::qA::qA::.int .i64 v1::.int .i64 v2::.int .u8 v3::.int .i64 v4::DT (nu (nu (qA::qA::qA::[])))),[],0,[]⟩
abbrev Sz:=Str->Int->Int->Int->Int->Option (List Str)
abbrev aft(K:List Kt)(Z:Sz):Prop:=∀v0 v1 v2 v3 v4,run (Hq n) K (Sy v0 v1 v2 v3 v4)=Z v0 v1 v2 v3 v4
attribute [go_sem] St Su Sw FN Sx Sy
def KS:LB2 (KR n) [0,0,1,1,1,1,1,1,1,1,1,1,1,1] FN (Sv n) [0,0,1,1,1,1,0,1,0,0,0,1,1,1,1,1,1,1,1,1,1,1,1] Su:=mB
def KT(X2:FO):Nat->KQ:=AU ((KS n).1 X2)
def arY{n:Nat}(X2:FO):KT n X2 (m+1)=(KS n).1 X2 (KT n X2 m):=rfl
def aaV{X2}(h2:KR n (.lq m2 [0,0,1,1,1,1,1,1,1,1,1,1,1,1]::FN) X2)(m:Nat):=atW (KS n) h2 (KT n X2) m
def KU:LB (KR n) [0,0,1,1,1,1,1,1,1,1,1,1,1,1] FN:=by
 apply fN;intro m X0 ih v0 v1 v2 v3 r0 c0 ec0;subst ec0;simp (config:={maxSteps:=100000000}) only[go_sem,fB,fC,fw,fx,fD,fE,fG,fH,fI,fy,fF,fJ,f240,fA,mixed,aaV n ih,ih];exact rfl
def KV:Nat->FO:=AU ((KU n).1)
def arZ{n:Nat}:KV n (m+1)=(KU n).1 (KV n m):=rfl
@[go_sem]def aaW(m:Nat):=Dv (KU n) (KV n) m
def KW:LB (Sv n) [0,0,1,1,1,1,1,1,1,1,1,1] Sx:=mB
def KX:Nat->KQ:=AU ((KW n).1)
def ar0{n:Nat}:KX n (m+1)=(KW n).1 (KX n m):=rfl
@[go_sem]def aaX(m:Nat):=Dv (KW n) (KX n) m
def KY:LB (aft n) [0,1,0,1,1,1,1] [.tX 0,.cut [1,1,1,1,1],.at [1,1,1,1,1]]:=mB
def KZ:Nat->Sz:=AU ((KY n).1)
def ar1{n:Nat}:KZ n (m+1)=(KY n).1 (KZ n m):=rfl
@[go_sem]def aaY(m:Nat):=Dv (KY n) (KZ n) m
def VQ:RM (Hq n) mq 106:=mB
def aaZ:=fu fun n=>(VQ n).1
def afu:∀n:Nat,Ap fq 240 mq (l8 mc) (aaZ n):=BO fun n=>Bk (VQ n) (gd jP jQ) func240 ntmps240 results240
@[reducible] def acQ:kG Int:=oN fq f302 n (oB fq [.tmp 4] (mP .i64)) (cl:=nE [(143,tj mq (mP .u8) (mP .i64) (CS n))])
def Pm:SC2 (acQ n) mq (mP .u8) 8:=mB
def strings_IndexByte:=fu fun n=>(Pm n).1
def N8:∀n:Nat,Fk fq 302 mq (mP .u8) (mP .i64) (strings_IndexByte n):=Ks fun n=>Iz (Pm n) (gd (jL (nT (Ku n)) jP) jQ) func302 ntmps302 results302
open Go.Proofs
@[reducible] def UA:kG Bool:=oN fq f303 n (oB fq [.tmp 2] nD)
def BP:RM (UA n) (mP .i32) 17:=mB
def zk:=fu fun n=>(BP n).1
def RO:∀n:Nat,Ap fq 303 (mP .i32) nD (zk n):=BO fun n=>Bk (BP n) (gd jP jQ) func303 ntmps303 results303
@[reducible] def K1:kG Bool:=oN fq f280 n (oB fq [.tmp 4] nD)
def wv:SC2 (K1 n) mq mq 18:=mB
def xA:=fu fun n=>(wv n).1
def Kv:∀n:Nat,Fk fq 280 mq mq nD (xA n):=Ks fun n=>Iz (wv n) (gd jP jQ) func280 ntmps280 results280
@[go_sem]def JI:Af:=⟨[],[],(zK::nj (zK::nh (nh (nj (nj (nj (zA::[]))))))),[oC [zK,zK,zK,zK,zK],oK,oK,oK],none,none⟩
@[go_sem]def kC:=(zh (KI (lw mq (lw (mP .i64) (alM 1 (alM 2 (alM 3 kr)))))) (zh ogM (zh ogM (zh ogM Du))))
@[go_sem]def oG:=(lw (mP .i64) (lw (mP .i64) (lw (mP .i64) kr)))
@[go_sem]abbrev oS(F:Str->Int->Tb->Tb->Tb->Option TC)(b:Tk)(a:Unit):=F b.1.1 b.1.2.1 b.2.1 b.2.2.1 b.2.2.2.1
@[go_sem]def ww(F:Str->Int->Tb->Tb->Tb->Option TC):=Kr [.arg 0 [],.zi 0 2 [],.zi 0 3 [],.zi 0 4 []] kC (lH 0 kr) kC oG (oS F)
@[reducible] def DZ:kG TC:=oN fq f200 n (xT fq [.tmp 2,.tmp 3,.tmp 4] [] [0,1,2,3] 4 kC oG) (tv:=sj [([0,1,0,1],JI)]) (xy:=mE []) (xF:=mE [])
@[go_sem]def XP:aB1 (DZ n) [0,0,0,1,0,0,1,0,1] [0,0,1] [0,0,1,0,0,1,0,0,1,0,1] [0,1,1]:=⟨jF,jF,jF,jF⟩
@[go_sem]abbrev JJ(v0:Int)(v1:Str)(v2:Int)(r1 r2 r3:List (Str×Bool)):jJ:=⟨(.ptr 0 0::nN (.int .i64 v0::nu (nu (nN (nN (nN (qA::[]))))))),[.cells [.str (sb v1),.int .i64 v2,.map 1,.map 2,.map 3],.map (mp He r1),.map (mp He r2),.map (mp He r3)],4,[]⟩
abbrev pm:=Int->Str->Int->Tb->Tb->Tb->Option TC
abbrev VR(K:List Kt)(Z:pm):Prop:=∀v0 v1 v2 r1 r2 r3,run (DZ n) K (JJ v0 v1 v2 r1 r2 r3)=Z v0 v1 v2 r1 r2 r3
def vn:LB (VR n) [0,1,0,1] [.tX 0,.cut [1,1],.at [1,1]]:=mB
def yg:Nat->pm:=AU ((vn n).1)
def HE{n:Nat}:yg n (m+1)=(vn n).1 (yg n m):=rfl
@[go_sem]def QG(m:Nat):=Dv (vn n) (yg n) m
def D0:SX (DZ n) (lH 0 kr) kC 51 oS:=mC
def Bm:=fu fun n=>(D0 n).1
def VS:∀n:Nat,Bl fq 200 (lH 0 kr) kC kC oG (oS (Bm n)):=VN fun n=>Jn (D0 n) (gd jP jQ) func200 ntmps200 results200
@[reducible] def P1:kG Bool:=oN fq f277 n (oB fq [.tmp 2] nD)
def zl:RM (P1 n) (mP .i64) 5:=mB
def strings_shouldUseASCIISet:=fu fun n=>(zl n).1
def aJN:∀n:Nat,Ap fq 277 (mP .i64) nD (strings_shouldUseASCIISet n):=BO fun n=>Bk (zl n) (gd jP jQ) func277 ntmps277 results277
@[go_sem]def Pn:Af:=⟨[],[],(zA::zA::zA::zK::zK::nj (zA::zA::zT (l8 jI.row)::zK::zK::nj (zT (l8 mc)::zK::zK::nh []))),[oK,oA mc],none,none⟩
@[go_sem]def Po:Af:=⟨[(4,1,true)],[],(zA::zA::zA::zK::zK::nj (zA::zA::zT (l8 jI.row)::zK::zK::nh (nj (zA::zA::zA::[])))),[oK,oA mc],none,none⟩
@[reducible] def Jp:kG (List Str):=oN fq f55 n (oB fq [.tmp 2] (l8 mc)) (tv:=sj [([0,1,1,0,0,1,1,0,0,1,0,1,1,1],Pn),([0,1,0,1,1,1],Po)])
abbrev Pp(v0:List jI)(v1 v2:Int)(v3:List Str)(v4 v5:Int)(r0:List (Str×Bool))(r1:List Str)(c1:Nat):jJ:=⟨(qA::qA::qA::.map 0::.lN 1 c1::nN (qA::qA::.kW false 4 (mp jI.cells v0)::.int .i64 v1::.int .i64 v2::nN (.kW false 1 (mp nY v3)::.int .i64 v4::.int .i64 v5::nu []))),[.map (mp He r0),.lN true 1 (mp nY r1)],0,[]⟩
abbrev Pq(m2:Nat):List Kt:=[.tX 2,.tX 1,.cut [1,1,1,0,0,1,0,1,1,1],.at [1,1,1,0,0,1,0,1,1,1],.lp m2 [0,1,0,1,1,1],.tX 0,.cut [1,1,1,1],.at [1,1,1,1]]
abbrev Pr:=(List jI)->Int->Int->(List Str)->Int->Int->Tb->(List Str)->Option (List Str)
abbrev acR(K:List Kt)(Z:Pr):Prop:=∀v0 v1 v2 v3 v4 v5 r0 r1 c1,c1=r1.length->run (Jp n) K (Pp v0 v1 v2 v3 v4 v5 r0 r1 c1)=Z v0 v1 v2 v3 v4 v5 r0 r1
abbrev Ps(v0:List jI)(v1 v2:Int)(r0:List (Str×Bool))(r1:List Str)(c1:Nat):jJ:=⟨(qA::qA::qA::.map 0::.lN 1 c1::nN (qA::qA::.kW false 4 (mp jI.cells v0)::.int .i64 v1::.int .i64 v2::nu (nN (qA::qA::qA::[])))),[.map (mp He r0),.lN true 1 (mp nY r1)],0,[]⟩
abbrev Cj:=(List jI)->Int->Int->Tb->(List Str)->Option (List Str)
abbrev H8(K:List Kt)(Z:Cj):Prop:=∀v0 v1 v2 r0 r1 c1,c1=r1.length->run (Jp n) K (Ps v0 v1 v2 r0 r1 c1)=Z v0 v1 v2 r0 r1
attribute [go_sem] Pp Pq Ps
def yR:LB2 (H8 n) [0,1,0,1,1,1] [.tX 0,.cut [1,1,1,1],.at [1,1,1,1]] (acR n) [0,1,1,0,0,1,1,0,0,1,0,1,1,1] Pq:=mB
def Ck(X2:Cj):Nat->Pr:=AU ((yR n).1 X2)
def Md{n:Nat}(X2:Cj):Ck n X2 (m+1)=(yR n).1 X2 (Ck n X2 m):=rfl
def XQ{X2}(h2:H8 n (.lq m2 [0,1,0,1,1,1]::[.tX 0,.cut [1,1,1,1],.at [1,1,1,1]]) X2)(m:Nat):=atW (yR n) h2 (Ck n X2) m
def yS:LB (H8 n) [0,1,0,1,1,1] [.tX 0,.cut [1,1,1,1],.at [1,1,1,1]]:=by
 apply fN;intro m X0 ih v0 v1 v2 r0 r1 c1 ec1;subst ec1;simp (config:={maxSteps:=100000000}) only[go_sem,fB,fC,fw,fx,fD,fE,fG,fH,fI,fy,fF,fJ,f55,fA,mixed,XQ n ih,ih];exact rfl
def Cl:Nat->Cj:=AU ((yS n).1)
def Me{n:Nat}:Cl n (m+1)=(yS n).1 (Cl n m):=rfl
@[go_sem]def XR(m:Nat):=Dv (yS n) (Cl n) m
def Jq:RM (Jp n) (l8 jI.row) 37:=mB
def Ac:=fu fun n=>(Jq n).1
def Pt:∀n:Nat,Ap fq 55 (l8 jI.row) (l8 mc) (Ac n):=BO fun n=>Bk (Jq n) (gd jP jQ) func55 ntmps55 results55
@[go_sem]def kP:=(zh (KI (lH 1 kr)) (zh (KI (alC jH.kv 6 kr)) Du))
@[reducible] def RQ:kG TN:=oN fq f83 n (xT fq [] [] [0,1] 2 kP kr)
def A2:{B:jH->Option TN //∀(o0:jH),run (RQ n) [.at []] (aob (lH 0 kr) kP ((),(o0,()),()) () 8)=B o0}:=mB
def oH:=fu fun n=>(A2 n).1
def QH:∀(n:Nat)(o0:jH)(r:TN),oH n o0=some r->SD fq 83 (lH 0 kr) kP ((),(o0,()),()) () kP kr r
 |0,_,_,h=>by cases h
 |n+1,o0,r,h=>by
  exact okD (((A2 n).2 o0).trans h) (gd jP jQ) func83 ntmps83 results83
open Go.Proofs
@[reducible] def Fm:kG kF:=oN fq f94 n (oB fq [.cell 2 170] (lD kF.kv)) (xy:=mE []) (xF:=mE [])
@[go_sem]def ZK:wV (Fm n) [0,1]=true:=jF
@[go_sem]def ZL:Fj (Fm n) [0,1] 3 10 7 10 8 10 9 10:=⟨jF,jF,jF,jF⟩
def Fo:RM (Fm n) (Ch jH.kv) 13:=mB
def lT:=fu fun n=>(Fo n).1
def lW:∀n:Nat,Ap fq 94 (Ch jH.kv) (lD kF.kv) (lT n):=BO fun n=>Bk (Fo n) (gd jP jQ) func94 ntmps94 results94
@[reducible] def s6:kG (To×Unit):=oN fq f37 n (ate fq [.tmp 2] 0 mc (rsA 0 (fun(b:To)=>b.1.length) Jl))
def CT:{B:Str->List Str->Option (To×Unit) //∀x xs,run (s6 n) [.at []] {jV:=[(l8 mc).enc (x::xs)]++fK 7 qA,heap:=[],low:=0}=B x xs}:=by
 apply fN;intro x xs;simp (config:={maxSteps:=100000000}) only[go_sem,fB,fC,fw,fx,fD,fE,fG,fH,fI,fy,fF,fJ,f37,fA,mixed];exact rfl
def UB(c:Nat):run (s6 n) [.at []] {jV:=[.sO (.slice none 0 c)]++fK 7 qA,heap:=[],low:=0}=some (([],()),()):=by simp (config:={maxSteps:=100000000}) only[go_sem,fB,fC,fw,fx,fD,fE,fG,fH,fI,fy,fF,fJ,f37,fA,mixed]
def UC(a:Addr)(c:Nat):run (s6 n) [.at []] {jV:=[.sO (.slice (some a) 0 c)]++fK 7 qA,heap:=[],low:=0}=some (([],()),()):=by simp (config:={maxSteps:=100000000}) only[go_sem,fB,fC,fw,fx,fD,fE,fG,fH,fI,fy,fF,fJ,f37,fA,mixed]
def uD:Nat->(List Str)->Option (To×Unit)
 |0,_=>none
 |_+1,[]=>some (([],()),())
 |n+1,x::xs=>(CT n).1 x xs
def IE:∀(n:Nat)(a0:(List Str))(r:(To×Unit)),uD n a0=some r->FnG fq 37 (((asT (l8 mc) LZ):Ix Unit _).enc () (a0,())) (uA.enc ()) (fun o H'=>o=.ret (uv ((rsA 0 (fun(b:To)=>b.1.length) Jl).enc r.1 r.2))/\H'=(wh (oaT true mc) uA).enc r.1)
 |0,_,_,h=>by cases h
 |n+1,[],r,h=>by
  cases h
  exact afp fun base c=>by
   cases base with
   |none=>exact zg (M:=s6 n) ⟨jP,jQ,qI _,rz _,uK,uM,vU,vg⟩ func37 rfl rfl ⟨trivial,trivial⟩ (fun _ h=>by cases h) ntmps37 results37 (fun J hs=>acp hs) (UB n c)
   |some a=>exact zg (M:=s6 n) ⟨jP,jQ,qI _,rz _,uK,uM,vU,vg⟩ func37 rfl rfl ⟨trivial,trivial⟩ (fun _ h=>by cases h) ntmps37 results37 (fun J hs=>acp hs) (UC n a c)
 |n+1,x::xs,r,h=>by
  exact zg (M:=s6 n) ⟨jP,jQ,qI _,rz _,uK,uM,vU,vg⟩ func37 rfl rfl ⟨(l8 mc).nb 0 _,trivial⟩ (uA.nb _ _) ntmps37 results37 (fun J hs=>acp hs) (((CT n).2 x xs).trans h)
@[reducible] def qG:kG TY:=oN fq f247 n (atL fq [.tmp 2] 0 jN.row (rsA 0 (fun(b:(Tg×Unit))=>b.1.length) Jl))
def yE:{B:jN->List jN->Option TY //∀x xs,run (qG n) [.at []] {jV:=[(l8 jN.row).enc (x::xs)]++fK 7 qA,heap:=[],low:=0}=B x xs}:=by
 apply fN;intro x xs;simp (config:={maxSteps:=100000000}) only[go_sem,fB,fC,fw,fx,fD,fE,fG,fH,fI,fy,fF,fJ,f247,fA,mixed];exact rfl
def N9(c:Nat):run (qG n) [.at []] {jV:=[.sO (.slice none 0 c)]++fK 7 qA,heap:=[],low:=0}=some (([],()),()):=by simp (config:={maxSteps:=100000000}) only[go_sem,fB,fC,fw,fx,fD,fE,fG,fH,fI,fy,fF,fJ,f247,fA,mixed]
def Oa(a:Addr)(c:Nat):run (qG n) [.at []] {jV:=[.sO (.slice (some a) 0 c)]++fK 7 qA,heap:=[],low:=0}=some (([],()),()):=by simp (config:={maxSteps:=100000000}) only[go_sem,fB,fC,fw,fx,fD,fE,fG,fH,fI,fy,fF,fJ,f247,fA,mixed]
def wx:Nat->Tg->Option TY
 |0,_=>none
 |_+1,[]=>some (([],()),())
 |n+1,x::xs=>(yE n).1 x xs
def Ob:∀(n:Nat)(a0:Tg)(r:TY),wx n a0=some r->FnG fq 247 (((asT (l8 jN.row) LZ):Ix Unit _).enc () (a0,())) (uA.enc ()) (fun o H'=>o=.ret (uv ((rsA 0 (fun(b:(Tg×Unit))=>b.1.length) Jl).enc r.1 r.2))/\H'=(wh (oaT false jN.row) uA).enc r.1)
 |0,_,_,h=>by cases h
 |n+1,[],r,h=>by
  cases h
  exact afp fun base c=>by
   cases base with
   |none=>exact zg (M:=qG n) ⟨jP,jQ,qI _,rz _,uK,uM,vU,vg⟩ func247 rfl rfl ⟨trivial,trivial⟩ (fun _ h=>by cases h) ntmps247 results247 (fun J hs=>acu hs) (N9 n c)
   |some a=>exact zg (M:=qG n) ⟨jP,jQ,qI _,rz _,uK,uM,vU,vg⟩ func247 rfl rfl ⟨trivial,trivial⟩ (fun _ h=>by cases h) ntmps247 results247 (fun J hs=>acu hs) (Oa n a c)
 |n+1,x::xs,r,h=>by
  exact zg (M:=qG n) ⟨jP,jQ,qI _,rz _,uK,uM,vU,vg⟩ func247 rfl rfl ⟨(l8 jN.row).nb 0 _,trivial⟩ (uA.nb _ _) ntmps247 results247 (fun J hs=>acu hs) (((yE n).2 x xs).trans h)
@[reducible] def s7:kG (Tp×Unit):=oN fq f249 n (atL fq [.tmp 2] 0 Syntax.row (rsA 0 (fun(b:Tp)=>b.1.length) Jl))
def CU:{B:Syntax->List Syntax->Option (Tp×Unit) //∀x xs,run (s7 n) [.at []] {jV:=[(l8 Syntax.row).enc (x::xs)]++fK 7 qA,heap:=[],low:=0}=B x xs}:=by
 apply fN;intro x xs;simp (config:={maxSteps:=100000000}) only[go_sem,fB,fC,fw,fx,fD,fE,fG,fH,fI,fy,fF,fJ,f249,fA,mixed];exact rfl
def UD(c:Nat):run (s7 n) [.at []] {jV:=[.sO (.slice none 0 c)]++fK 7 qA,heap:=[],low:=0}=some (([],()),()):=by simp (config:={maxSteps:=100000000}) only[go_sem,fB,fC,fw,fx,fD,fE,fG,fH,fI,fy,fF,fJ,f249,fA,mixed]
def UE(a:Addr)(c:Nat):run (s7 n) [.at []] {jV:=[.sO (.slice (some a) 0 c)]++fK 7 qA,heap:=[],low:=0}=some (([],()),()):=by simp (config:={maxSteps:=100000000}) only[go_sem,fB,fC,fw,fx,fD,fE,fG,fH,fI,fy,fF,fJ,f249,fA,mixed]
def AC:Nat->(List Syntax)->Option (Tp×Unit)
 |0,_=>none
 |_+1,[]=>some (([],()),())
 |n+1,x::xs=>(CU n).1 x xs
def UF:∀(n:Nat)(a0:(List Syntax))(r:(Tp×Unit)),AC n a0=some r->FnG fq 249 (((asT (l8 Syntax.row) LZ):Ix Unit _).enc () (a0,())) (uA.enc ()) (fun o H'=>o=.ret (uv ((rsA 0 (fun(b:Tp)=>b.1.length) Jl).enc r.1 r.2))/\H'=(wh (oaT false Syntax.row) uA).enc r.1)
 |0,_,_,h=>by cases h
 |n+1,[],r,h=>by
  cases h
  exact afp fun base c=>by
   cases base with
   |none=>exact zg (M:=s7 n) ⟨jP,jQ,qI _,rz _,uK,uM,vU,vg⟩ func249 rfl rfl ⟨trivial,trivial⟩ (fun _ h=>by cases h) ntmps249 results249 (fun J hs=>acu hs) (UD n c)
   |some a=>exact zg (M:=s7 n) ⟨jP,jQ,qI _,rz _,uK,uM,vU,vg⟩ func249 rfl rfl ⟨trivial,trivial⟩ (fun _ h=>by cases h) ntmps249 results249 (fun J hs=>acu hs) (UE n a c)
 |n+1,x::xs,r,h=>by
  exact zg (M:=s7 n) ⟨jP,jQ,qI _,rz _,uK,uM,vU,vg⟩ func249 rfl rfl ⟨(l8 Syntax.row).nb 0 _,trivial⟩ (uA.nb _ _) ntmps249 results249 (fun J hs=>acu hs) (((CU n).2 x xs).trans h)
@[reducible] def sC:kG (List jU):=oN fq f248 n (oB fq [.tmp 2] (l8 jU.row))
def BQ:{B:jU->List jU->Option (List jU) //∀x xs,run (sC n) [.at []] {jV:=[(l8 jU.row).enc (x::xs)]++fK 7 qA,heap:=[]}=B x xs}:=by
 apply fN;intro x xs;simp (config:={maxSteps:=100000000}) only[go_sem,fB,fC,fw,fx,fD,fE,fG,fH,fI,fy,fF,fJ,f248,fA,mixed];exact rfl
def RR(c:Nat):run (sC n) [.at []] {jV:=[.sO (.slice none 0 c)]++fK 7 qA,heap:=[]}=some []:=by simp (config:={maxSteps:=100000000}) only[go_sem,fB,fC,fw,fx,fD,fE,fG,fH,fI,fy,fF,fJ,f248,fA,mixed]
def RS(a:Addr)(c:Nat):run (sC n) [.at []] {jV:=[.sO (.slice (some a) 0 c)]++fK 7 qA,heap:=[]}=some []:=by simp (config:={maxSteps:=100000000}) only[go_sem,fB,fC,fw,fx,fD,fE,fG,fH,fI,fy,fF,fJ,f248,fA,mixed]
def zm:Nat->(List jU)->Option (List jU)
 |0,_=>none
 |_+1,[]=>some []
 |n+1,x::xs=>(BQ n).1 x xs
def RT:∀(n:Nat)(a0:(List jU))(r:(List jU)),zm n a0=some r->KD fq 248 [(l8 jU.row).enc a0] (fun v=>v=(l8 jU.row).enc r)
 |0,_,_,h=>by cases h
 |n+1,[],r,h=>by
  cases h
  exact ay2 fun base c=>by
   cases base with
   |none=>exact aiJ (M:=sC n) ⟨jP,jQ,qI _,rz _,uK,uM,vU,vg⟩ func248 rfl rfl ⟨trivial,trivial⟩ ntmps248 results248 (fun J hs=>afa (P:=fq) (rs:=[.tmp 2]) (t:=(l8 jU.row)) (J:=J) hs) (RR n c)
   |some a=>exact aiJ (M:=sC n) ⟨jP,jQ,qI _,rz _,uK,uM,vU,vg⟩ func248 rfl rfl ⟨trivial,trivial⟩ ntmps248 results248 (fun J hs=>afa (P:=fq) (rs:=[.tmp 2]) (t:=(l8 jU.row)) (J:=J) hs) (RS n a c)
 |n+1,x::xs,r,h=>by
  exact aiJ (M:=sC n) ⟨jP,jQ,qI _,rz _,uK,uM,vU,vg⟩ func248 rfl rfl ⟨(l8 jU.row).nb 0 _,trivial⟩ ntmps248 results248 (fun J hs=>afa (P:=fq) (rs:=[.tmp 2]) (t:=(l8 jU.row)) (J:=J) hs) (((BQ n).2 x xs).trans h)
@[reducible] def Cm:kG Int:=oN fq f205 n (oB fq [.tmp 2] (mP .i64)) (xy:=mE []) (xF:=mE [])
@[go_sem]def acS:agz (Cm n) [0,1,1] [0,1,1,1]:=⟨jF,jF⟩
@[go_sem]def acT:Fj (Cm n) [0,1,1] 3 12 7 12 9 12 10 12/\RH (Cm n) [0,1,1] 11 12=true:=⟨⟨jF,jF,jF,jF⟩,jF⟩
def H9:RM (Cm n) (Ch jH.kv) 35:=mB
def pq:=fu fun n=>(H9 n).1
def tC:∀n:Nat,Ap fq 205 (Ch jH.kv) (mP .i64) (pq n):=BO fun n=>Bk (H9 n) (gd jP jQ) func205 ntmps205 results205
open Go.Proofs
@[reducible] def VT:kG TB:=oN fq f206 n (oB fq [.tmp 2] (ap9 246 (Ch (cL jS.row)))) (cut:=aaH [([1,1],[0])])
def CV:RM (VT n) (l8 jS.row) 4:=mB
def Fp:=fu fun n=>(CV n).1
def UG:∀n:Nat,Ap fq 206 (l8 jS.row) (ap9 246 (Ch (cL jS.row))) (Fp n):=BO fun n=>Bk (CV n) (gd jP jQ) func206 ntmps206 results206
def pX:yN:=(aAH [] (sub [0,1,0,1] ((f152.body).getD .skip)))
@[go_sem]def D1:pX.ps.size=2/\∀j:Int,qy pX.js j=none:=⟨jF,fun j=>(by show qy [] j=none;unfold qy auz;cases (j==0)<;>rfl)⟩
def uk:=(lw (mP .i64) (lw (lD jS.kv) kr))
def kN:=(zh (awn pX (afe 3 (lH 1 (alZ (lH 2 (afe 23 kr)))))) (zh (KI (alC Syntax.kv 8 kr)) (zh (KI (alC Syntax.kv 8 kr)) Du)))
def mQ:=(zh (ogL pX (afe 3 (lH 1 (alZ (lH 2 (afe 23 kr)))))) (zh (KI (alC Syntax.kv 8 kr)) (zh (KI (alC Syntax.kv 8 kr)) Du)))
attribute [go_sem] uk kN mQ
def mF:kG (Tt×(Bool×Unit)) where
 body:=.seq (ajR (sub [0,1,0,1] ((f152.body).getD .skip))) (atz (sub [0,1,0,1] ((f152.body).getD .skip)))
 P:=fq
 cl:=nE []
 cd:=M5 []
 tv:=sj []
 cut:=aaH []
 n:=n
 out:=(fun _=>none)
 oB:=afi [] [] [0,1,2] 3 mQ
 xb:=mE []
def UH:(mF n).P=fq/\(mF n).cl=nE []/\(mF n).cd=M5 []/\(mF n).tv=sj []/\(mF n).cut=aaH []/\(mF n).n=n/\(mF n).out=(fun _=>none)/\(mF n).oB=afi [] [] [0,1,2] 3 mQ/\(mF n).xb=mE []:=⟨rfl,rfl,rfl,rfl,rfl,rfl,rfl,rfl,rfl⟩
def UI:(mF n).body=.seq (ajR (sub [0,1,0,1] ((f152.body).getD .skip))) (atz (sub [0,1,0,1] ((f152.body).getD .skip))):=rfl
def UJ:Code.seq (ajR (sub [0,1,0,1] ((f152.body).getD .skip))) (atz (sub [0,1,0,1] ((f152.body).getD .skip)))=Code.seq pX.assign pX.body:=jF
attribute [go_sem] UH UI D1
def BR:{B:Int->jS->Syntax->Syntax->Option (Tt×(Bool×Unit)) //∀(a0:Int)(a1:jS)(o0:Syntax)(o1:Syntax),run (mF n) [.at [0],.rb,.at [1],.rd] {jV:=VD ((afe 3 (lH 1 (alZ (lH 2 (afe 23 kr))))).enc (kN.l9 ((),(o0,()),(o1,()),())) ()) [11,12] (uk.enc (kN.l9 ((),(o0,()),(o1,()),())) (a0,a1,())),heap:=(kN.enc (kN.l9 ((),(o0,()),(o1,()),())) ((),(o0,()),(o1,()),())),low:=(kN.enc (kN.l9 ((),(o0,()),(o1,()),())) ((),(o0,()),(o1,()),())).length}=B a0 a1 o0 o1}:=mB
def D2:=fu fun n=>(BR n).1
def RV:∀(n:Nat)(a0:Int)(a1:jS)(o0:Syntax)(o1:Syntax)(r:(Tt×(Bool×Unit))),D2 n a0 a1 o0 o1=some r->FnT fq (aau fq) (uk.enc (kN.l9 ((),(o0,()),(o1,()),())) (a0,a1,())) (kN.enc (kN.l9 ((),(o0,()),(o1,()),())) ((),(o0,()),(o1,()),())) (fun o H'=>o=.ret (uv ((lw nD kr).enc (mQ.l9 r.1) r.2))/\H'=mQ.enc (mQ.l9 r.1) r.1)
 |0,_,_,_,_,_,h=>by cases h
 |n+1,a0,a1,o0,o1,r,h=>by
  exact auS (M:=mF n) (lk:=pX) (jV:=((afe 3 (lH 1 (alZ (lH 2 (afe 23 kr))))).enc (kN.l9 ((),(o0,()),(o1,()),())) ())) ⟨jP,jQ,qI _,rz _,uK,uM,vU,vg⟩ UJ (jF) ⟨jF,jF⟩ rfl (sY (fL (jC (jF)) (fM (kN.sz _ _).symm)) _ (uk.nb _ _)) (fun x hx=>Ff (fL (jC (jF)) (fM (kN.sz _ _).symm)) _ (kN.nb _ _ x hx)) (fun e J hs=>aqx (js:=[]) (pos:=[]) (base:=[0,1,2]) (low:=3) (os:=mQ) (e:=e) (J:=J) (r:=r) (by rfl) hs) (((BR n).2 a0 a1 o0 o1).trans h)
@[reducible] def P2:kG TN:=oN fq f346 n (xT fq [] [] [0,1] 2 kP kr)
def zn:{B:jH->Option TN //∀(o0:jH),run (P2 n) [.at []] (aob (lH 0 kr) kP ((),(o0,()),()) () 8)=B o0}:=mB
def qB:=fu fun n=>(zn n).1
def aJO:∀(n:Nat)(o0:jH)(r:TN),qB n o0=some r->SD fq 346 (lH 0 kr) kP ((),(o0,()),()) () kP kr r
 |0,_,_,h=>by cases h
 |n+1,o0,r,h=>by
  exact okD (((zn n).2 o0).trans h) (gd jP jQ) func346 ntmps346 results346
@[go_sem]def D3:Af:=⟨[],[],(zT (l8 mc)::zK::nj (zA::zK::zK::nj (nj (zA::zA::[])))),[],none,none⟩
@[reducible] def Mf:kG Int:=oN fq f142 n (oB fq [.tmp 4] (mP .i64)) (tv:=sj [([0,1,0,1],D3)])
@[go_sem]abbrev D4(v0:List Str)(v1:Str)(v2 v3:Int):jJ:=⟨(.kW false 1 (mp nY v0)::.str (sb v1)::nN (qA::.int .i64 v2::.int .i64 v3::nN (nN (qA::qA::[])))),[],0,[]⟩
abbrev zr:=(List Str)->Str->Int->Int->Option Int
abbrev XS(K:List Kt)(Z:zr):Prop:=∀v0 v1 v2 v3,run (Mf n) K (D4 v0 v1 v2 v3)=Z v0 v1 v2 v3
def wy:LB (XS n) [0,1,0,1] [.tX 0,.cut [1,1],.at [1,1]]:=mB
def zt:Nat->zr:=AU ((wy n).1)
def IF{n:Nat}:zt n (m+1)=(wy n).1 (zt n m):=rfl
@[go_sem]def RW(m:Nat):=Dv (wy n) (zt n) m
def Fq:SC2 (Mf n) (l8 mc) mq 19:=mB
def Cn:=fu fun n=>(Fq n).1
def XT:∀n:Nat,Fk fq 142 (l8 mc) mq (mP .i64) (Cn n):=Ks fun n=>Iz (Fq n) (gd jP jQ) func142 ntmps142 results142
@[go_sem]def j6:=(zh (KI (lH 4 kr)) (zh (KI (alC Syntax.kv 8 kr)) (zh (KI (alC (cI .i64) 1 kr)) (zh (KI (alC (cI .i64) 1 kr)) (zh (KI (lH 5 (lw (l8 Syntax.row) (lw (mP .i64) kr)))) (zh (KI (alM 6 (alM 7 (alM 8 (lw (mP .i64) kr))))) (zh (ah5 (lD jI.kv)) (zh (ah5 (lD jI.kv)) (zh ogM Du)))))))))
@[reducible] def qS:kG (Th×Unit):=oN fq f251 n (xT fq [] [] [0,1,2,3,4,5,6,7,8] 9 j6 kr)
def Fs:{B:Syntax->Int->Int->(List Syntax)->Int->Int->Ta->Ta->Tb->Option (Th×Unit) //∀(o0:Syntax)(o1:Int)(o2:Int)(o3:(List Syntax))(o4:Int)(o5:Int)(o6:Ta)(o7:Ta)(o8:Tb),run (qS n) [.j8 (tP (qS n) [0]) ((tP (qS n) [0]).toList.drop 1),.cut [1],.at [1]] (jJ.put {jV:=((lH 0 (lH 1 (lH 2 (lH 3 kr)))).enc (j6.l9 ((),(o0,()),(o1,()),(o2,()),(o3,o4,()),(o5,()),o6,o7,o8,())) ())++fK (23-((lH 0 (lH 1 (lH 2 (lH 3 kr)))).enc (j6.l9 ((),(o0,()),(o1,()),(o2,()),(o3,o4,()),(o5,()),o6,o7,o8,())) ()).length) qA,heap:=(j6.enc (j6.l9 ((),(o0,()),(o1,()),(o2,()),(o3,o4,()),(o5,()),o6,o7,o8,())) ((),(o0,()),(o1,()),(o2,()),(o3,o4,()),(o5,()),o6,o7,o8,())),low:=(j6.enc (j6.l9 ((),(o0,()),(o1,()),(o2,()),(o3,o4,()),(o5,()),o6,o7,o8,())) ((),(o0,()),(o1,()),(o2,()),(o3,o4,()),(o5,()),o6,o7,o8,())).length} (some 7) (.sO .nilIface))=B o0 o1 o2 o3 o4 o5 o6 o7 o8}:=mB
def yT:=fu fun n=>(Fs n).1
def XU:∀(n:Nat)(o0:Syntax)(o1:Int)(o2:Int)(o3:(List Syntax))(o4:Int)(o5:Int)(o6:Ta)(o7:Ta)(o8:Tb)(r:(Th×Unit)),yT n o0 o1 o2 o3 o4 o5 o6 o7 o8=some r->FnT fq (ald fq 251) ((lH 0 (lH 1 (lH 2 (lH 3 kr)))).enc (j6.l9 ((),(o0,()),(o1,()),(o2,()),(o3,o4,()),(o5,()),o6,o7,o8,())) ()) (j6.enc (j6.l9 ((),(o0,()),(o1,()),(o2,()),(o3,o4,()),(o5,()),o6,o7,o8,())) ((),(o0,()),(o1,()),(o2,()),(o3,o4,()),(o5,()),o6,o7,o8,())) (fun o H'=>o=(enR j6 kr r).1/\H'=(enR j6 kr r).2)
 |0,_,_,_,_,_,_,_,_,_,_,h=>by cases h
 |n+1,o0,o1,o2,o3,o4,o5,o6,o7,o8,r,h=>by
  exact afo (M:=qS n) (p1:=[]) (b1:=[0,1,2,3,4,5,6,7,8]) (args:=((lH 0 (lH 1 (lH 2 (lH 3 kr)))).enc (j6.l9 ((),(o0,()),(o1,()),(o2,()),(o3,o4,()),(o5,()),o6,o7,o8,())) ())) ⟨jP,jQ,qI _,rz _,uK,uM,vU,vg⟩ func251 rfl (jF) (sY (fL (jC (jF)) (fM (j6.sz _ _).symm)) _ ((lH 0 (lH 1 (lH 2 (lH 3 kr)))).nb (j6.l9 ((),(o0,()),(o1,()),(o2,()),(o3,o4,()),(o5,()),o6,o7,o8,())) ())) (fun x hx=>Ff (fL (jC (jF)) (fM (j6.sz _ _).symm)) _ (j6.nb _ _ x hx)) ntmps251 results251 (low:=9) (by rfl) rfl (((Fs n).2 o0 o1 o2 o3 o4 o5 o6 o7 o8).trans h)
@[go_sem]def tY:=(lH 0 (lH 1 (lH 2 (lH 3 (lw (Ut 312 aaL) kr)))))
def Ft:{B:Unit->Syntax->Int->Int->(List Syntax)->Int->Int->Ta->Ta->Tb->Option (Th×Unit) //∀(a0:Unit)(o0:Syntax)(o1:Int)(o2:Int)(o3:(List Syntax))(o4:Int)(o5:Int)(o6:Ta)(o7:Ta)(o8:Tb),run (qS n) [.j8 (tP (qS n) [0]) ((tP (qS n) [0]).toList.drop 1),.cut [1],.at [1]] (jJ.put {jV:=((lH 0 (lH 1 (lH 2 (lH 3 kr)))).enc (j6.l9 ((),(o0,()),(o1,()),(o2,()),(o3,o4,()),(o5,()),o6,o7,o8,())) ())++fK (23-((lH 0 (lH 1 (lH 2 (lH 3 kr)))).enc (j6.l9 ((),(o0,()),(o1,()),(o2,()),(o3,o4,()),(o5,()),o6,o7,o8,())) ()).length) qA,heap:=(j6.enc (j6.l9 ((),(o0,()),(o1,()),(o2,()),(o3,o4,()),(o5,()),o6,o7,o8,())) ((),(o0,()),(o1,()),(o2,()),(o3,o4,()),(o5,()),o6,o7,o8,())),low:=(j6.enc (j6.l9 ((),(o0,()),(o1,()),(o2,()),(o3,o4,()),(o5,()),o6,o7,o8,())) ((),(o0,()),(o1,()),(o2,()),(o3,o4,()),(o5,()),o6,o7,o8,())).length} (some 7) ((Ut 312 aaL).enc a0))=B a0 o0 o1 o2 o3 o4 o5 o6 o7 o8}:=mB
def wP:=fu fun n=>(Ft n).1
def XV:∀(n:Nat)(a0:Unit)(o0:Syntax)(o1:Int)(o2:Int)(o3:(List Syntax))(o4:Int)(o5:Int)(o6:Ta)(o7:Ta)(o8:Tb)(r:(Th×Unit)),wP n a0 o0 o1 o2 o3 o4 o5 o6 o7 o8=some r->FnT fq (ale fq 251) (tY.enc (j6.l9 ((),(o0,()),(o1,()),(o2,()),(o3,o4,()),(o5,()),o6,o7,o8,())) (a0,())) (j6.enc (j6.l9 ((),(o0,()),(o1,()),(o2,()),(o3,o4,()),(o5,()),o6,o7,o8,())) ((),(o0,()),(o1,()),(o2,()),(o3,o4,()),(o5,()),o6,o7,o8,())) (fun o H'=>o=(enR j6 kr r).1/\H'=(enR j6 kr r).2)
 |0,_,_,_,_,_,_,_,_,_,_,_,h=>by cases h
 |n+1,a0,o0,o1,o2,o3,o4,o5,o6,o7,o8,r,h=>by
  exact afn (M:=qS n) (p1:=[]) (b1:=[0,1,2,3,4,5,6,7,8]) (args:=((lH 0 (lH 1 (lH 2 (lH 3 kr)))).enc (j6.l9 ((),(o0,()),(o1,()),(o2,()),(o3,o4,()),(o5,()),o6,o7,o8,())) ())) (x:=(Ut 312 aaL).enc a0) ⟨jP,jQ,qI _,rz _,uK,uM,vU,vg⟩ func251 rfl (jF) (sY (fL (jC (jF)) (fM (j6.sz _ _).symm)) _ (tY.nb (j6.l9 ((),(o0,()),(o1,()),(o2,()),(o3,o4,()),(o5,()),o6,o7,o8,())) (a0,()))) (fun x hx=>Ff (fL (jC (jF)) (fM (j6.sz _ _).symm)) _ (j6.nb _ _ x hx)) ntmps251 results251 (low:=9) (by rfl) rfl (((Ft n).2 a0 o0 o1 o2 o3 o4 o5 o6 o7 o8).trans h)
open Go.Proofs
@[go_sem]def kS:=(zh (KI (alM 1 (alM 2 (alM 3 (lw (mP .i64) kr))))) (zh (ah5 (lD jI.kv)) (zh (ah5 (lD jI.kv)) (zh ogM Du))))
@[go_sem]abbrev Cp(F:Option (T7×Unit))(b:Unit)(a:Unit):=F
@[go_sem]def Pu(F:Option (T7×Unit)):=Kr [] Du kr kS (lH 0 kr) (Cp F)
@[reducible] def acU:kG (T7×Unit):=oN fq f75 n (xT fq [.tmp 0] [.arg 0 [],.zi 0 0 [],.zi 0 1 [],.zi 0 2 []] [] 0 kS (lH 0 kr))
def Ia:SX (acU n) kr Du 6 Cp:=mC
def FP:=fu fun n=>(Ia n).1
def aa0:∀n:Nat,Bl fq 75 kr Du kS (lH 0 kr) (Cp (FP n)):=VN fun n=>Jn (Ia n) (gd jP jQ) func75 ntmps75 results75
@[reducible] def aib:kG Bool:=oN fq f78 n (oB fq [.tmp 2] nD)
def aJP:RM (aib n) (lD jI.kv) 8:=mB
def z1:=fu fun n=>(aJP n).1
def CW:∀n:Nat,Ap fq 78 (lD jI.kv) nD (z1 n):=BO fun n=>Bk (aJP n) (gd jP jQ) func78 ntmps78 results78
@[reducible] def agF:kG Bool:=oN fq f140 n (oB fq [.tmp 2] nD)
def M9:RM (agF n) (lD jI.kv) 12:=mB
def xU:=fu fun n=>(M9 n).1
def Bn:∀n:Nat,Ap fq 140 (lD jI.kv) nD (xU n):=BO fun n=>Bk (M9 n) (gd jP jQ) func140 ntmps140 results140
@[reducible] def aly:kG Bool:=oN fq f196 n (oB fq [.tmp 2] nD)
def UK:RM (aly n) (mP .u8) 21:=mB
def SA:=fu fun n=>(UK n).1
def aj8:∀n:Nat,Ap fq 196 (mP .u8) nD (SA n):=BO fun n=>Bk (UK n) (gd jP jQ) func196 ntmps196 results196
@[go_sem]def jY:=(zh (KI (lH 1 (lw (l8 Syntax.row) (lw (mP .i64) kr)))) (zh (KI (alM 2 (alM 3 (alM 4 (lw (mP .i64) kr))))) (zh (ah5 (lD jI.kv)) (zh (ah5 (lD jI.kv)) (zh ogM Du)))))
@[go_sem]abbrev xM(F:(List Syntax)->Int->Int->Ta->Ta->Tb->Option TZ)(b:Tc)(a:Unit):=F b.1.1 b.1.2.1 b.2.1.1 b.2.2.1 b.2.2.2.1 b.2.2.2.2.1
@[go_sem]def BS(F:(List Syntax)->Int->Int->Ta->Ta->Tb->Option TZ):=Kr [.arg 0 [],.zi 0 0 [],.zi 1 0 [],.zi 1 1 [],.zi 1 2 []] jY (lH 0 kr) jY (lw mq (lw nD kr)) (xM F)
@[reducible] def IG:kG TZ:=oN fq f284 n (xT fq [.tmp 2,.tmp 3] [] [0,1,2,3,4] 5 jY (lw mq (lw nD kr))) (xy:=mE []) (xF:=mE [])
@[go_sem]def UL:agz (IG n) [0,0,1] [0,1,1]:=⟨jF,jF⟩
def BT:SX (IG n) (lH 0 kr) jY 39 xM:=mC
def wz:=fu fun n=>(BT n).1
def HF:∀n:Nat,Bl fq 284 (lH 0 kr) jY jY (lw mq (lw nD kr)) (xM (wz n)):=VN fun n=>Jn (BT n) (gd jP jQ) func284 ntmps284 results284
@[reducible] def RX:kG Bool:=oN fq f213 n (oB fq [.tmp 4] nD)
def A3:SC2 (RX n) (lD kF.kv) mq 14:=mB
def yj:=fu fun n=>(A3 n).1
def QI:∀n:Nat,Fk fq 213 (lD kF.kv) mq nD (yj n):=Ks fun n=>Iz (A3 n) (gd jP jQ) func213 ntmps213 results213
open Go.Proofs
def Pv:Af:=⟨[],[],(zT (l8 jN.row)::zT (l8 jN.row)::zA::zA::zA::zK::zK::DU []),[],none,none⟩
def Pw:Af:=⟨[],[],(zT (l8 jN.row)::zT (l8 jN.row)::zA::zA::zA::zK::DU (zA::[])),[],none,none⟩
@[reducible] def D5:kG Bool:=oN fq f46 n (oB fq [.tmp 4] nD) (tv:=sj [([0,1,1,0,0,1,0,0,1,0,1,1],Pv),([0,1,0,1,1],Pw)]) (xy:=mE []) (xF:=mE [])
def ael:agz (D5 n) [0,0,0,0,1,0,0,1,0,1,1] [0,0,0,1,0,0,1,1,0,0,1,0,0,1,0,1,1]:=⟨jF,jF⟩
attribute [go_sem] ael Pv Pw
abbrev Px(v0 v1:List jN)(v2 v3:Int):jJ:=⟨(.kW false 2 (mp jN.cells v0)::.kW false 2 (mp jN.cells v1)::qA::qA::qA::.int .i64 v2::.int .i64 v3::DT []),[],0,[]⟩
abbrev Py(m2:Nat):List Kt:=[.tX 2,.tX 1,.cut [1,1,0,0,1,0,1,1],.at [1,1,0,0,1,0,1,1],.lp m2 [0,1,0,1,1],.tX 0,.cut [1,1,1],.at [1,1,1]]
abbrev Pz:=Tg->Tg->Int->Int->Option Bool
abbrev acV(K:List Kt)(Z:Pz):Prop:=∀v0 v1 v2 v3,run (D5 n) K (Px v0 v1 v2 v3)=Z v0 v1 v2 v3
abbrev PA(v0 v1:List jN)(v2:Int):jJ:=⟨(.kW false 2 (mp jN.cells v0)::.kW false 2 (mp jN.cells v1)::qA::qA::qA::.int .i64 v2::DT (qA::[])),[],0,[]⟩
abbrev Cq:=Tg->Tg->Int->Option Bool
abbrev Ib(K:List Kt)(Z:Cq):Prop:=∀v0 v1 v2,run (D5 n) K (PA v0 v1 v2)=Z v0 v1 v2
attribute [go_sem] Px Py PA
def yU:LB2 (Ib n) [0,1,0,1,1] [.tX 0,.cut [1,1,1],.at [1,1,1]] (acV n) [0,1,1,0,0,1,0,0,1,0,1,1] Py:=mB
def Cr(X2:Cq):Nat->Pz:=AU ((yU n).1 X2)
def Mg{n:Nat}(X2:Cq):Cr n X2 (m+1)=(yU n).1 X2 (Cr n X2 m):=rfl
def XW{X2}(h2:Ib n (.lq m2 [0,1,0,1,1]::[.tX 0,.cut [1,1,1],.at [1,1,1]]) X2)(m:Nat):=atW (yU n) h2 (Cr n X2) m
def yV:LB (Ib n) [0,1,0,1,1] [.tX 0,.cut [1,1,1],.at [1,1,1]]:=by
 apply fN;intro m X0 ih v0 v1 v2;simp (config:={maxSteps:=100000000}) only[go_sem,fB,fC,fw,fx,fD,fE,fG,fH,fI,fy,fF,fJ,f46,fA,mixed,XW n ih,ih];exact rfl
def yW:Nat->Cq:=AU ((yV n).1)
def Mh{n:Nat}:yW n (m+1)=(yV n).1 (yW n m):=rfl
@[go_sem]def XX(m:Nat):=Dv (yV n) (yW n) m
def Jr:SC2 (D5 n) (l8 jN.row) (l8 jN.row) 71:=mB
def Hr:=fu fun n=>(Jr n).1
def acW:∀n:Nat,Fk fq 46 (l8 jN.row) (l8 jN.row) nD (Hr n):=Ks fun n=>Iz (Jr n) (gd jP jQ) func46 ntmps46 results46
@[reducible] def rP:kG (TD×Unit):=oN fq f38 n (ate fq [.tmp 2] 0 jI.row (rsA 0 (fun(b:TD)=>b.1.length) Jl))
def HG:{B:jI->List jI->Option (TD×Unit) //∀x xs,run (rP n) [.at []] {jV:=[(l8 jI.row).enc (x::xs)]++fK 7 qA,heap:=[],low:=0}=B x xs}:=by
 apply fN;intro x xs;simp (config:={maxSteps:=100000000}) only[go_sem,fB,fC,fw,fx,fD,fE,fG,fH,fI,fy,fF,fJ,f38,fA,mixed];exact rfl
def QJ(c:Nat):run (rP n) [.at []] {jV:=[.sO (.slice none 0 c)]++fK 7 qA,heap:=[],low:=0}=some (([],()),()):=by simp (config:={maxSteps:=100000000}) only[go_sem,fB,fC,fw,fx,fD,fE,fG,fH,fI,fy,fF,fJ,f38,fA,mixed]
def QK(a:Addr)(c:Nat):run (rP n) [.at []] {jV:=[.sO (.slice (some a) 0 c)]++fK 7 qA,heap:=[],low:=0}=some (([],()),()):=by simp (config:={maxSteps:=100000000}) only[go_sem,fB,fC,fw,fx,fD,fE,fG,fH,fI,fy,fF,fJ,f38,fA,mixed]
def CX:Nat->(List jI)->Option (TD×Unit)
 |0,_=>none
 |_+1,[]=>some (([],()),())
 |n+1,x::xs=>(HG n).1 x xs
def QL:∀(n:Nat)(a0:(List jI))(r:(TD×Unit)),CX n a0=some r->FnG fq 38 (((asT (l8 jI.row) LZ):Ix Unit _).enc () (a0,())) (uA.enc ()) (fun o H'=>o=.ret (uv ((rsA 0 (fun(b:TD)=>b.1.length) Jl).enc r.1 r.2))/\H'=(wh (oaT true jI.row) uA).enc r.1)
 |0,_,_,h=>by cases h
 |n+1,[],r,h=>by
  cases h
  exact afp fun base c=>by
   cases base with
   |none=>exact zg (M:=rP n) ⟨jP,jQ,qI _,rz _,uK,uM,vU,vg⟩ func38 rfl rfl ⟨trivial,trivial⟩ (fun _ h=>by cases h) ntmps38 results38 (fun J hs=>acp hs) (QJ n c)
   |some a=>exact zg (M:=rP n) ⟨jP,jQ,qI _,rz _,uK,uM,vU,vg⟩ func38 rfl rfl ⟨trivial,trivial⟩ (fun _ h=>by cases h) ntmps38 results38 (fun J hs=>acp hs) (QK n a c)
 |n+1,x::xs,r,h=>by
  exact zg (M:=rP n) ⟨jP,jQ,qI _,rz _,uK,uM,vU,vg⟩ func38 rfl rfl ⟨(l8 jI.row).nb 0 _,trivial⟩ (uA.nb _ _) ntmps38 results38 (fun J hs=>acp hs) (((HG n).2 x xs).trans h)
@[go_sem]def jR:=(zh (KI (alS 141 0 (alA 1 (lw (l8 jI.row) (lw nD kr))))) (zh ogB Du))
@[go_sem]abbrev AD(F:(List jI)->Bool->Str->Option TQ)(b:T9)(a:Unit):=F b.1.1 b.1.2.1 b.2.1
@[go_sem]def Mi(F:(List jI)->Bool->Str->Option TQ):=Kr [.arg 0 [],.zi 0 1 []] jR (lH 0 kr) jR (lw (mP .i64) kr) (AD F)
@[reducible] def ZM:kG TQ:=oN fq f186 n (xT fq [.tmp 2] [] [0,1] 2 jR (lw (mP .i64) kr))
def Mj:SX (ZM n) (lH 0 kr) jR 8 AD:=mC
def PB:=fu fun n=>(Mj n).1
def XY:∀n:Nat,Bl fq 186 (lH 0 kr) jR jR (lw (mP .i64) kr) (AD (PB n)):=VN fun n=>Jn (Mj n) (gd jP jQ) func186 ntmps186 results186
@[go_sem]def tZ:=(lw (mP .i64) (alK (.sO .nilIface) aDi kr))
@[go_sem]abbrev uw(F:Str->(List jI)->Bool->Str->Option TQ)(b:T9)(a:(Str×Unit)):=F a.1 b.1.1 b.1.2.1 b.2.1
@[go_sem]def DG(F:Str->(List jI)->Bool->Str->Option TQ):=Kr [.arg 0 [],.zi 0 1 []] jR (lH 0 (lw mq kr)) jR tZ (uw F)
@[reducible] def Oc:kG TQ:=oN fq f187 n (xT fq [.tmp 4,.tmp 5] [] [0,1] 2 jR tZ) (cl:=nE [(231,FL (HC n))])
def DH:SX (Oc n) (lH 0 (lw mq kr)) jR 19 uw:=mC
def FQ:=fu fun n=>(DH n).1
def Na:∀n:Nat,Bl fq 187 (lH 0 (lw mq kr)) jR jR tZ (uw (FQ n)):=VN fun n=>Jn (DH n) (gd (jL (mS (fun b a r h=>(aJL n) b.1.1 b.1.2.1 b.2.1 r h)) jP) jQ) func187 ntmps187 results187
@[reducible] def aic:kG Bool:=oN fq f127 n (oB fq [.tmp 2] nD)
def aJt:RM (aic n) (mP .i64) 17:=mB
def NL:=fu fun n=>(aJt n).1
def Nb:∀n:Nat,Ap fq 127 (mP .i64) nD (NL n):=BO fun n=>Bk (aJt n) (gd jP jQ) func127 ntmps127 results127
def II:Af:=⟨[],[],(zK::zA::zK::zK::nh (nj (nj []))),[oA Syntax.row],none,none⟩
@[reducible] def qg:kG (Tp×Unit):=oN fq f315 n (ajG fq [] (wh (oaT false Syntax.row) uA) Jl 1) (tv:=sj [([0,1],II)]) (xy:=mE []) (xF:=mE [])
def VU:wV (qg n) [0,0,1,0,0,1]=true:=jF
def VV:Fj (qg n) [0,0,1,0,0,1] 6 13 7 13 10 13 11 13/\Fj (qg n) [0,0,1,0,0,1] 12 13 13 14 6 15 7 15/\Fj (qg n) [0,0,1,0,0,1] 10 15 11 15 12 15 13 15/\RH (qg n) [0,0,1,0,0,1] 14 15=true:=⟨⟨jF,jF,jF,jF⟩,⟨jF,jF,jF,jF⟩,⟨jF,jF,jF,jF⟩,jF⟩
attribute [go_sem] VU VV II
@[go_sem]abbrev IJ(v0 v1:Int)(r0:List Syntax)(c0:Nat):jJ:=⟨(.lN 0 c0::qA::.int .i64 v0::.int .i64 v1::nu (nN (nN []))),[.lN false 8 (mp Syntax.cells r0)],1,[]⟩
abbrev IK:=Int->Int->(List Syntax)->Option (Tp×Unit)
abbrev UM(K:List Kt)(Z:IK):Prop:=∀v0 v1 r0 c0,c0=r0.length->run (qg n) K (IJ v0 v1 r0 c0)=Z v0 v1 r0
def BU:LB (UM n) [0,1] [.tX 0]:=mB
def BV:Nat->IK:=AU ((BU n).1)
def aj9{n:Nat}:BV n (m+1)=(BU n).1 (BV n m):=rfl
@[go_sem]def P3(m:Nat):=Dv (BU n) (BV n) m
def JK:{B:(List Syntax)->Option (Tp×Unit) //∀(a0:(List Syntax)),run (qg n) [.at []] (ini ((asA 0 (fun(b:Tp)=>b.1.length) LZ).enc (a0,()) ()) 28 ((wh (oaT false Syntax.row) uA).enc (a0,())))=B a0}:=mB
def Mk:=fu fun n=>(JK n).1
def UN:∀(n:Nat)(a0:(List Syntax))(r:(Tp×Unit)),Mk n a0=some r->FnG fq 315 ((asA 0 (fun(b:Tp)=>b.1.length) LZ).enc (a0,()) ()) ((wh (oaT false Syntax.row) uA).enc (a0,())) (fun o H'=>o=.ret (uv (Jl.enc r.1 r.2))/\H'=(wh (oaT false Syntax.row) uA).enc r.1)
 |0,_,_,h=>by cases h
 |n+1,a0,r,h=>by
  exact zg (M:=qg n) ⟨jP,jQ,qI _,rz _,uK,uM,vU,vg⟩ func315 rfl rfl (by simp only[go_sem,fB,fC,fw,fx,fD,fE,fG,fH,fI,fy,fF,fJ]) ((wh (oaT false Syntax.row) uA).nb _ _) ntmps315 results315 (fun J hs=>aco hs) (((JK n).2 a0).trans h)
open Go.Proofs
def VW:Af:=⟨[(3,1,true)],[],(zA::zA::zA::zK::nj (zA::zT (l8 jU.row)::zK::zK::nh (nh (nj (nj (zA::zA::zA::[])))))),[oD,oA mc],none,none⟩
@[reducible] def Je:kG Str:=oN fq f234 n (oB fq [.tmp 2] mq) (cl:=nE [(170,oI (mP .i64) mq (strconv_Itoa n)),(260,tj (l8 mc) mq mq (strings_Join n))]) (cd:=M5 [(170,rq (oI (mP .i64) mq (strconv_Itoa n)))]) (tv:=sj [([0,1,0,1,1,1],VW)]) (xy:=mE []) (xF:=mE [])
def aid:wV (Je n) [1,1,1,1,0,1,0,0,1,1,0,0,1,0,1,1,1]=true:=jF
def aie:aqW (Je n) [1,1,1,1,0,1,0,0,1,1,0,0,1,0,1,1,1] 2 9 5 9:=⟨jF,jF⟩
attribute [go_sem] aid aie VW
@[go_sem]abbrev VX(v0:List jU)(v1 v2:Int)(r1:List Str)(c1:Nat):jJ:=⟨(qA::qA::qA::.lN 1 c1::nN (qA::.kW false 2 (mp jU.cells v0)::.int .i64 v1::.int .i64 v2::nu (nu (nN (nN (qA::qA::qA::[])))))),[.xu,.lN true 1 (mp nY r1)],0,[]⟩
abbrev VY:=(List jU)->Int->Int->(List Str)->Option Str
abbrev agG(K:List Kt)(Z:VY):Prop:=∀v0 v1 v2 r1 c1,c1=r1.length->run (Je n) K (VX v0 v1 v2 r1 c1)=Z v0 v1 v2 r1
def Nc:LB (agG n) [0,1,0,1,1,1] [.tX 0,.cut [1,1,1,1],.at [1,1,1,1]]:=mB
def Nd:Nat->VY:=AU ((Nc n).1)
def at3{n:Nat}:Nd n (m+1)=(Nc n).1 (Nd n m):=rfl
@[go_sem]def acX(m:Nat):=Dv (Nc n) (Nd n) m
def aJu:RM (Je n) (lD jN.kv) 55:=mB
def UO:=fu fun n=>(aJu n).1
def VZ:∀n:Nat,Ap fq 234 (lD jN.kv) mq (UO n):=BO fun n=>Bk (aJu n) (gd (jL (lK (aJK n)) (jL (nT (aJp n)) jP)) (nf (mV (aJK n)) jQ)) func234 ntmps234 results234
@[reducible] def aif:kG Int:=oN fq f181 n (oB fq [.tmp 2] (mP .i64))
def aJv:RM (aif n) (mP .i64) 18:=mB
def adB:=fu fun n=>(aJv n).1
def agH:∀n:Nat,Ap fq 181 (mP .i64) (mP .i64) (adB n):=BO fun n=>Bk (aJv n) (gd jP jQ) func181 ntmps181 results181
@[reducible] def JL:kG Int:=oN fq f224 n (oB fq [.tmp 4] (mP .i64)) (tv:=sj [([0,1,0,1],D3)])
abbrev UP(K:List Kt)(Z:zr):Prop:=∀v0 v1 v2 v3,run (JL n) K (D4 v0 v1 v2 v3)=Z v0 v1 v2 v3
def BW:LB (UP n) [0,1,0,1] [.tX 0,.cut [1,1],.at [1,1]]:=mB
def BX:Nat->zr:=AU ((BW n).1)
def aka{n:Nat}:BX n (m+1)=(BW n).1 (BX n m):=rfl
@[go_sem]def P4(m:Nat):=Dv (BW n) (BX n) m
def JM:SC2 (JL n) (l8 mc) mq 19:=mB
def Ml:=fu fun n=>(JM n).1
def UQ:∀n:Nat,Fk fq 224 (l8 mc) mq (mP .i64) (Ml n):=Ks fun n=>Iz (JM n) (gd jP jQ) func224 ntmps224 results224
@[go_sem]def xe:Af:=⟨[],[],(zA::zT (ajZ 130 (l8 mc))::nj (zA::zA::zT (l8 Syntax.row)::zK::zK::nj (nj (zA::zA::[])))),[],none,none⟩
@[reducible] def xG:kG Int:=oN fq f129 n (oB fq [.tmp 4] (mP .i64)) (tv:=sj [([0,1,0,1],xe)])
@[go_sem]abbrev xf(v0:List Str)(v1:List Syntax)(v2 v3:Int):jJ:=⟨(qA::.func (.func 130) [.kW false 1 (mp nY v0)] []::nN (qA::qA::.kW false 8 (mp Syntax.cells v1)::.int .i64 v2::.int .i64 v3::nN (nN (qA::qA::[])))),[],0,[]⟩
abbrev qf:=(List Str)->(List Syntax)->Int->Int->Option Int
abbrev Fv(K:List Kt)(Z:qf):Prop:=∀v0 v1 v2 v3,run (xG n) K (xf v0 v1 v2 v3)=Z v0 v1 v2 v3
def sG:LB (Fv n) [0,1,0,1] [.tX 0,.cut [1,1],.at [1,1]]:=mB
def sH:Nat->qf:=AU ((sG n).1)
def XZ{n:Nat}:sH n (m+1)=(sG n).1 (sH n m):=rfl
@[go_sem]def Dy(m:Nat):=Dv (sG n) (sH n) m
def xH:SC2 (xG n) (l8 Syntax.row) (ajZ 130 (l8 mc)) 21:=mB
def yn:=fu fun n=>(xH n).1
def Fw:∀n:Nat,Fk fq 129 (l8 Syntax.row) (ajZ 130 (l8 mc)) (mP .i64) (yn n):=Ks fun n=>Iz (xH n) (gd jP jQ) func129 ntmps129 results129
@[reducible] def HH:kG TX:=oN fq f11 n (ajG fq [.tmp 3] (wh (Am cS) uA) (Qw nD Jl) 1) (cl:=nE [(12,tj mq mq nD (strings_Contains n))])
def A4:{B:Str->Str->Option TX //∀(a0:Str)(a1:Str),run (HH n) [.at []] (ini ((asT mq (RD 0 LZ)).enc (a1,()) (a0,())) 11 ((wh (Am cS) uA).enc (a1,())))=B a0 a1}:=mB
def CY:=fu fun n=>(A4 n).1
def QM:∀(n:Nat)(a0:Str)(a1:Str)(r:TX),CY n a0 a1=some r->FnG fq 11 ((asT mq (RD 0 LZ)).enc (a1,()) (a0,())) ((wh (Am cS) uA).enc (a1,())) (fun o H'=>o=.ret (uv ((Qw nD Jl).enc r.1 r.2))/\H'=(wh (Am cS) uA).enc r.1)
 |0,_,_,_,h=>by cases h
 |n+1,a0,a1,r,h=>by
  exact zg (M:=HH n) ⟨(jL (nT (yQ n)) jP),jQ,qI _,rz _,uK,uM,vU,vg⟩ func11 rfl rfl (by simp only[go_sem,fB,fC,fw,fx,fD,fE,fG,fH,fI,fy,fF,fJ]) ((wh (Am cS) uA).nb _ _) ntmps11 results11 (fun J hs=>aco hs) (((A4 n).2 a0 a1).trans h)
open Go.Proofs
@[reducible] def akb:kG Bool:=oN fq f236 n (oB fq [.tmp 2] nD) (cl:=nE [(270,oI (mP .u8) nD (PZ n))])
def QN:RM (akb n) (mP .u8) 9:=mB
def K2:=fu fun n=>(QN n).1
def aJw:∀n:Nat,Ap fq 236 (mP .u8) nD (K2 n):=BO fun n=>Bk (QN n) (gd (jL (lK (ah7 n)) jP) jQ) func236 ntmps236 results236
@[go_sem]def adC:Af:=⟨[],[],(zK::zA::zA::zK::zK::nh (nh (nj (nj [])))),[],none,none⟩
@[reducible] def afv:kG Bool:=oN fq f162 n (oB fq [.tmp 2] nD) (cl:=nE [(217,oI (mP .u8) nD (P0 n))]) (tv:=sj [([0,1,0,1,1,1],adC)])
@[go_sem]abbrev adD(v0:Str)(v1:Bool)(v2:Int):jJ:=⟨(.str (sb v0)::qA::qA::.bool v1::.int .i64 v2::nu (nu (nN (nN [])))),[],0,[]⟩
abbrev adE:=Str->Bool->Int->Option Bool
abbrev alz(K:List Kt)(Z:adE):Prop:=∀v0 v1 v2,run (afv n) K (adD v0 v1 v2)=Z v0 v1 v2
def IL:LB (alz n) [0,1,0,1,1,1] [.tX 0,.cut [1,1,1,1],.at [1,1,1,1]]:=mB
def IM:Nat->adE:=AU ((IL n).1)
def Za{n:Nat}:IM n (m+1)=(IL n).1 (IM n m):=rfl
@[go_sem]def agI(m:Nat):=Dv (IL n) (IM n) m
def X1:RM (afv n) mq 45:=mB
def X4:=fu fun n=>(X1 n).1
def alD:∀n:Nat,Ap fq 162 mq nD (X4 n):=BO fun n=>Bk (X1 n) (gd (jL (lK (ah8 n)) jP) jQ) func162 ntmps162 results162
@[reducible] def aoj:kG Str:=oN fq f138 n (oB fq [.tmp 2] mq) (cl:=nE [(137,oI (lD jI.kv) nD (DX n))])
def X5:RM (aoj n) (lD jI.kv) 13:=mB
def Nf:=fu fun n=>(X5 n).1
def adF:∀n:Nat,Ap fq 138 (lD jI.kv) mq (Nf n):=BO fun n=>Bk (X5 n) (gd (jL (lK (ID n)) jP) jQ) func138 ntmps138 results138
@[go_sem]def aa1:Af:=⟨[],[],(zA::zK::zK::zA::zA::zA::zK::nh (zA::[])),[oT jI.kv],none,none⟩
@[reducible] def adG:kG Bool:=oN fq f192 n (oB fq [.tmp 4] nD) (cl:=nE [(137,oI (lD jI.kv) nD (DX n))]) (tv:=sj [([0,1,0,1,1,1],aa1)])
@[go_sem]abbrev aa2(v0:Str)(v1:Int)(o0:jI):jJ:=⟨(qA::.str (sb v0)::.ptr 0 0::qA::qA::qA::.int .i64 v1::nu (qA::[])),[.cells (jI.cells o0)],0,[]⟩
abbrev aa3:=Str->Int->jI->Option Bool
abbrev akc(K:List Kt)(Z:aa3):Prop:=∀v0 v1 o0,run (adG n) K (aa2 v0 v1 o0)=Z v0 v1 o0
def Gk:LB (akc n) [0,1,0,1,1,1] [.tX 0,.cut [1,1,1,1],.at [1,1,1,1]]:=mB
def CZ:Nat->aa3:=AU ((Gk n).1)
def V0{n:Nat}:CZ n (m+1)=(Gk n).1 (CZ n m):=rfl
@[go_sem]def afw(m:Nat):=Dv (Gk n) (CZ n) m
def UR:SC2 (adG n) (lD jI.kv) mq 24:=mB
def Od:=fu fun n=>(UR n).1
def akd:∀n:Nat,Fk fq 192 (lD jI.kv) mq nD (Od n):=Ks fun n=>Iz (UR n) (gd (jL (lK (ID n)) jP) jQ) func192 ntmps192 results192
@[go_sem]def wX:Af:=⟨[],[],(zT (l8 jI.row)::zT (tyF 31)::nj (zA::zK::zK::nj (nj (zA::zA::[])))),[],none,none⟩
@[reducible] def xg:kG Int:=oN fq f74 n (oB fq [.tmp 4] (mP .i64)) (cl:=nE [(31,oI (lD jI.kv) nD (XN n))]) (tv:=sj [([0,1,0,1],wX)])
@[go_sem]abbrev wY(v0:List jI)(v1 v2:Int):jJ:=⟨(.kW false 4 (mp jI.cells v0)::.func (.func 31) [] []::nN (qA::.int .i64 v1::.int .i64 v2::nN (nN (qA::qA::[])))),[],0,[]⟩
abbrev wZ:=(List jI)->Int->Int->Option Int
abbrev EK(K:List Kt)(Z:wZ):Prop:=∀v0 v1 v2,run (xg n) K (wY v0 v1 v2)=Z v0 v1 v2
def ot:LB (EK n) [0,1,0,1] [.tX 0,.cut [1,1],.at [1,1]]:=mB
def ou:Nat->wZ:=AU ((ot n).1)
def vX{n:Nat}:ou n (m+1)=(ot n).1 (ou n m):=rfl
@[go_sem]def C0(m:Nat):=Dv (ot n) (ou n) m
def sI:SC2 (xg n) (l8 jI.row) (tyF 31) 19:=mB
def tD:=fu fun n=>(sI n).1
def EL:∀n:Nat,Fk fq 74 (l8 jI.row) (tyF 31) (mP .i64) (tD n):=Ks fun n=>Iz (sI n) (gd (jL (lK (ah9 n)) jP) jQ) func74 ntmps74 results74
@[go_sem]def adH:Af:=⟨[],[],(nj (zK::zK::nj (zT (l8 Syntax.row)::zK::zK::nj (nj (zA::[]))))),[oK,oT Syntax.kv],none,none⟩
@[reducible] def afx:kG Syntax:=oN fq f32 n (oB fq [.cell 4 37] (lD Syntax.kv)) (cl:=nE [(33,oI mq (lD Syntax.kv) (aaR n))]) (tv:=sj [([0,1,0,1,1],adH)])
@[go_sem]abbrev adI(v0:List Syntax)(v1 v2:Int)(o1:Syntax):jJ:=⟨(nN (.ptr 0 0::.ptr 1 0::nN (.kW false 8 (mp Syntax.cells v0)::.int .i64 v1::.int .i64 v2::nN (nN (qA::[]))))),[.cells [.int .i64 0,.str (sb []),.int .i64 0,.kW true 0 [],.kW true 0 [],.kW true 0 [],.int .i64 0,.int .i64 0],.cells (Syntax.cells o1)],0,[]⟩
abbrev adJ:=(List Syntax)->Int->Int->Syntax->Option Syntax
abbrev alE(K:List Kt)(Z:adJ):Prop:=∀v0 v1 v2 o1,run (afx n) K (adI v0 v1 v2 o1)=Z v0 v1 v2 o1
def US:LB (alE n) [0,1,0,1,1] [.tX 0,.cut [1,1,1],.at [1,1,1]]:=mB
def UT:Nat->adJ:=AU ((US n).1)
def axs{n:Nat}:UT n (m+1)=(US n).1 (UT n m):=rfl
@[go_sem]def agJ(m:Nat):=Dv (US n) (UT n) m
def afy:SC2 (afx n) mq (l8 Syntax.row) 22:=mB
def ake:=fu fun n=>(afy n).1
def alG:∀n:Nat,Fk fq 32 mq (l8 Syntax.row) (lD Syntax.kv) (ake n):=Ks fun n=>Iz (afy n) (gd (jL (lK (aaS n)) jP) jQ) func32 ntmps32 results32
open Go.Proofs
@[go_sem]def wQ:=(lH 0 (lH 1 (lH 2 (lw (Ut 85 (lD jW.kv)) kr))))
@[reducible] def vh:kG (Ti×Unit):=oN fq f41 n (xT fq [] [] [0,1,2] 3 ke kr) (cl:=nE [(42,aJs (NK n))]) (xy:=mE []) (xF:=mE [])
@[go_sem]def aem:wV (vh n) [1,0,1,1]=true:=jF
@[go_sem]def aen:Fj (vh n) [1,0,1,1] 2 6 5 6 2 7 4 7/\aqW (vh n) [1,0,1,1] 5 7 6 7:=⟨⟨jF,jF,jF,jF⟩,jF,jF⟩
def D6:{B:jW->Syntax->Int->Int->Option (Ti×Unit) //∀(a0:jW)(o0:Syntax)(o1:Int)(o2:Int),run (vh n) [.j8 (tP (vh n) [0]) ((tP (vh n) [0]).toList.drop 1),.cut [1],.at [1]] (jJ.put {jV:=((lH 0 (lH 1 (lH 2 kr))).enc (ke.l9 ((o0,()),(o1,()),(o2,()),())) ())++fK (15-((lH 0 (lH 1 (lH 2 kr))).enc (ke.l9 ((o0,()),(o1,()),(o2,()),())) ()).length) qA,heap:=(ke.enc (ke.l9 ((o0,()),(o1,()),(o2,()),())) ((o0,()),(o1,()),(o2,()),())),low:=(ke.enc (ke.l9 ((o0,()),(o1,()),(o2,()),())) ((o0,()),(o1,()),(o2,()),())).length} (some 5) ((Ut 85 (lD jW.kv)).enc a0))=B a0 o0 o1 o2}:=mB
def ua:=fu fun n=>(D6 n).1
def acY:∀(n:Nat)(a0:jW)(o0:Syntax)(o1:Int)(o2:Int)(r:(Ti×Unit)),ua n a0 o0 o1 o2=some r->FnT fq (ale fq 41) (wQ.enc (ke.l9 ((o0,()),(o1,()),(o2,()),())) (a0,())) (ke.enc (ke.l9 ((o0,()),(o1,()),(o2,()),())) ((o0,()),(o1,()),(o2,()),())) (fun o H'=>o=(enR ke kr r).1/\H'=(enR ke kr r).2)
 |0,_,_,_,_,_,h=>by cases h
 |n+1,a0,o0,o1,o2,r,h=>by
  exact afn (M:=vh n) (p1:=[]) (b1:=[0,1,2]) (args:=((lH 0 (lH 1 (lH 2 kr))).enc (ke.l9 ((o0,()),(o1,()),(o2,()),())) ())) (x:=(Ut 85 (lD jW.kv)).enc a0) ⟨(jL (mS (agE n)) jP),jQ,qI _,rz _,uK,uM,vU,vg⟩ func41 rfl (jF) (sY (fL (jC (jF)) (fM (ke.sz _ _).symm)) _ (wQ.nb (ke.l9 ((o0,()),(o1,()),(o2,()),())) (a0,()))) (fun x hx=>Ff (fL (jC (jF)) (fM (ke.sz _ _).symm)) _ (ke.nb _ _ x hx)) ntmps41 results41 (low:=3) (by rfl) rfl (((D6 n).2 a0 o0 o1 o2).trans h)
@[go_sem]def K3:Af:=⟨[],[],(zK::zT (Ch cS)::zA::zK::zK::nh (nh (nh (zA::zA::zA::[])))),[oL [zA,zK,zA,zA,zA,zA,zA,zA,zA],oC [zK],oK],none,none⟩
@[go_sem]abbrev AE(F:Str->Tb->Option (Tz×Unit))(b:(Unit×(Unit×(Tb×Unit))))(a:(Str×Unit)):=F a.1 b.2.2.1
@[go_sem]def Mm(F:Str->Tb->Option (Tz×Unit)):=Kr [.arg 0 [],.zi 0 1 [],.zi 1 0 []] kH (alM 0 (lw (Ch cS) kr)) lJ kr (AE F)
@[reducible] def Mn:kG (Tz×Unit):=oN fq f274 n (xT fq [] [] [0,1,2] 3 lJ kr) (tv:=sj [([0,1,0,1],K3)]) (cy:=aqv [(0,ayB [.zi 0 1 [],.zi 1 0 []] kH (lw mq kr) lJ (lw nD kr) (fun(b:(Unit×(Unit×(Tb×Unit))))(a:(Str×Unit))=>(FM n) a.1 b.2.2.1))])
@[go_sem]abbrev K4(v0:Str)(v1 v2 j0:Int)(r2:List (Str×Bool)):jJ:=⟨(.map 0::.pp [.str (sb v0)]::qA::.int .i64 v1::.int .i64 v2::nu (nu (nu (qA::qA::qA::[])))),[.loop nB [qA,.ptr 1 0,qA,qA,qA,qA,qA,qA,qA] (stJ nB j0) j0,.cells [.map 2],.map (mp He r2)],3,[]⟩
abbrev K5:=Str->Int->Int->Int->Tb->Option (Tz×Unit)
abbrev X6(K:List Kt)(Z:K5):Prop:=∀v0 v1 v2 j0 r2,run (Mn n) K (K4 v0 v1 v2 j0 r2)=Z v0 v1 v2 j0 r2
def D7:LB (X6 n) [0,1,0,1] [.tX 0,.cut [1,1],.at [1,1]]:=mB
def D8:Nat->K5:=AU ((D7 n).1)
def alH{n:Nat}:D8 n (m+1)=(D7 n).1 (D8 n m):=rfl
@[go_sem]def RY(m:Nat):=Dv (D7 n) (D8 n) m
def Mo:SX (Mn n) (alM 0 (lw (Ch cS) kr)) kH 56 AE:=mC
def PC:=fu fun n=>(Mo n).1
def X7:∀n:Nat,Bl fq 274 (alM 0 (lw (Ch cS) kr)) kH lJ kr (AE (PC n)):=VN fun n=>Jn (Mo n) (gd jP jQ (y:=(afg (fun _ _ _ _ _ h=>au0 (fun b a r h=>(M8 n) a.1 b.2.2.1 r h) h) aht))) func274 ntmps274 results274
@[reducible] def akf:kG Bool:=oN fq f194 n (oB fq [.tmp 2] nD) (cl:=nE [(193,oI (mP .u8) (mP .i64) (DF n))])
def QO:RM (akf n) (mP .u8) 15:=mB
def zu:=fu fun n=>(QO n).1
def aJQ:∀n:Nat,Ap fq 194 (mP .u8) nD (zu n):=BO fun n=>Bk (QO n) (gd (jL (lK (Gj n)) jP) jQ) func194 ntmps194 results194
@[reducible] def alI:kG (List Str):=oN fq f195 n (oB fq [.tmp 0] (l8 mc)) (cl:=nE [(240,oI mq (l8 mc) (aaZ n))])
def adK:SC0 (alI n) 2:=mB
def Oe:=fu fun n=>(adK n).1
def aa4:∀n:Nat,atX fq 195 (l8 mc) (Oe n):=aB3 fun n=>aB2 (adK n) (gd (jL (lK (afu n)) jP) jQ) func195 ntmps195 results195
def Of:Af:=⟨[],[],(DU (DU (nh (nh (nj (nj (nj (zA::zA::zA::zK::nj (nj (zA::zA::zA::[])))))))))),[oK],none,none⟩
def Og:Af:=⟨[],[],(zK::nj (zA::zA::zK::zK::zK::zA::zA::zK::DU (DU (nh (nh (nj (nj (nj (zA::zA::[]))))))))),[],none,none⟩
def Oh:Af:=⟨[],[],(zK::nj (zA::zA::zK::zK::zK::DU (DU (nh (nh (nh (zA::[]))))))),[],none,none⟩
@[reducible] def yX:kG Int:=oN fq f276 n (oB fq [.tmp 4] (mP .i64)) (cl:=nE [(302,tj mq (mP .u8) (mP .i64) (strings_IndexByte n)),(303,oI (mP .i32) nD (zk n))]) (cd:=M5 [(302,rq (tj mq (mP .u8) (mP .i64) (strings_IndexByte n)))]) (tv:=sj [([0,1,0,0,1,1,1,0,1],Of),([0,1,0,1,0,0,1,0,0,0,1,1,1,1,0,1,1,1,1,1,1,0,1],Og),([0,0,1,1,1,1,0,1,1,1,1,1,1,0,1],Oh)]) (xy:=mE []) (xF:=mE [])
def acZ:aB0 (yX n) [0,0,0,0,1,0,0,0,1,1,1,1,0,1,1,1,1,1,1,0,1] [0,0,0,1,0,0,1,0,1,0,0,1,0,0,0,1,1,1,1,0,1,1,1,1,1,1,0,1] [0,0,1,0,0,0,1,0,0,0,1,1,1,1,0,1,1,1,1,1,1,0,1]:=⟨jF,jF,jF⟩
attribute [go_sem] acZ Of Og Oh
abbrev Oi(iv0:Str)(ip0:Nat):jJ:=⟨(DT (DT (nu (nu (nN (nN (nN (qA::qA::qA::.ptr 0 0::nN (nN (qA::qA::qA::[])))))))))),[.iter (sb iv0) ip0],0,[]⟩
abbrev Oj:List Kt:=[.tX 9,.cut [1,0,1,1,1,0,1],.at [1,0,1,1,1,0,1],.tX 0]
abbrev Ol:=Str->Nat->Option Int
abbrev aa5(K:List Kt)(Z:Ol):Prop:=∀iv0 ip0,run (yX n) K (Oi iv0 ip0)=Z iv0 ip0
abbrev Om(v0 v1:Str)(v2 v3 v4:Int):jJ:=⟨(.str (sb v0)::nN (qA::qA::.str (sb v1)::.int .i64 v2::.int .i64 v3::qA::qA::.int .i64 v4::DT (DT (nu (nu (nN (nN (nN (qA::qA::[]))))))))),[],0,[]⟩
abbrev On(m3:Nat):List Kt:=[.tX 3,.cut [1,1,0,0,1,0,0,0,1,1,1,1,0,1,1,1,1,1,1,0,1],.at [1,1,0,0,1,0,0,0,1,1,1,1,0,1,1,1,1,1,1,0,1],.tX 2,.lp m3 [0,0,1,1,1,1,0,1,1,1,1,1,1,0,1],.tX 1,.cut [1,1,1,1,1,0,1,1,1,1,1,1,0,1],.at [1,1,1,1,1,0,1,1,1,1,1,1,0,1],.tX 0]
abbrev Oo:=Str->Str->Int->Int->Int->Option Int
abbrev aa6(K:List Kt)(Z:Oo):Prop:=∀v0 v1 v2 v3 v4,run (yX n) K (Om v0 v1 v2 v3 v4)=Z v0 v1 v2 v3 v4
abbrev Oq(v0 v1:Str)(v2 v3:Int):jJ:=⟨(.str (sb v0)::nN (qA::qA::.str (sb v1)::.int .i64 v2::.int .i64 v3::DT (DT (nu (nu (nu (qA::[]))))))),[],0,[]⟩
abbrev Bo:List Kt:=[.tX 1,.cut [1,1,1,1,1,0,1,1,1,1,1,1,0,1],.at [1,1,1,1,1,0,1,1,1,1,1,1,0,1],.tX 0]
abbrev Bp:=Str->Str->Int->Int->Option Int
abbrev Gl(K:List Kt)(Z:Bp):Prop:=∀v0 v1 v2 v3,run (yX n) K (Oq v0 v1 v2 v3)=Z v0 v1 v2 v3
attribute [go_sem] Oi Oj Om On Oq Bo
def Gm:LB (aa5 n) [0,1,0,0,1,1,1,0,1] Oj:=mB
def Gn:Nat->Ol:=AU ((Gm n).1)
def aok{n:Nat}:Gn n (m+1)=(Gm n).1 (Gn n m):=rfl
@[go_sem]def JN(m:Nat):=Dv (Gm n) (Gn n) m
def Gp:LB2 (Gl n) [0,0,1,1,1,1,0,1,1,1,1,1,1,0,1] Bo (aa6 n) [0,1,0,1,0,0,1,0,0,0,1,1,1,1,0,1,1,1,1,1,1,0,1] On:=mB
def Gq(X3:Bp):Nat->Oo:=AU ((Gp n).1 X3)
def aol{n:Nat}(X3:Bp):Gq n X3 (m+1)=(Gp n).1 X3 (Gq n X3 m):=rfl
def V1{m3:Nat}{X3}(h3:Gl n (.lq m3 [0,0,1,1,1,1,0,1,1,1,1,1,1,0,1]::Bo) X3)(m:Nat):=atW (Gp n) h3 (Gq n X3) m
def Bq:LB (Gl n) [0,0,1,1,1,1,0,1,1,1,1,1,1,0,1] Bo:=by
 apply fN;intro m X0 ih v0 v1 v2 v3;simp (config:={maxSteps:=100000000}) only[go_sem,fB,fC,fw,fx,fD,fE,fG,fH,fI,fy,fF,fJ,f276,fA,mixed,JN n,V1 n ih,ih];exact rfl
def Br:Nat->Bp:=AU ((Bq n).1)
def X8{n:Nat}:Br n (m+1)=(Bq n).1 (Br n m):=rfl
@[go_sem]def V2(m:Nat):=Dv (Bq n) (Br n) m
def Ic:SC2 (yX n) mq (mP .i32) 187:=mB
def oO:=fu fun n=>(Ic n).1
def Ot:∀n:Nat,Fk fq 276 mq (mP .i32) (mP .i64) (oO n):=Ks fun n=>Iz (Ic n) (gd (jL (nT (N8 n)) (jL (lK (RO n)) jP)) (nf (wu (N8 n)) jQ)) func276 ntmps276 results276
@[reducible] def ac0:kG Bool:=oN fq f244 n (oB fq [.tmp 4] nD) (cl:=nE [(280,tj mq mq nD (xA n))])
def Ie:SC2 (ac0 n) mq mq 8:=mB
def FR:=fu fun n=>(Ie n).1
def aa7:∀n:Nat,Fk fq 244 mq mq nD (FR n):=Ks fun n=>Iz (Ie n) (gd (jL (nT (Kv n)) jP) jQ) func244 ntmps244 results244
open Go.Proofs
@[reducible] def Ou:kG Int:=oN fq f84 n (oB fq [.tmp 2] (mP .i64)) (cd:=M5 [(94,rq (oI (Ch jH.kv) (lD kF.kv) (lT n)))]) (xy:=mE []) (xF:=mE [])
@[go_sem]def aa8:wV (Ou n) [0,1]=true:=jF
def Gr:RM (Ou n) (Ch jH.kv) 11:=mB
def p8:=fu fun n=>(Gr n).1
def uE:∀n:Nat,Ap fq 84 (Ch jH.kv) (mP .i64) (p8 n):=BO fun n=>Bk (Gr n) (gd jP (nf (mV (lW n)) jQ)) func84 ntmps84 results84
@[reducible] def Gs:kG (Te×(Str×Unit)):=oN fq f88 n (ajG fq [.tmp 2] (wh (Am jH.kv) uA) (Qw mq Jl) 1) (cl:=nE [(94,Dx (rq (oI (Ch jH.kv) (lD kF.kv) (lT n))))]) (xy:=mE []) (xF:=mE [])
@[go_sem]def aa9:wV (Gs n) [0,0,1,1]=true:=jF
def Gt:{B:jH->Option (Te×(Str×Unit)) //∀(a0:jH),run (Gs n) [.at []] (ini ((RD 0 LZ).enc (a0,()) ()) 26 ((wh (Am jH.kv) uA).enc (a0,())))=B a0}:=mB
def kL:=fu fun n=>(Gt n).1
def lE:∀(n:Nat)(a0:jH)(r:(Te×(Str×Unit))),kL n a0=some r->FnG fq 88 ((RD 0 LZ).enc (a0,()) ()) ((wh (Am jH.kv) uA).enc (a0,())) (fun o H'=>o=.ret (uv ((Qw mq Jl).enc r.1 r.2))/\H'=(wh (Am jH.kv) uA).enc r.1)
 |0,_,_,h=>by cases h
 |n+1,a0,r,h=>by
  exact zg (M:=Gs n) ⟨(jL (qd (mV (lW n))) jP),jQ,qI _,rz _,uK,uM,vU,vg⟩ func88 rfl rfl (by simp only[go_sem,fB,fC,fw,fx,fD,fE,fG,fH,fI,fy,fF,fJ]) ((wh (Am jH.kv) uA).nb _ _) ntmps88 results88 (fun J hs=>aco hs) (((Gt n).2 a0).trans h)
@[reducible] def aeo:kG Bool:=oN fq f85 n (oB fq [.tmp 6] nD) (cl:=nE [(94,oI (Ch jH.kv) (lD kF.kv) (lT n))])
def Js:SC3 (aeo n) (Ch jH.kv) (mP .i64) mq 20:=mB
def vo:=fu fun n=>(Js n).1
def yY:∀n:Nat,atY fq 85 (Ch jH.kv) (mP .i64) mq nD (vo n):=aEI fun n=>aB4 (Js n) (gd (jL (lK (lW n)) jP) jQ) func85 ntmps85 results85
@[reducible] def X9:kG Bool:=oN fq f207 n (oB fq [.tmp 2] nD) (cl:=nE [(12,tj mq mq nD (strings_Contains n)),(94,oI (Ch jH.kv) (lD kF.kv) (lT n))])
def D9:RM (X9 n) (Ch jH.kv) 15:=mB
def vp:=fu fun n=>(D9 n).1
def C1:∀n:Nat,Ap fq 207 (Ch jH.kv) nD (vp n):=BO fun n=>Bk (D9 n) (gd (jL (nT (yQ n)) (jL (lK (lW n)) jP)) jQ) func207 ntmps207 results207
def V3:Af:=⟨[],[],(zA::zK::zK::nh (nh (zA::zA::zA::zK::zK::nj (nj (nj (zA::zA::[])))))),[oC [zK,zK,zK,zK,zK,zK,zK,zK],oK,oA mc,oA jN.row,oA Syntax.row],none,none⟩
def V4:Af:=⟨[],[],(zA::zK::zK::nj (nj (nj (zK::zK::nh (nh (nj (zA::[]))))))),[oC [zK,zK,zK,zK,zK,zT (l8 Syntax.row),zK,zK],oK,oA mc,oA jN.row],none,none⟩
@[reducible] def w4(X:Syntax->Option Syntax)(n:Nat):kG Syntax:=oN fq f208 n (oB fq [.cell 2 37] (lD Syntax.kv)) (cl:=nE [(37,Bh [] uA (asT (l8 mc) LZ) (wh (oaT true mc) uA) (rsA 0 (fun(b:To)=>b.1.length) Jl) (fun(b:Unit) a=>(uD n) a.1)),(247,Bh [] uA (asT (l8 jN.row) LZ) (wh (oaT false jN.row) uA) (rsA 0 (fun(b:(Tg×Unit))=>b.1.length) Jl) (fun(b:Unit) a=>(wx n) a.1)),(249,Bh [] uA (asT (l8 Syntax.row) LZ) (wh (oaT false Syntax.row) uA) (rsA 0 (fun(b:Tp)=>b.1.length) Jl) (fun(b:Unit) a=>(AC n) a.1))]) (cd:=M5 [(208,rq (oI (lD Syntax.kv) (lD Syntax.kv) X)),(248,rq (oI (l8 jU.row) (l8 jU.row) (zm n)))]) (tv:=sj [([0,1,0,1,1,1,1,1],V3),([0,1,0,1,1,1],V4)]) (cut:=aaH [([1,1,1,1,1,1],[3,4])]) (xy:=mE []) (xF:=mE [])
def aig(X:Syntax->Option Syntax)(n:Nat):agz (w4 X n) [1,0,0,1,1,0,0,1,0,1,1,1] [1,0,0,1,1,0,0,1,0,1,1,1,1,1]:=⟨jF,jF⟩
def aih(X:Syntax->Option Syntax)(n:Nat):Fj (w4 X n) [1,0,0,1,1,0,0,1,0,1,1,1] 1 12 4 12 6 12 8 12/\RH (w4 X n) [1,0,0,1,1,0,0,1,0,1,1,1] 10 12=true/\Fj (w4 X n) [1,0,0,1,1,0,0,1,0,1,1,1,1,1] 1 10 4 10 6 10 7 10/\RH (w4 X n) [1,0,0,1,1,0,0,1,0,1,1,1,1,1] 9 10=true:=⟨⟨jF,jF,jF,jF⟩,jF,⟨jF,jF,jF,jF⟩,jF⟩
attribute [go_sem] aig aih V3 V4
@[go_sem]abbrev V5(v0 v1 v2:Int)(v3:Str)(v4 v5 v6:Int)(r2:List Str)(r3:List jN)(r4:List Syntax)(c2:Nat)(c3:Nat)(c4:Nat):jJ:=⟨(qA::.ptr 0 0::.ptr 1 0::nu (nu (qA::qA::qA::.int .i64 v0::.int .i64 v1::nN (nN (nN (qA::qA::[])))))),[.cells [.int .i64 v2,.str (sb v3),.int .i64 v4,.lN 2 c2,.lN 3 c3,.lN 4 c4,.int .i64 v5,.int .i64 v6],.cells [.int .i64 0,.str (sb []),.int .i64 0,.kW true 0 [],.kW true 0 [],.kW true 0 [],.int .i64 0,.int .i64 0],.lN true 1 (mp nY r2),.lN false 2 (mp jN.cells r3),.lN false 8 (mp Syntax.cells r4)],0,[]⟩
abbrev V6:=Int->Int->Int->Str->Int->Int->Int->(List Str)->Tg->(List Syntax)->Option Syntax
abbrev agK(X:Syntax->Option Syntax)(n:Nat)(K:List Kt)(Z:V6):Prop:=∀v0 v1 v2 v3 v4 v5 v6 r2 r3 r4 c2 c3 c4,c2=r2.length->c3=r3.length->c4=r4.length->run (w4 X n) K (V5 v0 v1 v2 v3 v4 v5 v6 r2 r3 r4 c2 c3 c4)=Z v0 v1 v2 v3 v4 v5 v6 r2 r3 r4
@[go_sem]abbrev V7(v0 v1 v2:Int)(v3:Str)(v4:Int)(v5:List Syntax)(v6 v7:Int)(r2:List Str)(r3:List jN)(c2:Nat)(c3:Nat):jJ:=⟨(qA::.ptr 0 0::.ptr 1 0::nN (nN (nN (.int .i64 v0::.int .i64 v1::nu (nu (nN (qA::[]))))))),[.cells [.int .i64 v2,.str (sb v3),.int .i64 v4,.lN 2 c2,.lN 3 c3,.kW false 8 (mp Syntax.cells v5),.int .i64 v6,.int .i64 v7],.cells [.int .i64 0,.str (sb []),.int .i64 0,.kW true 0 [],.kW true 0 [],.kW true 0 [],.int .i64 0,.int .i64 0],.lN true 1 (mp nY r2),.lN false 2 (mp jN.cells r3)],0,[]⟩
abbrev V8:=Int->Int->Int->Str->Int->(List Syntax)->Int->Int->(List Str)->Tg->Option Syntax
abbrev agL(X:Syntax->Option Syntax)(n:Nat)(K:List Kt)(Z:V8):Prop:=∀v0 v1 v2 v3 v4 v5 v6 v7 r2 r3 c2 c3,c2=r2.length->c3=r3.length->run (w4 X n) K (V7 v0 v1 v2 v3 v4 v5 v6 v7 r2 r3 c2 c3)=Z v0 v1 v2 v3 v4 v5 v6 v7 r2 r3
def C2(X:Syntax->Option Syntax)(n:Nat):LB (agK X n) [0,1,0,1,1,1,1,1] [.tX 2,.cut [1,1,1,1,1,1],.at [1,1,1,1,1,1]]:=mB
def C3(X:Syntax->Option Syntax)(n:Nat):Nat->V6:=AU ((C2 X n).1)
def QP(X:Syntax->Option Syntax){n:Nat}:C3 X n (m+1)=(C2 X n).1 (C3 X n m):=rfl
@[go_sem]def ac1(X:Syntax->Option Syntax)(n:Nat)(m:Nat):=Dv (C2 X n) (C3 X n) m
def C4(X:Syntax->Option Syntax)(n:Nat):LB (agL X n) [0,1,0,1,1,1] [.tX 0,.cut [1,1,1,1],.at [1,1,1,1]]:=mB
def C5(X:Syntax->Option Syntax)(n:Nat):Nat->V8:=AU ((C4 X n).1)
def QQ(X:Syntax->Option Syntax){n:Nat}:C5 X n (m+1)=(C4 X n).1 (C5 X n m):=rfl
@[go_sem]def ac2(X:Syntax->Option Syntax)(n:Nat)(m:Nat):=Dv (C4 X n) (C5 X n) m
def aJR(X:Syntax->Option Syntax)(n:Nat):RM (w4 X n) (lD Syntax.kv) 54:=mB
def wj:Nat->Syntax->Option Syntax
 |0,_=>none
 |n+1,a0=>(aJR (wj n) n).1 a0
def V9:∀n:Nat,Ap fq 208 (lD Syntax.kv) (lD Syntax.kv) (wj n)
 |0=>fun _ _ h=>(by cases h)
 |n+1=>by
  have agM:=V9 n;exact Bk (aJR (wj n) n) (gd (jL (pQ (fun b a r h=>(IE n) a.1 r h)) (jL (pQ (fun b a r h=>(Ob n) a.1 r h)) (jL (pQ (fun b a r h=>(UF n) a.1 r h)) jP))) (nf (mV (agM)) (nf (mV (RT n)) jQ))) func208 ntmps208 results208
@[reducible] def Bt:kG (Te×(Syntax×Unit)):=oN fq f150 n (ajG fq [.cell 2 37] (wh (Am jH.kv) uA) (Qw (lD Syntax.kv) Jl) 1) (co:=PY [(205,aJo (rq (oI (Ch jH.kv) (mP .i64) (pq n))))]) (xy:=mE [205]) (xF:=mE [])
@[go_sem]def aba:wV (Bt n) [0,1]=true:=jF
@[go_sem]def abb:awD (Bt n) [0,1] 3 7 3 9 7 9:=⟨jF,jF,jF⟩
def Gu:{B:jH->Option (Te×(Syntax×Unit)) //∀(a0:jH),run (Bt n) [.at []] (ini ((RD 0 LZ).enc (a0,()) ()) 12 ((wh (Am jH.kv) uA).enc (a0,())))=B a0}:=EH
def xB:=fu fun n=>(Gu n).1
def Mp:∀(n:Nat)(a0:jH)(r:(Te×(Syntax×Unit))),xB n a0=some r->FnG fq 150 ((RD 0 LZ).enc (a0,()) ()) ((wh (Am jH.kv) uA).enc (a0,())) (fun o H'=>o=.ret (uv ((Qw (lD Syntax.kv) Jl).enc r.1 r.2))/\H'=(wh (Am jH.kv) uA).enc r.1)
 |0,_,_,h=>by cases h
 |n+1,a0,r,h=>by
  exact zg (M:=Bt n) ⟨jP,jQ,qI _,rz _,uK,uM,vU,(ng (N4 (mV (tC n))) tz)⟩ func150 rfl rfl (by simp only[go_sem,fB,fC,fw,fx,fD,fE,fG,fH,fI,fy,fF,fJ]) ((wh (Am jH.kv) uA).nb _ _) ntmps150 results150 (fun J hs=>aco hs) (((Gu n).2 a0).trans h)
open Go.Proofs
@[go_sem]def Gv:Af:=⟨[],[],(zK::zT (Ch (cL jS.row))::zA::zK::nj (nj (nj (zA::zA::zA::[])))),[oL [zA,zA,zA,zK,zA,zK,zA,zA,zA,zA,zA,zA,zA,zA,zA,zA,zA,zA,zA,zA,zA,zA,zA,zA,zA,zA,zA,zA,zA],oT Syntax.kv,oT Syntax.kv],none,none⟩
@[go_sem]def wA:=(alM 0 (lw (Ch (cL jS.row)) kr))
@[go_sem]abbrev w7(F:TB->Syntax->Syntax->Option (Tt×Unit))(b:T10)(a:(TB×Unit)):=F a.1 b.2.1.1 b.2.2.1.1
@[go_sem]def HI(F:TB->Syntax->Syntax->Option (Tt×Unit)):=Kr [.arg 0 [],.zi 0 3 [],.zi 0 5 []] kN wA mQ kr (w7 F)
@[reducible] def HJ:kG (Tt×Unit):=oN fq f246 n (xT fq [] [] [0,1,2] 3 mQ kr) (tv:=sj [([0,1],Gv)]) (cy:=aqv [(0,ayB [.zi 0 3 [],.zi 0 5 []] kN uk mQ (lw nD kr) (fun(b:T10)(a:(Int×(jS×Unit)))=>(D2 n) a.1 a.2.1 b.2.1.1 b.2.2.1.1))])
@[go_sem]abbrev Gw(v0:List jS)(v1 j0:Int)(o1 o2:Syntax):jJ:=⟨(.map 0::.pp [.kW false 9 (mp jS.cells v0)]::qA::.int .i64 v1::nN (nN (nN (qA::qA::qA::[])))),[.loop pX [qA,qA,qA,.ptr 1 0,qA,.ptr 2 0,qA,qA,qA,qA,qA,qA,qA,qA,qA,qA,qA,qA,qA,qA,qA,qA,qA,qA,qA,qA,qA,qA,qA] (stJ pX j0) j0,.cells (Syntax.cells o1),.cells (Syntax.cells o2)],3,[]⟩
abbrev Gx:=TB->Int->Int->Syntax->Syntax->Option (Tt×Unit)
abbrev QR(K:List Kt)(Z:Gx):Prop:=∀v0 v1 j0 o1 o2,run (HJ n) K (Gw v0 v1 j0 o1 o2)=Z v0 v1 j0 o1 o2
def tE:LB (QR n) [0,1] [.tX 0]:=mB
def wB:Nat->Gx:=AU ((tE n).1)
def EM{n:Nat}:wB n (m+1)=(tE n).1 (wB n m):=rfl
@[go_sem]def Ov(m:Nat):=Dv (tE n) (wB n) m
def A5:SX (HJ n) wA kN 19 w7:=mC
def C6:=fu fun n=>(A5 n).1
def QS:∀n:Nat,Bl fq 246 wA kN mQ kr (w7 (C6 n)):=VN fun n=>Jn (A5 n) (gd jP jQ (y:=(afg (fun _ _ _ _ _ h=>au0 (fun b a r h=>(RV n) a.1 a.2.1 b.2.1.1 b.2.2.1.1 r h) h) aht))) func246 ntmps246 results246
@[go_sem]def jG:=(zh (KI (alC jH.kv 6 kr)) Du)
@[go_sem]abbrev yo(F:jH->Option TF)(b:T6)(a:Unit):=F b.1.1
@[go_sem]def Wa(F:jH->Option TF):=Kr [.arg 0 []] jG (lH 0 kr) jG (lw mq kr) (yo F)
@[reducible] def JO:kG TF:=oN fq f88 n (xT fq [.tmp 2] [] [0] 1 jG (lw mq kr)) (cl:=nE [(94,Dx (rq (oI (Ch jH.kv) (lD kF.kv) (lT n))))]) (xy:=mE []) (xF:=mE [])
@[go_sem]def Wb:wV (JO n) [0,0,1,1]=true:=jF
def C7:SX (JO n) (lH 0 kr) jG 26 yo:=mC
def AF:=fu fun n=>(C7 n).1
def UU:∀n:Nat,Bl fq 88 (lH 0 kr) jG jG (lw mq kr) (yo (AF n)):=VN fun n=>Jn (C7 n) (gd (jL (qd (mV (lW n))) jP) jQ) func88 ntmps88 results88
@[reducible] def Ya:kG Bool:=oN fq f210 n (oB fq [.tmp 2] nD) (cl:=nE [(94,oI (Ch jH.kv) (lD kF.kv) (lT n))])
def Ea:RM (Ya n) (Ch jH.kv) 48:=mB
def xV:=fu fun n=>(Ea n).1
def JP:∀n:Nat,Ap fq 210 (Ch jH.kv) nD (xV n):=BO fun n=>Bk (Ea n) (gd (jL (lK (lW n)) jP) jQ) func210 ntmps210 results210
@[reducible] def UV:kG Bool:=oN fq f79 n (oB fq [.tmp 4] nD) (cl:=nE [(142,tj (l8 mc) mq (mP .i64) (Cn n))])
def BY:SC2 (UV n) (l8 mc) mq 9:=mB
def nZ:=fu fun n=>(BY n).1
def HK:∀n:Nat,Fk fq 79 (l8 mc) mq nD (nZ n):=Ks fun n=>Iz (BY n) (gd (jL (nT (XT n)) jP) jQ) func79 ntmps79 results79
@[go_sem]abbrev zw(F:jI->Int->Ta->Ta->Tb->Option TS)(b:T7)(a:(jI×Unit)):=F a.1 b.1.1 b.2.1 b.2.2.1 b.2.2.2.1
@[go_sem]def K6(F:jI->Int->Ta->Ta->Tb->Option TS):=xd false [.arg 0 [],.zi 0 0 [],.zi 0 1 [],.zi 0 2 []] kS (lH 0 (lw (lD jI.kv) kr)) kS (alM 2 (lw mq (lw (l8 mc) kr))) kS (alM 1 (lw mq (lw (l8 mc) kr))) (zw F)
@[reducible] def K7:kG TS:=oN fq f77 n (afl fq [.tmp 4,.tmp 5,.tmp 6] [] [0,1,2,3] 4 kS (alM 2 (lw mq (lw (l8 mc) kr))) [] kS (alM 1 (lw mq (lw (l8 mc) kr)))) (cl:=nE [(78,oI (lD jI.kv) nD (z1 n))]) (xy:=mE []) (xF:=mE [])
@[go_sem]def Yb:agz (K7 n) [0,0,1,0,1] [0,1,1]:=⟨jF,jF⟩
def Eb:SX (K7 n) (lH 0 (lw (lD jI.kv) kr)) kS 31 zw:=mC
def Gy:=fu fun n=>(Eb n).1
def Wc:∀n:Nat,tu fq 77 (lH 0 (lw (lD jI.kv) kr)) kS false kS (alM 2 (lw mq (lw (l8 mc) kr))) kS (alM 1 (lw mq (lw (l8 mc) kr))) (zw (Gy n)):=XK fun n=>aGT (Eb n) (gd (jL (lK (CW n)) jP) jQ) func77 ntmps77 results77
@[go_sem]def afz:Af:=⟨[],[],(zK::zA::zA::zK::zA::zA::zA::zK::zK::nh (nj (nj (nj (zA::zA::[]))))),[],none,none⟩
@[reducible] def ahC:kG Bool:=oN fq f141 n (oB fq [.tmp 2] nD) (cl:=nE [(196,oI (mP .u8) nD (SA n))]) (tv:=sj [([0,1,0,1,1],afz)])
@[go_sem]abbrev afA(v0:Str)(v1:Bool)(v2 v3:Int):jJ:=⟨(.str (sb v0)::qA::qA::.bool v1::qA::qA::qA::.int .i64 v2::.int .i64 v3::nu (nN (nN (nN (qA::qA::[]))))),[],0,[]⟩
abbrev afB:=Str->Bool->Int->Int->Option Bool
abbrev aom(K:List Kt)(Z:afB):Prop:=∀v0 v1 v2 v3,run (ahC n) K (afA v0 v1 v2 v3)=Z v0 v1 v2 v3
def K8:LB (aom n) [0,1,0,1,1] [.tX 0,.cut [1,1,1],.at [1,1,1]]:=mB
def K9:Nat->afB:=AU ((K8 n).1)
def abc{n:Nat}:K9 n (m+1)=(K8 n).1 (K9 n m):=rfl
@[go_sem]def aii(m:Nat):=Dv (K8 n) (K9 n) m
def abd:RM (ahC n) mq 39:=mB
def Wd:=fu fun n=>(abd n).1
def afC:∀n:Nat,Ap fq 141 mq nD (Wd n):=BO fun n=>Bk (abd n) (gd (jL (lK (aj8 n)) jP) jQ) func141 ntmps141 results141
open Go.Proofs
@[reducible] def aij:kG Int:=oN fq f285 n (oB fq [.tmp 4] (mP .i64)) (cl:=nE [(78,oI (lD jI.kv) nD (z1 n)),(140,oI (lD jI.kv) nD (xU n))])
def aJS:SC2 (aij n) (lD jI.kv) (mP .i64) 51:=mB
def BZ:=fu fun n=>(aJS n).1
def Hs:∀n:Nat,Fk fq 285 (lD jI.kv) (mP .i64) (mP .i64) (BZ n):=Ks fun n=>Iz (aJS n) (gd (jL (lK (CW n)) (jL (lK (Bn n)) jP)) jQ) func285 ntmps285 results285
@[go_sem]def IN:Af:=⟨[(6,1,true)],[],(nj (zA::zT (tyF 213)::zK::nh (nj (zT (l8 kF.row)::zK::zK::nh (nj (nj (zA::zA::zA::[]))))))),[oT jH.kv,oA mc],none,none⟩
@[reducible] def C8:kG (Te×To):=oN fq f157 n (ajG fq [.tmp 4] (wh (Am jH.kv) uA) (Qw (l8 mc) Jl) 1) (cl:=nE [(12,tj mq mq nD (strings_Contains n)),(213,tj (lD kF.kv) mq nD (yj n))]) (tv:=sj [([0,1,0,1,1,1,1],IN)])
@[go_sem]abbrev IO(v0:List kF)(v1 v2:Int)(o0:jH)(r1:List Str)(c1:Nat):jJ:=⟨(nN (qA::.func (.func 213) [] []::.lN 1 c1::nu (nN (.kW false 3 (mp kF.cells v0)::.int .i64 v1::.int .i64 v2::nu (nN (nN (qA::qA::qA::[]))))))),[.cells (jH.cells o0),.lN true 1 (mp nY r1)],1,[]⟩
abbrev IP:=(List kF)->Int->Int->jH->(List Str)->Option (Te×To)
abbrev UW(K:List Kt)(Z:IP):Prop:=∀v0 v1 v2 o0 r1 c1,c1=r1.length->run (C8 n) K (IO v0 v1 v2 o0 r1 c1)=Z v0 v1 v2 o0 r1
def uO:LB (UW n) [0,1,0,1,1,1,1] [.tX 0,.cut [1,1,1,1,1],.at [1,1,1,1,1]]:=mB
def uP:Nat->IP:=AU ((uO n).1)
def Gz{n:Nat}:uP n (m+1)=(uO n).1 (uP n m):=rfl
@[go_sem]def P5(m:Nat):=Dv (uO n) (uP n) m
def C9:{B:jH->Int->Option (Te×To) //∀(a0:jH)(a1:Int),run (C8 n) [.at []] (ini ((RD 0 (asT (mP .i64) LZ)).enc (a0,()) (a1,())) 57 ((wh (Am jH.kv) uA).enc (a0,())))=B a0 a1}:=mB
def AG:=fu fun n=>(C9 n).1
def UX:∀(n:Nat)(a0:jH)(a1:Int)(r:(Te×To)),AG n a0 a1=some r->FnG fq 157 ((RD 0 (asT (mP .i64) LZ)).enc (a0,()) (a1,())) ((wh (Am jH.kv) uA).enc (a0,())) (fun o H'=>o=.ret (uv ((Qw (l8 mc) Jl).enc r.1 r.2))/\H'=(wh (Am jH.kv) uA).enc r.1)
 |0,_,_,_,h=>by cases h
 |n+1,a0,a1,r,h=>by
  exact zg (M:=C8 n) ⟨(jL (nT (yQ n)) (jL (nT (QI n)) jP)),jQ,qI _,rz _,uK,uM,vU,vg⟩ func157 rfl rfl (by simp only[go_sem,fB,fC,fw,fx,fD,fE,fG,fH,fI,fy,fF,fJ]) ((wh (Am jH.kv) uA).nb _ _) ntmps157 results157 (fun J hs=>aco hs) (((C9 n).2 a0 a1).trans h)
def abe:Af:=⟨[],[],(zA::zA::zK::zK::zK::zA::zA::zA::zK::DU (nh (nh (zA::zA::[])))),[oT Syntax.kv,oT Syntax.kv],none,none⟩
def abf:Af:=⟨[],[],(zA::zA::zK::zK::zK::zA::zA::zK::DU (nh (nh (zA::zA::zA::[])))),[oT Syntax.kv,oT Syntax.kv],none,none⟩
@[reducible] def NM(X:Syntax->Syntax->Bool->Option Bool)(n:Nat):kG Bool:=oN fq f14 n (oB fq [.tmp 6] nD) (cl:=nE [(46,tj (l8 jN.row) (l8 jN.row) nD (Hr n))]) (cd:=M5 [(14,rq (acL (lD Syntax.kv) (lD Syntax.kv) nD nD X))]) (tv:=sj [([0,1,0,1,1,1,1],abe),([0,1,0,1,1,1],abf)]) (xy:=mE []) (xF:=mE [])
def alJ(X:Syntax->Syntax->Bool->Option Bool)(n:Nat):agz (NM X n) [0,0,0,1,0,0,1,0,1,1,1] [0,0,0,1,0,0,1,0,1,1,1,1]:=⟨jF,jF⟩
attribute [go_sem] alJ abe abf
@[go_sem]abbrev abg(v0:Bool)(v1:Int)(o0 o1:Syntax):jJ:=⟨(qA::qA::.bool v0::.ptr 0 0::.ptr 1 0::qA::qA::qA::.int .i64 v1::DT (nu (nu (qA::qA::[])))),[.cells (Syntax.cells o0),.cells (Syntax.cells o1)],0,[]⟩
abbrev La:=Bool->Int->Syntax->Syntax->Option Bool
abbrev akg(X:Syntax->Syntax->Bool->Option Bool)(n:Nat)(K:List Kt)(Z:La):Prop:=∀v0 v1 o0 o1,run (NM X n) K (abg v0 v1 o0 o1)=Z v0 v1 o0 o1
@[go_sem]abbrev abh(v0:Bool)(v1:Int)(o0 o1:Syntax):jJ:=⟨(qA::qA::.bool v0::.ptr 0 0::.ptr 1 0::qA::qA::.int .i64 v1::DT (nu (nu (qA::qA::qA::[])))),[.cells (Syntax.cells o0),.cells (Syntax.cells o1)],0,[]⟩
abbrev akh(X:Syntax->Syntax->Bool->Option Bool)(n:Nat)(K:List Kt)(Z:La):Prop:=∀v0 v1 o0 o1,run (NM X n) K (abh v0 v1 o0 o1)=Z v0 v1 o0 o1
def GA(X:Syntax->Syntax->Bool->Option Bool)(n:Nat):LB (akg X n) [0,1,0,1,1,1,1] [.tX 2,.cut [1,1,1,1,1],.at [1,1,1,1,1]]:=mB
def Da(X:Syntax->Syntax->Bool->Option Bool)(n:Nat):Nat->La:=AU ((GA X n).1)
def We(X:Syntax->Syntax->Bool->Option Bool){n:Nat}:Da X n (m+1)=(GA X n).1 (Da X n m):=rfl
@[go_sem]def afD(X:Syntax->Syntax->Bool->Option Bool)(n:Nat)(m:Nat):=Dv (GA X n) (Da X n) m
def GB(X:Syntax->Syntax->Bool->Option Bool)(n:Nat):LB (akh X n) [0,1,0,1,1,1] [.tX 0,.cut [1,1,1,1],.at [1,1,1,1]]:=mB
def Db(X:Syntax->Syntax->Bool->Option Bool)(n:Nat):Nat->La:=AU ((GB X n).1)
def Wf(X:Syntax->Syntax->Bool->Option Bool){n:Nat}:Db X n (m+1)=(GB X n).1 (Db X n m):=rfl
@[go_sem]def afE(X:Syntax->Syntax->Bool->Option Bool)(n:Nat)(m:Nat):=Dv (GB X n) (Db X n) m
def UY(X:Syntax->Syntax->Bool->Option Bool)(n:Nat):SC3 (NM X n) (lD Syntax.kv) (lD Syntax.kv) nD 107:=mB
def vq:Nat->Syntax->Syntax->Bool->Option Bool
 |0,_,_,_=>none
 |n+1,a0,a1,a2=>(UY (vq n) n).1 a0 a1 a2
def QT:∀n:Nat,atY fq 14 (lD Syntax.kv) (lD Syntax.kv) nD nD (vq n)
 |0=>fun _ _ _ _ h=>(by cases h)
 |n+1=>by
  have aki:=QT n;exact aB4 (UY (vq n) n) (gd (jL (nT (acW n)) jP) (nf (Qv (aki)) jQ)) func14 ntmps14 results14
@[go_sem]def Mq:Af:=⟨[],[],(zK::nj (zA::zT (l8 mc)::zK::zK::nh (nj (nj (zA::[]))))),[oC [zK,zK,zT (l8 jI.row),zK],oY],none,none⟩
@[go_sem]abbrev Bu(F:(List Str)->(List jI)->Bool->Str->Option (T9×Unit))(b:T9)(a:To):=F a.1 b.1.1 b.1.2.1 b.2.1
@[go_sem]def rK(F:(List Str)->(List jI)->Bool->Str->Option (T9×Unit)):=Kr [.arg 0 [],.zi 0 1 []] jR (lH 0 (lw (l8 mc) kr)) jR kr (Bu F)
@[reducible] def Ow:kG (T9×Unit):=oN fq f131 n (xT fq [] [] [0,1] 2 jR kr) (cl:=nE [(186,Mi (PB n)),(187,DG (FQ n))]) (tv:=sj [([0,1],Mq)])
@[go_sem]abbrev Mr(v0:List Str)(v1 v2:Int)(v3:List jI)(v4:Bool)(r1:Str)(c1:Nat):jJ:=⟨(.ptr 0 0::nN (qA::.kW false 1 (mp nY v0)::.int .i64 v1::.int .i64 v2::nu (nN (nN (qA::[]))))),[.cells [.sn 141 0,.lN 1 c1,.kW false 4 (mp jI.cells v3),.bool v4],.Io (sb r1)],2,[]⟩
abbrev Ms:=(List Str)->Int->Int->(List jI)->Bool->Str->Option (T9×Unit)
abbrev ZN(K:List Kt)(Z:Ms):Prop:=∀v0 v1 v2 v3 v4 r1 c1,c1=r1.length->run (Ow n) K (Mr v0 v1 v2 v3 v4 r1 c1)=Z v0 v1 v2 v3 v4 r1
def Fx:LB (ZN n) [0,1] [.tX 0]:=mB
def Fy:Nat->Ms:=AU ((Fx n).1)
def amU{n:Nat}:Fy n (m+1)=(Fx n).1 (Fy n m):=rfl
@[go_sem]def UZ(m:Nat):=Dv (Fx n) (Fy n) m
def Ox:SX (Ow n) (lH 0 (lw (l8 mc) kr)) jR 34 Bu:=mC
def tF:=fu fun n=>(Ox n).1
def sJ:∀n:Nat,Bl fq 131 (lH 0 (lw (l8 mc) kr)) jR jR kr (Bu (tF n)):=VN fun n=>Jn (Ox n) (gd (jL (mS (XY n)) (jL (mS (Na n)) jP)) jQ) func131 ntmps131 results131
def FS:Af:=⟨[],[],(nj (zK::zA::zA::zK::zK::zA::zK::nh (nh (nh (zA::zA::zA::zT (l8 mc)::zK::zK::nh []))))),[oC [zK],oM (lD jI.kv),oD,oK,oA Syntax.row,oT jI.kv],none,none⟩
def FT:Af:=⟨[(7,8,false)],[],(zK::zA::zA::zK::zK::zA::zA::zK::DU (nj (nj (zA::[])))),[oC [zK],oM (lD jI.kv),oT Syntax.kv,oK,oA Syntax.row],none,none⟩
@[go_sem]def kg:=(zh (KI (alM 1 kr)) (zh (ah5 (lD jI.kv)) Du))
@[go_sem]def vT:=(lw (lD jI.kv) (lw (l8 Syntax.row) (lw nD kr)))
@[go_sem]abbrev wC(F:Syntax->Ta->Option TR)(b:Ts)(a:(Syntax×Unit)):=F a.1 b.2.1
@[go_sem]def wD(F:Syntax->Ta->Option TR):=Kr [.arg 0 [],.zi 0 0 []] kg (lH 0 (lw (lD Syntax.kv) kr)) kg vT (wC F)
@[reducible] def tG:kG TR:=oN fq f297 n (xT fq [.cell 4 25,.tmp 5,.tmp 6] [] [0,1] 2 kg vT) (cl:=nE [(315,amL 0 false 8 (Bh [0] (wh (oaT false Syntax.row) uA) (asA 0 (fun(b:Tp)=>b.1.length) LZ) (wh (oaT false Syntax.row) uA) Jl (fun(b:Tp) a=>(Mk n) b.1)))]) (tv:=sj [([0,1,0,1,1,1,1,1,1,1],FS),([0,0,1,1],FT)]) (cut:=aaH [([1,1,1,1,1,1,1,1,1],[4])]) (xy:=mE []) (xF:=mE [])
def QU:wV (tG n) [0,1,1,1,1]=true:=jF
def QV:Fj (tG n) [0,1,1,1,1] 3 11 5 11 6 11 10 11:=⟨jF,jF,jF,jF⟩
attribute [go_sem] QU QV FS FT
abbrev FU(v0:Int)(v1:List Str)(v2 v3:Int)(r1:List (Str×jI))(r4:List Syntax)(o5:jI)(c4:Nat):jJ:=⟨(nN (.ptr 3 0::qA::qA::.lN 4 c4::.ptr 5 0::qA::.int .i64 v0::nu (nu (nu (qA::qA::qA::.kW false 1 (mp nY v1)::.int .i64 v2::.int .i64 v3::nu []))))),[.cells [.map 1],.map (mp (M7 (lD jI.kv)) r1),.xu,.cells [.kW true 0 [],.int .i64 0,.int .i64 0,.str (sb [])],.lN false 8 (mp Syntax.cells r4),.cells (jI.cells o5)],2,[]⟩
abbrev FV:List Kt:=[.tX 2,.cut [1,1,1,1,1,1,1,1],.at [1,1,1,1,1,1,1,1]]
abbrev FW:=Int->(List Str)->Int->Int->Ta->(List Syntax)->jI->Option TR
abbrev P6(K:List Kt)(Z:FW):Prop:=∀v0 v1 v2 v3 r1 r4 o5 c4,c4=r4.length->run (tG n) K (FU v0 v1 v2 v3 r1 r4 o5 c4)=Z v0 v1 v2 v3 r1 r4 o5
abbrev FX(r1:List (Str×jI))(o2:Syntax)(r4:List Syntax)(c4:Nat):jJ:=⟨(.ptr 0 0::qA::qA::.ptr 2 0::.ptr 3 0::qA::qA::.lN 4 c4::DT (nN (nN (qA::[])))),[.cells [.map 1],.map (mp (M7 (lD jI.kv)) r1),.cells (Syntax.cells o2),.cells [.kW true 0 [],.int .i64 0,.int .i64 0,.str (sb [])],.lN false 8 (mp Syntax.cells r4)],2,[]⟩
abbrev FY:=Ta->Syntax->(List Syntax)->Option TR
abbrev P7(K:List Kt)(Z:FY):Prop:=∀r1 o2 r4 c4,c4=r4.length->run (tG n) K (FX r1 o2 r4 c4)=Z r1 o2 r4
attribute [go_sem] FU FV FX
def zx:LB (P6 n) [0,1,0,1,1,1,1,1,1,1] FV:=mB
def zy:Nat->FW:=AU ((zx n).1)
def ahD{n:Nat}:zy n (m+1)=(zx n).1 (zy n m):=rfl
@[go_sem]def Ng(m:Nat):=Dv (zx n) (zy n) m
def zz:LB (P7 n) [0,0,1,1] [.tX 0,.cut [1,1,1],.at [1,1,1]]:=mB
def zC:Nat->FY:=AU ((zz n).1)
def ahE{n:Nat}:zC n (m+1)=(zz n).1 (zC n m):=rfl
@[go_sem]def Nh(m:Nat):=Dv (zz n) (zC n) m
def GC:SX (tG n) (lH 0 (lw (lD Syntax.kv) kr)) kg 81 wC:=mC
def xN:=fu fun n=>(GC n).1
def zD:∀n:Nat,Bl fq 297 (lH 0 (lw (lD Syntax.kv) kr)) kg kg vT (wC (xN n)):=VN fun n=>Jn (GC n) (gd (jL (ajI (pQ (fun b a r h=>(UN n) b.1 r h))) jP) jQ) func297 ntmps297 results297
@[go_sem]def Ed:Af:=⟨[],[],(zA::zK::DU (nh (nh (nh (nj (zA::zA::zA::[])))))),[oT Syntax.kv],none,none⟩
@[reducible] def p5:kG Bool:=oN fq f124 n (oB fq [.tmp 2] nD) (cl:=nE [(127,oI (mP .i64) nD (NL n)),(181,oI (mP .i64) (mP .i64) (adB n))]) (cut:=sj [([1,1,1,1,1,1],Ed),([1,1,1,1,1],Ed),([1,1,1],Ed)])
@[go_sem]abbrev vi(o0:Syntax):jJ:=⟨(qA::.ptr 0 0::DT (nu (nu (nu (nN (qA::qA::qA::[])))))),[.cells (Syntax.cells o0)],0,[]⟩
def SB:{B:Syntax->Option Bool //∀(o0:Syntax),run (p5 n) [.at [1,1,1,1,1,1]] (vi o0)=B o0}:=by
 apply fN;intro o0;simp (config:={maxSteps:=100000000}) only[go_sem,fB,fC,fw,fx,fD,fE,fG,fH,fI,fy,fF,fJ,f124,fA,mixed];exact rfl
def SC(J:jJ):Option Bool:=run (p5 n) [.at [1,1,1,1,1,1]] J
def If:run (p5 n) [.cut [1,1,1,1,1,1],.at [1,1,1,1,1,1]] J=((p5 n).cut [1,1,1,1,1,1] J).bind (SC n):=aiI
def GD:∀(o0:Syntax),SC n (vi o0)=(SB n).1 o0:=(SB n).2
def SE:{B:Syntax->Option Bool //∀(o0:Syntax),run (p5 n) [.at [1,1,1,1,1]] (vi o0)=B o0}:=by
 apply fN;intro o0;simp (config:={maxSteps:=100000000}) only[go_sem,fB,fC,fw,fx,fD,fE,fG,fH,fI,fy,fF,fJ,f124,fA,mixed,↓If n,GD n];exact rfl
def SF(J:jJ):Option Bool:=run (p5 n) [.at [1,1,1,1,1]] J
def PD:run (p5 n) [.cut [1,1,1,1,1],.at [1,1,1,1,1]] J=((p5 n).cut [1,1,1,1,1] J).bind (SF n):=aiI
def Oy:∀(o0:Syntax),SF n (vi o0)=(SE n).1 o0:=(SE n).2
def SH:{B:Syntax->Option Bool //∀(o0:Syntax),run (p5 n) [.at [1,1,1]] (vi o0)=B o0}:=by
 apply fN;intro o0;simp (config:={maxSteps:=100000000}) only[go_sem,fB,fC,fw,fx,fD,fE,fG,fH,fI,fy,fF,fJ,f124,fA,mixed,↓If n,GD n,↓PD n,Oy n];exact rfl
def SI(J:jJ):Option Bool:=run (p5 n) [.at [1,1,1]] J
def ac3:run (p5 n) [.cut [1,1,1],.at [1,1,1]] J=((p5 n).cut [1,1,1] J).bind (SI n):=aiI
def abi:∀(o0:Syntax),SI n (vi o0)=(SH n).1 o0:=(SH n).2
def Wg:RM (p5 n) (lD Syntax.kv) 121:=by
 apply fN;intro a0;simp (config:={maxSteps:=100000000}) only[go_sem,fB,fC,fw,fx,fD,fE,fG,fH,fI,fy,fF,fJ,f124,fA,mixed,↓If n,GD n,↓PD n,Oy n,↓ac3 n,abi n];exact rfl
def abj:=fu fun n=>(Wg n).1
def afF:∀n:Nat,Ap fq 124 (lD Syntax.kv) nD (abj n):=BO fun n=>Bk (Wg n) (⟨(jL (lK (Nb n)) (jL (lK (agH n)) jP)),jQ,qI _,qI _,uK,uM,vU,vg⟩) func124 ntmps124 results124
open Go.Proofs
@[reducible] def QW:kG Bool:=oN fq f171 n (oB fq [.tmp 4] nD) (cl:=nE [(224,tj (l8 mc) mq (mP .i64) (Ml n))])
def GF:SC2 (QW n) (l8 mc) mq 9:=mB
def IQ:=fu fun n=>(GF n).1
def P8:∀n:Nat,Fk fq 171 (l8 mc) mq nD (IQ n):=Ks fun n=>Iz (GF n) (gd (jL (nT (UQ n)) jP) jQ) func171 ntmps171 results171
@[go_sem]def tH:Af:=⟨[],[],(zT (l8 mc)::zK::nj (zA::zK::zK::nj (nj (zA::zA::[])))),[oC [zK]],none,none⟩
@[go_sem]def k7:=(lw (l8 mc) (alF 11 (vlP 0 vlN) kr))
@[go_sem]abbrev n9(F:(List Str)->Str->Option T12)(b:TG)(a:((List Str)×(Unit×Unit))):=F a.1 b.1.1
@[go_sem]def tQ(F:(List Str)->Str->Option T12):=Kr [.arg 1 [0]] (zh (KI (alC cS 1 kr)) Du) k7 (zh (KI (alC cS 1 kr)) Du) (lw (mP .i64) kr) (n9 F)
@[reducible] def tR:kG T12:=oN fq f39 n (xT fq [.tmp 4] [] [0] 1 (zh (KI (alC cS 1 kr)) Du) (lw (mP .i64) kr)) (cl:=nE [(11,Bh [1] (wh (Am cS) uA) (asT mq (RD 0 LZ)) (wh (Am cS) uA) (Qw nD Jl) (fun(b:(Str×Unit)) a=>(CY n) a.1 b.1))]) (tv:=sj [([0,1,0,1],tH)])
@[go_sem]abbrev tI(v0:List Str)(v1 v2:Int)(v3:Str):jJ:=⟨(.kW false 1 (mp nY v0)::.func (.func 11) [] [.ptr 0 0]::nN (qA::.int .i64 v1::.int .i64 v2::nN (nN (qA::qA::[])))),[.cells [.str (sb v3)]],1,[]⟩
abbrev tJ:=(List Str)->Int->Int->Str->Option T12
abbrev Aq(K:List Kt)(Z:tJ):Prop:=∀v0 v1 v2 v3,run (tR n) K (tI v0 v1 v2 v3)=Z v0 v1 v2 v3
def mw:LB (Aq n) [0,1,0,1] [.tX 0,.cut [1,1],.at [1,1]]:=mB
def my:Nat->tJ:=AU ((mw n).1)
def sS{n:Nat}:my n (m+1)=(mw n).1 (my n m):=rfl
@[go_sem]def yZ(m:Nat):=Dv (mw n) (my n) m
def ql:SX (tR n) k7 (zh (KI (alC cS 1 kr)) Du) 19 n9:=mC
def qJ:=fu fun n=>(ql n).1
def Ar:∀n:Nat,Bl fq 39 k7 (zh (KI (alC cS 1 kr)) Du) (zh (KI (alC cS 1 kr)) Du) (lw (mP .i64) kr) (n9 (qJ n)):=VN fun n=>Jn (ql n) (gd (jL (pQ (fun b a r h=>(QM n) a.1 b.1 r h)) jP) jQ) func39 ntmps39 results39
end Go.Abs
end
