/- A part of the proof: what the functions compute. -/
import Derived.Test.YtpdbjkgnmjnebaaGreatDoorDataA
import Derived.Test.YtpdbjkgnmjnebaaGreatDoorWalkA
import Derived.Test.YtpdbjkgnmjnebaaGreatDoorExtA
set_option linter.all false
open Go.Proofs.Tryz renaming prog→fO
open Nat renaming reduceLeDiff→fP,reduceEqDiff→fQ,reduceAdd→fT,reduceSub→fU,reduceBEq→fV,reduceMul→fW,reduceLT→fY
open Int renaming reduceToNat→fR,reduceBEq→fX,reduceLE→fZ,reduceLT→ga,reduceEq→gb
open Option renaming getD_some→fS
open Subtype renaming mk→gf
open Go.Abs.AV renaming any→qA
noncomputable section
open Go.Proofs.Tryz
namespace Go.Abs
variable {m m2:Nat}
variable (n:Nat)
open Go.Proofs
attribute [go_sem] f237 f136 f30 f199 f243 f201 f202 f242 f148 f91 f155 f152 f252 f283 f286 f298 f316 f209 f10 f190 f182 f204 f203 f82 f93 f154 f153 f268 f135 f139 f151 f149 f327 f340 f326 f45 f126 f335 f330 f339 f73 f147 f76 f168 f29 f81 f332 f36 f125 f128 f70 f129
set_option maxRecDepth 100000
set_option maxHeartbeats 4000000
@[go_sem]def QX:Af:=⟨[],[],(zK::zK::nh (nj (nj (nj [])))),[],none,none⟩
@[reducible] def SJ:kG Int:=oN fO f237 n (oB fO [.tmp 4] (mP .i64)) (cl:=nE [(236,oI (mP .u8) nD (K2 n)),(271,oI (mP .u8) nD (Sm n))]) (tv:=sj [([0,0,1],QX)])
@[go_sem]abbrev QY(v0:Str)(v1:Int):jJ:=⟨(.str (sb v0)::.int .i64 v1::nu (nN (nN (nN [])))),[],0,[]⟩
abbrev Ee:=Str->Int->Option Int
abbrev aep(K:List Kt)(Z:Ee):Prop:=∀v0 v1,run (SJ n) K (QY v0 v1)=Z v0 v1
def As:LB (aep n) [0,0,1] [.tX 0,.cut [1,1],.at [1,1]]:=mB
def At:Nat->Ee:=AU ((As n).1)
def Oz{n:Nat}:At n (m+1)=(As n).1 (At n m):=rfl
@[go_sem]def ZP(m:Nat):=Dv (As n) (At n) m
def Lb:SC2 (SJ n) mq (mP .i64) 30:=mB
def Jf:=fu fun n=>(Lb n).1
def aeq:∀n:Nat,Fk fO 237 mq (mP .i64) (mP .i64) (Jf n):=Ks fun n=>Iz (Lb n) (gd (jL (lK (aJw n)) (jL (lK (aj2 n)) jP)) jQ) func237 ntmps237 results237
@[reducible] def Wh:kG Bool:=oN fO f136 n (oB fO [.tmp 4] nD) (cd:=M5 [(137,rq (oI (lD jI.kv) nD (DX n))),(138,rq (oI (lD jI.kv) mq (Nf n))),(192,rq (tj (lD jI.kv) mq nD (Od n)))]) (xy:=mE []) (xF:=mE [])
@[go_sem]def agN:wV (Wh n) [0,1]=true:=jF
def Ni:SC2 (Wh n) (lD jI.kv) (lD jI.kv) 23:=mB
def Dc:=fu fun n=>(Ni n).1
def SK:∀n:Nat,Fk fO 136 (lD jI.kv) (lD jI.kv) nD (Dc n):=Ks fun n=>Iz (Ni n) (gd jP (nf (mV (ID n)) (nf (mV (adF n)) (nf (wu (akd n)) jQ)))) func136 ntmps136 results136
@[reducible] def Dz:kG Bool:=oN fO f30 n (oB fO [.tmp 4] nD) (cl:=nE [(74,tj (l8 jI.row) (tyF 31) (mP .i64) (tD n))])
def rE:SC2 (Dz n) (l8 jI.row) (tyF 31) 9:=mB
def sr:=fu fun n=>(rE n).1
def Dd:∀n:Nat,Fk fO 30 (l8 jI.row) (tyF 31) nD (sr n):=Ks fun n=>Iz (rE n) (gd (jL (nT (EL n)) jP) jQ) func30 ntmps30 results30
@[go_sem]abbrev Ht(F:Option ((Tb×Unit)×Unit))(b:Unit)(a:Unit):=F
@[go_sem]def Nj(F:Option ((Tb×Unit)×Unit)):=Kr [] Du kr (zh ogM Du) (alM 0 kr) (Ht F)
@[reducible] def Wi:kG ((Tb×Unit)×Unit):=oN fO f199 n (xT fO [.tmp 0] [.arg 0 []] [] 0 (zh ogM Du) (alM 0 kr)) (cl:=nE [(241,oI mq (ap9 274 (Ch cS)) (Sp n)),(274,Mm (PC n))]) (js:=aEr [([0,1,0,1,1],[])])
@[go_sem]def aer:lkM (Wi n) [0,1,0,1,1]=nB:=rfl
attribute [go_sem] zj
def Wj:SX (Wi n) kr Du 9 Ht:=mC
def GG:=fu fun n=>(Wj n).1
def SL:∀n:Nat,Bl fO 199 kr Du (zh ogM Du) (alM 0 kr) (Ht (GG n)):=VN fun n=>Jn (Wj n) (gd (jL (lK (aaU n)) (jL (mS (X7 n)) jP)) jQ) func199 ntmps199 results199
@[reducible] def Yc:kG Bool:=oN fO f243 n (oB fO [.tmp 4] nD) (cl:=nE [(276,tj mq (mP .i32) (mP .i64) (oO n))])
def Lc:SC2 (Yc n) mq (mP .i32) 9:=mB
def xW:=fu fun n=>(Lc n).1
def Wk:∀n:Nat,Fk fO 243 mq (mP .i32) nD (xW n):=Ks fun n=>Iz (Lc n) (gd (jL (nT (Ot n)) jP) jQ) func243 ntmps243 results243
@[go_sem]def Fz:Af:=⟨[],[],(zK::nj (zK::DU (nh (nj (nj (nj [])))))),[oC [zK,zK,zK,zK,zK],oK,oK,oK],none,none⟩
@[reducible] def GH:kG TC:=oN fO f201 n (xT fO [.tmp 2,.tmp 3,.tmp 4] [] [0,1,2,3] 4 kC oG) (cl:=nE [(193,oI (mP .u8) (mP .i64) (DF n)),(194,oI (mP .u8) nD (zu n))]) (tv:=sj [([0,0,0,0,0,0,1,1],Fz),([0,0,1,1],Fz)]) (xy:=mE []) (xF:=mE [])
@[go_sem]def abk:agz (GH n) [0,0,1,0,0,1,1,1,1] [0,1,1,1]:=⟨jF,jF⟩
@[go_sem]abbrev Mt(v0:Int)(v1:Str)(v2:Int)(r1 r2 r3:List (Str×Bool)):jJ:=⟨(.ptr 0 0::nN (.int .i64 v0::DT (nu (nN (nN (nN [])))))),[.cells [.str (sb v1),.int .i64 v2,.map 1,.map 2,.map 3],.map (mp He r1),.map (mp He r2),.map (mp He r3)],4,[]⟩
@[go_sem]abbrev Mu(m2:Nat):List Kt:=[.tX 2,.cut [1,0,0,0,0,1,1],.at [1,0,0,0,0,1,1],.tX 1,.lp m2 [0,0,1,1],.tX 0,.cut [1,1,1],.at [1,1,1]]
abbrev AH(K:List Kt)(Z:pm):Prop:=∀v0 v1 v2 r1 r2 r3,run (GH n) K (Mt v0 v1 v2 r1 r2 r3)=Z v0 v1 v2 r1 r2 r3
def xh:LB2 (AH n) [0,0,1,1] [.tX 0,.cut [1,1,1],.at [1,1,1]] (AH n) [0,0,0,0,0,0,1,1] Mu:=mB
def uF(X2:pm):Nat->pm:=AU ((xh n).1 X2)
def JQ{n:Nat}(X2:pm):uF n X2 (m+1)=(xh n).1 X2 (uF n X2 m):=rfl
def aJc{X2}(h2:AH n (.lq m2 [0,0,1,1]::[.tX 0,.cut [1,1,1],.at [1,1,1]]) X2)(m:Nat):=atW (xh n) h2 (uF n X2) m
def AI:LB (AH n) [0,0,1,1] [.tX 0,.cut [1,1,1],.at [1,1,1]]:=by
 apply gf;intro m X0 ih v0 v1 v2 r1 r2 r3;simp (config:={maxSteps:=100000000}) only[go_sem,fT,fU,fP,fQ,fV,fW,fY,fZ,ga,fR,fX,gb,f201,fS,mixed,aJc n ih,ih];exact rfl
def sK:Nat->pm:=AU ((AI n).1)
def Wl{n:Nat}:sK n (m+1)=(AI n).1 (sK n m):=rfl
@[go_sem]def aJd(m:Nat):=Dv (AI n) (sK n) m
def GI:SX (GH n) (lH 0 kr) kC 98 oS:=mC
def Ef:=fu fun n=>(GI n).1
def ZQ:∀n:Nat,Bl fO 201 (lH 0 kr) kC kC oG (oS (Ef n)):=VN fun n=>Jn (GI n) (gd (jL (lK (Gj n)) (jL (lK (aJQ n)) jP)) jQ) func201 ntmps201 results201
open Go.Proofs
@[go_sem]def JR:Af:=⟨[],[],(zK::nj (zK::DU (nj (nj (nj (zA::zA::[])))))),[oC [zK,zK,zK,zK,zK],oK,oK,oK],none,none⟩
@[reducible] def Eg:kG TC:=oN fO f202 n (xT fO [.tmp 2,.tmp 3,.tmp 4] [] [0,1,2,3] 4 kC oG) (cl:=nE [(193,oI (mP .u8) (mP .i64) (DF n)),(194,oI (mP .u8) nD (zu n))]) (tv:=sj [([0,0,1,1],JR)]) (xy:=mE []) (xF:=mE [])
@[go_sem]def Yd:aB0 (Eg n) [0,0,1,0,0,1,1,1] [0,0,1,1,1,0,0,1,1,1] [0,1,1,0,0,1,1,1]:=⟨jF,jF,jF⟩
@[go_sem]abbrev JS(v0:Int)(v1:Str)(v2:Int)(r1 r2 r3:List (Str×Bool)):jJ:=⟨(.ptr 0 0::nN (.int .i64 v0::DT (nN (nN (nN (qA::qA::[])))))),[.cells [.str (sb v1),.int .i64 v2,.map 1,.map 2,.map 3],.map (mp He r1),.map (mp He r2),.map (mp He r3)],4,[]⟩
abbrev Wm(K:List Kt)(Z:pm):Prop:=∀v0 v1 v2 r1 r2 r3,run (Eg n) K (JS v0 v1 v2 r1 r2 r3)=Z v0 v1 v2 r1 r2 r3
def vu:LB (Wm n) [0,0,1,1] [.tX 0,.cut [1,1,1],.at [1,1,1]]:=mB
def vz:Nat->pm:=AU ((vu n).1)
def HL{n:Nat}:vz n (m+1)=(vu n).1 (vz n m):=rfl
@[go_sem]def QZ(m:Nat):=Dv (vu n) (vz n) m
def Eh:SX (Eg n) (lH 0 kr) kC 84 oS:=mC
def Bv:=fu fun n=>(Eh n).1
def Wn:∀n:Nat,Bl fO 202 (lH 0 kr) kC kC oG (oS (Bv n)):=VN fun n=>Jn (Eh n) (gd (jL (lK (Gj n)) (jL (lK (aJQ n)) jP)) jQ) func202 ntmps202 results202
@[go_sem]def PE:Af:=⟨[],[],(zA::zK::nh (nh (nj (nj (zA::zA::zA::zK::nj (nj (zA::[]))))))),[oK],none,none⟩
@[go_sem]def PF:Af:=⟨[],[],(zK::nj (zA::zK::zA::zK::nh (nh (nj (nj (nj (zA::zA::[]))))))),[oC [zA]],none,none⟩
@[reducible] def Jt:kG Int:=oN fO f242 n (oB fO [.tmp 4] (mP .i64)) (cl:=nE [(276,tj mq (mP .i32) (mP .i64) (oO n)),(277,oI (mP .i64) nD (strings_shouldUseASCIISet n))]) (tv:=sj [([0,1,0,1,1,1,1],PE),([0,1,0,0,1,1,0,1,0,1,1,1],PF)])
abbrev PH(v0 iv0:Str)(ip0:Nat):jJ:=⟨(qA::.str (sb v0)::nu (nu (nN (nN (qA::qA::qA::.ptr 0 0::nN (nN (qA::[]))))))),[.iter (sb iv0) ip0],0,[]⟩
abbrev PI:=Str->Str->Nat->Option Int
abbrev ac4(K:List Kt)(Z:PI):Prop:=∀v0 iv0 ip0,run (Jt n) K (PH v0 iv0 ip0)=Z v0 iv0 ip0
abbrev PJ(v0:Str)(v1:Int):jJ:=⟨(.str (sb v0)::nN (qA::.ptr 0 0::qA::.int .i64 v1::nu (nu (nN (nN (nN (qA::qA::[]))))))),[.cells [qA]],0,[]⟩
abbrev PK:List Kt:=[.tX 0,.cut [1,0,1,1,0,1,0,1,1,1],.at [1,0,1,1,0,1,0,1,1,1],.cut [1,1,1,1],.at [1,1,1,1]]
abbrev ac5(K:List Kt)(Z:Ee):Prop:=∀v0 v1,run (Jt n) K (PJ v0 v1)=Z v0 v1
attribute [go_sem] PH PJ PK
def Cs:LB (ac4 n) [0,1,0,1,1,1,1] [.tX 2,.cut [1,1,1,1,1],.at [1,1,1,1,1]]:=mB
def y8:Nat->PI:=AU ((Cs n).1)
def ZR{n:Nat}:y8 n (m+1)=(Cs n).1 (y8 n m):=rfl
@[go_sem]def Ye(m:Nat):=Dv (Cs n) (y8 n) m
def Ig:LB (ac5 n) [0,1,0,0,1,1,0,1,0,1,1,1] PK:=mB
def Ih:Nat->Ee:=AU ((Ig n).1)
def aoS{n:Nat}:Ih n (m+1)=(Ig n).1 (Ih n m):=rfl
@[go_sem]def Yf(m:Nat):=Dv (Ig n) (Ih n) m
def Ju:{B:Str->Str->Option Int //∀(a0:Str)(a1:Str),run (Jt n) [.at []] (ini [mq.enc a0,mq.enc a1] 55)=B a0 a1}:=mB
def strings_IndexAny:=fu fun n=>(Ju n).1
def ac6:∀(n:Nat)(a0:Str)(a1:Str)(r:Int),strings_IndexAny n a0 a1=some r->KD fO 242 [mq.enc a0,mq.enc a1] (fun v=>v=(mP .i64).enc r)
 |0,_,_,_,h=>by cases h
 |n+1,a0,a1,r,h=>by
  exact okC (((Ju n).2 a0 a1).trans h) (gd (jL (nT (Ot n)) (jL (lK (aJN n)) jP)) jQ) func242 ⟨mq.nb 0 _,mq.nb 0 _,trivial⟩ ntmps242 results242
@[go_sem]abbrev pR(F:Int->jH->Option Tv)(b:T6)(a:(Int×Unit)):=F a.1 b.1.1
@[go_sem]def lj(F:Int->jH->Option Tv):=xd true [.arg 0 []] jG (lH 0 (lw (mP .i64) kr)) jG kr jG jO (pR F)
@[reducible] def Yg:kG Tv:=oN fO f148 n (qE fO [] [] [0] 1 jG kr) (cl:=nE [(84,Dx (rq (oI (Ch jH.kv) (mP .i64) (p8 n))))]) (pP:=qF [] [0] 1 jG jO)
def Ei:SX (Yg n) (lH 0 (lw (mP .i64) kr)) jG 9 pR:=AZ
def mT:=fu fun n=>(Ei n).1
def vA:∀n:Nat,tu fO 148 (lH 0 (lw (mP .i64) kr)) jG true jG kr jG jO (pR (mT n)):=XK fun n=>DV (Ei n) (gd (jL (qd (mV (uE n))) jP) jQ) func148 ntmps148 results148
@[reducible] def Yh:kG Bool:=oN fO f91 n (oB fO [.tmp 4] nD) (cl:=nE [(85,acL (Ch jH.kv) (mP .i64) mq nD (vo n))])
def Ej:SC2 (Yh n) (Ch jH.kv) mq 8:=mB
def nF:=fu fun n=>(Ej n).1
def pu:∀n:Nat,Fk fO 91 (Ch jH.kv) mq nD (nF n):=Ks fun n=>Iz (Ej n) (gd (jL (aiK (yY n)) jP) jQ) func91 ntmps91 results91
@[go_sem]def Zb:Af:=⟨[(5,9,true)],[],(zA::zA::zA::zK::zA::zK::zA::zA::zT (l8 mc)::zK::zK::nj (nj (nj []))),[oT Syntax.kv,oA jS.row],none,none⟩
@[reducible] def abl:kG TB:=oN fO f155 n (oB fO [.tmp 4] (l8 jS.row)) (cl:=nE [(208,oI (lD Syntax.kv) (lD Syntax.kv) (wj n))]) (tv:=sj [([0,1,0,1,1],Zb)])
@[go_sem]abbrev Zd(v0:List Str)(v1 v2:Int)(o0:Syntax)(r1:List jS)(c1:Nat):jJ:=⟨(qA::qA::qA::.ptr 0 0::qA::.lN 1 c1::qA::qA::.kW false 1 (mp nY v0)::.int .i64 v1::.int .i64 v2::nN (nN (nN []))),[.cells (Syntax.cells o0),.lN true 9 (mp jS.cells r1)],0,[]⟩
abbrev Ze:=(List Str)->Int->Int->Syntax->TB->Option TB
abbrev aik(K:List Kt)(Z:Ze):Prop:=∀v0 v1 v2 o0 r1 c1,c1=r1.length->run (abl n) K (Zd v0 v1 v2 o0 r1 c1)=Z v0 v1 v2 o0 r1
def EN:LB (aik n) [0,1,0,1,1] [.tX 0,.cut [1,1,1],.at [1,1,1]]:=mB
def EO:Nat->Ze:=AU ((EN n).1)
def SM{n:Nat}:EO n (m+1)=(EN n).1 (EO n m):=rfl
@[go_sem]def aes(m:Nat):=Dv (EN n) (EO n) m
def Q0:SC2 (abl n) (l8 mc) (lD Syntax.kv) 23:=mB
def Hu:=fu fun n=>(Q0 n).1
def Zf:∀n:Nat,Fk fO 155 (l8 mc) (lD Syntax.kv) (l8 jS.row) (Hu n):=Ks fun n=>Iz (Q0 n) (gd (jL (lK (V9 n)) jP) jQ) func155 ntmps155 results155
@[reducible] def adL:kG Syntax:=oN fO f152 n (oB fO [.cell 6 37] (lD Syntax.kv)) (cl:=nE [(206,oI (l8 jS.row) (ap9 246 (Ch (cL jS.row))) (Fp n)),(246,HI (C6 n))]) (js:=aEr [([0,1,0,1],[])])
@[go_sem]def ail:lkM (adL n) [0,1,0,1]=pX:=rfl
attribute [go_sem] D1
def aJe:SC3 (adL n) (lD Syntax.kv) (l8 jS.row) (lD Syntax.kv) 29:=mB
def DI:=fu fun n=>(aJe n).1
def Q1:∀n:Nat,atY fO 152 (lD Syntax.kv) (l8 jS.row) (lD Syntax.kv) (lD Syntax.kv) (DI n):=aEI fun n=>aB4 (aJe n) (gd (jL (lK (UG n)) (jL (mS (QS n)) jP)) jQ) func152 ntmps152 results152
open Go.Proofs
@[go_sem]def qh:=(lw (lD Syntax.kv) (lw (mP .i64) kr))
@[go_sem]abbrev qK(F:Int->(List Syntax)->Int->Int->Ta->Ta->Tb->Option Tm)(b:Tc)(a:(Int×Unit)):=F a.1 b.1.1 b.1.2.1 b.2.1.1 b.2.2.1 b.2.2.2.1 b.2.2.2.2.1
@[go_sem]def zE(F:Int->(List Syntax)->Int->Int->Ta->Ta->Tb->Option Tm):=xd true [.arg 0 [],.zi 0 0 [],.zi 1 0 [],.zi 1 1 [],.zi 1 2 []] jY (lH 0 (lw (mP .i64) kr)) jY qh jY (lw (Ut 312 aaL) kr) (qK F)
@[go_sem]def s8:=(lH 0 (lw (lD jI.kv) (lw (mP .i64) (lw (awv Syntax.row) (lw (mP .i64) kr)))))
@[go_sem]abbrev ub(F:jI->Int->(List Syntax)->Int->(List Syntax)->Int->Int->Ta->Ta->Tb->Option Tq)(b:Tc)(a:(jI×(Int×((List Syntax)×(Int×Unit))))):=F a.1 a.2.1 a.2.2.1 a.2.2.2.1 b.1.1 b.1.2.1 b.2.1.1 b.2.2.1 b.2.2.2.1 b.2.2.2.2.1
@[go_sem]def Ek(F:jI->Int->(List Syntax)->Int->(List Syntax)->Int->Int->Ta->Ta->Tb->Option Tq):=xd true [.arg 0 [],.zi 0 0 [],.zi 1 0 [],.zi 1 1 [],.zi 1 2 []] jY s8 jY (lw (lD Syntax.kv) kr) jY (lw (Ut 312 aaL) kr) (ub F)
structure kf where
 nG:Int->(List Syntax)->Int->Int->Ta->Ta->Tb->Option Tm
 l5:Int->(List Syntax)->Int->Int->Ta->Ta->Tb->Option Tm
 oX:jI->Int->(List Syntax)->Int->(List Syntax)->Int->Int->Ta->Ta->Tb->Option Tq
open Go.Proofs
@[go_sem]def JT:Af:=⟨[],[],(zK::zK::zA::zA::zK::zA::zK::zK::nh (nh (nh (nj (zA::zA::zA::[]))))),[oC [zK,zT (l8 Syntax.row),zK],oC [zK,zK,zK,zK],oM (lD jI.kv),oM (lD jI.kv),oK,oK,oT Syntax.kv],none,none⟩
@[reducible] def Ld(X:kf)(n:Nat):kG Tm:=oN fO f252 n (qE fO [.cell 4 37,.tmp 5] [] [0,1,2,3,4] 5 jY qh) (cl:=nE [(284,BS (wz n)),(285,tj (lD jI.kv) (mP .i64) (mP .i64) (BZ n))]) (tv:=sj [([0,1,1],JT)]) (pP:=qF [] [0,1,2,3,4] 5 jY (lw (Ut 312 aaL) kr)) (cp:=Ao [(283,zE X.l5),(286,Ek X.oX)]) (xb:=mE [283,286])
@[go_sem]abbrev JU(v0 v1:Int)(v2:List Syntax)(v3 v4:Int)(r2 r3:List (Str×jI))(r4:List (Str×Bool))(o6:Syntax):jJ:=⟨(.ptr 0 0::.int .i64 v0::qA::qA::.ptr 5 0::qA::.ptr 6 0::.int .i64 v1::nu (nu (nu (nN (qA::qA::qA::[]))))),[.cells [.ptr 1 0,.kW false 8 (mp Syntax.cells v2),.int .i64 v3],.cells [.map 2,.map 3,.map 4,.int .i64 v4],.map (mp (M7 (lD jI.kv)) r2),.map (mp (M7 (lD jI.kv)) r3),.map (mp He r4),.cells [.int .i64 0,.str (sb []),.int .i64 0,.kW true 0 [],.kW true 0 [],.kW true 0 [],.int .i64 0,.int .i64 0],.cells (Syntax.cells o6)],5,[]⟩
abbrev JV:=Int->Int->(List Syntax)->Int->Int->Ta->Ta->Tb->Syntax->Option Tm
abbrev Wo(X:kf)(n:Nat)(K:List Kt)(Z:JV):Prop:=∀v0 v1 v2 v3 v4 r2 r3 r4 o6,run (Ld X n) K (JU v0 v1 v2 v3 v4 r2 r3 r4 o6)=Z v0 v1 v2 v3 v4 r2 r3 r4 o6
def s9(X:kf)(n:Nat):LB (Wo X n) [0,1,1] [.tX 0]:=EH
def qi(X:kf)(n:Nat):Nat->JV:=AU ((s9 X n).1)
def A6(X:kf){n:Nat}:qi X n (m+1)=(s9 X n).1 (qi X n m):=rfl
@[go_sem]def Q2(X:kf)(n:Nat)(m:Nat):=Dv (s9 X n) (qi X n) m
def wE(X:kf)(n:Nat):SX (Ld X n) (lH 0 (lw (mP .i64) kr)) jY 63 qK:=AZ
open Go.Proofs
@[reducible] def lU(X:kf)(n:Nat):kG Tm:=oN fO f283 n (qE fO [.cell 4 37,.tmp 5] [] [0,1,2,3,4] 5 jY qh) (cl:=nE [(140,oI (lD jI.kv) nD (xU n))]) (pP:=qF [] [0,1,2,3,4] 5 jY (lw (Ut 312 aaL) kr)) (co:=PY [(286,HB [.arg 0 [],.zi 0 0 [],.zi 1 0 [],.zi 1 1 [],.zi 1 2 []] jY s8 jY (lw (lD Syntax.kv) kr) jY (lw (Ut 312 aaL) kr) (ub X.oX))]) (cp:=Ao [(286,Ek X.oX)]) (xb:=mE [286]) (xy:=mE [286]) (xF:=mE [])
def RZ(X:kf)(n:Nat):aB1 (lU X n) [0,0,1] [0,0,1,1,1,0,0,1,1,1,1,1] [0,1,1] [0,1,1,1,1]:=⟨jF,jF,jF,jF⟩
def R0(X:kf)(n:Nat):Fj (lU X n) [0,0,1,1,1,0,0,1,1,1,1,1] 1 4 3 4 1 7 3 7/\RH (lU X n) [0,0,1,1,1,0,0,1,1,1,1,1] 4 7=true/\Fj (lU X n) [0,1,1] 3 11 7 11 8 11 9 11/\RH (lU X n) [0,1,1] 10 11=true/\Fj (lU X n) [0,1,1,1,1] 3 14 6 14 8 14 9 14/\RH (lU X n) [0,1,1,1,1] 13 14=true:=⟨⟨jF,jF,jF,jF⟩,jF,⟨jF,jF,jF,jF⟩,jF,⟨jF,jF,jF,jF⟩,jF⟩
def R1(X:kf)(n:Nat):L2 (lU X n) [0,0,1,1,1,0,0,1,1,1,1,1] 4 5=false/\L2 (lU X n) [0,0,1,1,1,0,0,1,1,1,1,1] 4 6=false/\L2 (lU X n) [0,0,1,1,1,0,0,1,1,1,1,1] 4 7=true/\L2 (lU X n) [0,0,1,1,1,0,0,1,1,1,1,1] 4 8=true/\Un (lU X n) [0,0,1,1,1,0,0,1,1,1,1,1] 4=false:=⟨jF,jF,jF,jF,jF⟩
attribute [go_sem] RZ R0 R1
def pJ(X:kf)(n:Nat):SX (lU X n) (lH 0 (lw (mP .i64) kr)) jY 83 qK:=AZ
open Go.Proofs
def JW:Af:=⟨[],[],(nj (zK::nj (zA::zK::zK::nj (zA::zA::zK::DU (nj (zK::zK::zK::nj (nj (zA::zA::zA::[])))))))),[oC [zK,zT (l8 Syntax.row),zK],oC [zK,zK,zK,zK],oM (lD jI.kv),oM (lD jI.kv),oK,oD,oK,oD,oA Syntax.row,oC [zK,zK,zK,zK,zK,zT (l8 Syntax.row),zK,zK]],none,none⟩
def JX:Af:=⟨[],[],(nj (zK::nj (zA::zK::zK::nj (zA::zA::zK::DU (nj (zL Syntax.row::zK::zK::nj (nj (zA::zA::zA::[])))))))),[oC [zK,zT (l8 Syntax.row),zK],oC [zK,zK,zK,zK],oM (lD jI.kv),oM (lD jI.kv),oK,oD,oK,oC [zK,zK,zK,zK,zK,zT (l8 Syntax.row),zK,zK]],(some 87),none⟩
def JY:Af:=⟨[],[],(zK::zA::zK::zK::zK::zA::zK::zA::zA::zA::zK::zK::nj (nj (nj (zT (l8 mc)::zK::zK::DU (nj (nj (zA::zA::[]))))))),[oC [zK,zT (l8 Syntax.row),zK],oC [zK,zK,zK,zK],oM (lD jI.kv),oM (lD jI.kv),oK,oT jI.kv,oK,oD,oA Syntax.row],none,none⟩
def JZ:Af:=⟨[],[],(zK::zA::zK::zL Syntax.row::zK::zA::zK::zA::zA::zA::zK::zK::nj (nj (nj (zT (l8 mc)::zK::zK::DU (nj (nj (zA::zA::[]))))))),[oC [zK,zT (l8 Syntax.row),zK],oC [zK,zK,zK,zK],oM (lD jI.kv),oM (lD jI.kv),oK,oT jI.kv,oK],(some 3),none⟩
@[reducible] def uc(X:kf)(n:Nat):kG Tq:=oN fO f286 n (qE fO [.cell 10 37] [] [0,1,2,3,4] 5 jY (lw (lD Syntax.kv) kr)) (cl:=nE [(284,BS (wz n)),(285,tj (lD jI.kv) (mP .i64) (mP .i64) (BZ n))]) (tv:=sj [([0,1,0,1,1],JZ),([0,1,0,1,1],JY),([0,1,0,1,1,1,1],JX),([0,1,0,1,1,1,1],JW)]) (pP:=qF [] [0,1,2,3,4] 5 jY (lw (Ut 312 aaL) kr)) (cp:=Ao [(252,zE X.nG)]) (xb:=mE [252]) (xy:=mE []) (xF:=mE [])
def Yi(X:kf)(n:Nat):wV (uc X n) [0,1,1,1,0,0,1,1,0,0,1,0,1,1]=true:=jF
attribute [go_sem] Yi JW JX JY JZ
abbrev alN(v0 v1 v2 v3:Int)(v4:List Syntax)(v5 v6:Int)(r2 r3:List (Str×jI))(r4:List (Str×Bool))(r8:List Syntax)(v11:Int)(v12:Str)(v13:List Syntax)(v14 v15:Int)(c8:Nat):jJ:=⟨(nN (.int .i64 v0::nN (qA::.ptr 6 0::.int .i64 v1::nN (qA::qA::.ptr 9 0::DT (nN (.lN 8 c8::.int .i64 v2::.int .i64 v3::nN (nN (qA::qA::qA::[])))))))),[.cells [.ptr 1 0,.kW false 8 (mp Syntax.cells v4),.int .i64 v5],.cells [.map 2,.map 3,.map 4,.int .i64 v6],.map (mp (M7 (lD jI.kv)) r2),.map (mp (M7 (lD jI.kv)) r3),.map (mp He r4),.xu,.cells [.int .i64 0,.str (sb []),.int .i64 0,.kW true 0 [],.kW true 0 [],.kW true 0 [],.int .i64 0,.int .i64 0],.xu,.lN true 8 (mp Syntax.cells r8),.cells [.int .i64 v11,.str (sb v12),.int .i64 0,.kW true 0 [],.kW true 0 [],.kW false 8 (mp Syntax.cells v13),.int .i64 v14,.int .i64 v15]],5,[]⟩
abbrev alP:=Int->Int->Int->Int->(List Syntax)->Int->Int->Ta->Ta->Tb->(List Syntax)->Int->Str->(List Syntax)->Int->Int->Option Tq
abbrev Wp(X:kf)(n:Nat)(K:List Kt)(Z:alP):Prop:=∀v0 v1 v2 v3 v4 v5 v6 r2 r3 r4 r8 v11 v12 v13 v14 v15 c8,c8=r8.length->run (uc X n) K (alN v0 v1 v2 v3 v4 v5 v6 r2 r3 r4 r8 v11 v12 v13 v14 v15 c8)=Z v0 v1 v2 v3 v4 v5 v6 r2 r3 r4 r8 v11 v12 v13 v14 v15
abbrev alT(v0 v1:Int)(v2:List Syntax)(v3 v4:Int)(v5:List Syntax)(v6 v7:Int)(r2 r3:List (Str×jI))(r4:List (Str×Bool))(v11:Int)(v12:Str)(v13:List Syntax)(v14 v15:Int):jJ:=⟨(nN (.int .i64 v0::nN (qA::.ptr 6 0::.int .i64 v1::nN (qA::qA::.ptr 7 0::DT (nN (.kW true 8 (mp Syntax.cells v2)::.int .i64 v3::.int .i64 v4::nN (nN (qA::qA::qA::[])))))))),[.cells [.ptr 1 0,.kW false 8 (mp Syntax.cells v5),.int .i64 v6],.cells [.map 2,.map 3,.map 4,.int .i64 v7],.map (mp (M7 (lD jI.kv)) r2),.map (mp (M7 (lD jI.kv)) r3),.map (mp He r4),.xu,.cells [.int .i64 0,.str (sb []),.int .i64 0,.kW true 0 [],.kW true 0 [],.kW true 0 [],.int .i64 0,.int .i64 0],.cells [.int .i64 v11,.str (sb v12),.int .i64 0,.kW true 0 [],.kW true 0 [],.kW false 8 (mp Syntax.cells v13),.int .i64 v14,.int .i64 v15]],5,[]⟩
abbrev asN:=Int->Int->(List Syntax)->Int->Int->(List Syntax)->Int->Int->Ta->Ta->Tb->Int->Str->(List Syntax)->Int->Int->Option Tq
abbrev Wq(X:kf)(n:Nat)(K:List Kt)(Z:asN):Prop:=∀v0 v1 v2 v3 v4 v5 v6 v7 r2 r3 r4 v11 v12 v13 v14 v15,run (uc X n) K (alT v0 v1 v2 v3 v4 v5 v6 v7 r2 r3 r4 v11 v12 v13 v14 v15)=Z v0 v1 v2 v3 v4 v5 v6 v7 r2 r3 r4 v11 v12 v13 v14 v15
abbrev asP(v0 v1 v2:Int)(v3:List Str)(v4 v5:Int)(v6:List Syntax)(v7 v8:Int)(r2 r3:List (Str×jI))(r4:List (Str×Bool))(o5:jI)(r8:List Syntax)(c8:Nat):jJ:=⟨(.ptr 0 0::qA::.int .i64 v0::.lN 8 c8::.int .i64 v1::qA::.ptr 5 0::qA::qA::qA::.ptr 6 0::.int .i64 v2::nN (nN (nN (.kW false 1 (mp nY v3)::.int .i64 v4::.int .i64 v5::DT (nN (nN (qA::qA::[]))))))),[.cells [.ptr 1 0,.kW false 8 (mp Syntax.cells v6),.int .i64 v7],.cells [.map 2,.map 3,.map 4,.int .i64 v8],.map (mp (M7 (lD jI.kv)) r2),.map (mp (M7 (lD jI.kv)) r3),.map (mp He r4),.cells (jI.cells o5),.cells [.int .i64 0,.str (sb []),.int .i64 0,.kW true 0 [],.kW true 0 [],.kW true 0 [],.int .i64 0,.int .i64 0],.xu,.lN true 8 (mp Syntax.cells r8)],5,[]⟩
abbrev ay4:=Int->Int->Int->(List Str)->Int->Int->(List Syntax)->Int->Int->Ta->Ta->Tb->jI->(List Syntax)->Option Tq
abbrev Wr(X:kf)(n:Nat)(K:List Kt)(Z:ay4):Prop:=∀v0 v1 v2 v3 v4 v5 v6 v7 v8 r2 r3 r4 o5 r8 c8,c8=r8.length->run (uc X n) K (asP v0 v1 v2 v3 v4 v5 v6 v7 v8 r2 r3 r4 o5 r8 c8)=Z v0 v1 v2 v3 v4 v5 v6 v7 v8 r2 r3 r4 o5 r8
abbrev aI7(v0:Int)(v1:List Syntax)(v2 v3:Int)(v4:List Str)(v5 v6:Int)(v7:List Syntax)(v8 v9:Int)(r2 r3:List (Str×jI))(r4:List (Str×Bool))(o5:jI):jJ:=⟨(.ptr 0 0::qA::.int .i64 v0::.kW true 8 (mp Syntax.cells v1)::.int .i64 v2::qA::.ptr 5 0::qA::qA::qA::.ptr 6 0::.int .i64 v3::nN (nN (nN (.kW false 1 (mp nY v4)::.int .i64 v5::.int .i64 v6::DT (nN (nN (qA::qA::[]))))))),[.cells [.ptr 1 0,.kW false 8 (mp Syntax.cells v7),.int .i64 v8],.cells [.map 2,.map 3,.map 4,.int .i64 v9],.map (mp (M7 (lD jI.kv)) r2),.map (mp (M7 (lD jI.kv)) r3),.map (mp He r4),.cells (jI.cells o5),.cells [.int .i64 0,.str (sb []),.int .i64 0,.kW true 0 [],.kW true 0 [],.kW true 0 [],.int .i64 0,.int .i64 0]],5,[]⟩
abbrev yp:=Int->(List Syntax)->Int->Int->(List Str)->Int->Int->(List Syntax)->Int->Int->Ta->Ta->Tb->jI->Option Tq
abbrev yq(X:kf)(n:Nat)(K:List Kt)(Z:yp):Prop:=∀v0 v1 v2 v3 v4 v5 v6 v7 v8 v9 r2 r3 r4 o5,run (uc X n) K (aI7 v0 v1 v2 v3 v4 v5 v6 v7 v8 v9 r2 r3 r4 o5)=Z v0 v1 v2 v3 v4 v5 v6 v7 v8 v9 r2 r3 r4 o5
attribute [go_sem] alN alT asP aI7
def vB(X:kf)(n:Nat):LB (Wp X n) [0,1,0,1,1,1,1] [.tX 2,.cut [1,1,1,1,1],.at [1,1,1,1,1]]:=EH
def vC(X:kf)(n:Nat):Nat->alP:=AU ((vB X n).1)
def HM(X:kf){n:Nat}:vC X n (m+1)=(vB X n).1 (vC X n m):=rfl
@[go_sem]def Q3(X:kf)(n:Nat)(m:Nat):=Dv (vB X n) (vC X n) m
def vD(X:kf)(n:Nat):LB (Wq X n) [0,1,0,1,1,1,1] [.tX 2,.cut [1,1,1,1,1],.at [1,1,1,1,1]]:=EH
def vE(X:kf)(n:Nat):Nat->asN:=AU ((vD X n).1)
def HN(X:kf){n:Nat}:vE X n (m+1)=(vD X n).1 (vE X n m):=rfl
@[go_sem]def Q4(X:kf)(n:Nat)(m:Nat):=Dv (vD X n) (vE X n) m
def qj(X:kf)(n:Nat):LB (Wr X n) [0,1,0,1,1] [.tX 0,.cut [1,1,1],.at [1,1,1]]:=EH
def yt(X:kf)(n:Nat):Nat->ay4:=AU ((qj X n).1)
def ul(X:kf){n:Nat}:yt X n (m+1)=(qj X n).1 (yt X n m):=rfl
@[go_sem]def Q5(X:kf)(n:Nat)(m:Nat):=Dv (qj X n) (yt X n) m
def qk(X:kf)(n:Nat):{B:Nat->yp->yp //∀m X0,yq X n (.lq m [0,1,0,1,1]::[.tX 0,.cut [1,1,1],.at [1,1,1]]) X0->yq X n (.at [0,0,1,0,1,1]::.lp m [0,1,0,1,1]::[.tX 0,.cut [1,1,1],.at [1,1,1]]) (B m X0)}:=EH
def vF(X:kf)(n:Nat):Nat->yp:=lpM fun m=>(qk X n).1 m
def um(X:kf){n:Nat}:vF X n (m+1)=(qk X n).1 m (vF X n m):=rfl
@[go_sem]def Q6(X:kf)(n:Nat)(m:Nat):yq X n (.lq m [0,1,0,1,1]::[.tX 0,.cut [1,1,1],.at [1,1,1]]) (vF X n m):=
 ay3 (G:=fun m Z=>yq X n (.lq m [0,1,0,1,1]::[.tX 0,.cut [1,1,1],.at [1,1,1]]) Z) (fun _ _ _ _ _ _ _ _ _ _ _ _ _ _=>NY) (fun m _ ih v0 v1 v2 v3 v4 v5 v6 v7 v8 v9 r2 r3 r4 o5=>Gh.trans ((qk X n).2 _ _ ih v0 v1 v2 v3 v4 v5 v6 v7 v8 v9 r2 r3 r4 o5)) m
def zF(X:kf)(n:Nat):SX (uc X n) s8 jY 101 ub:=AZ
open Go.Proofs
def kj:Nat->kf
 |0=>⟨Fu.z,Fu.z,Fu.z⟩
 |n+1=>⟨(wE (kj n) n).1,(pJ (kj n) n).1,(zF (kj n) n).1⟩
def nG:Int->(List Syntax)->Int->Int->Ta->Ta->Tb->Option Tm:=(kj n).nG
def Lf{n:Nat}:nG (n+1)=(wE (kj n) n).1:=rfl
def l5:Int->(List Syntax)->Int->Int->Ta->Ta->Tb->Option Tm:=(kj n).l5
def uo{n:Nat}:l5 (n+1)=(pJ (kj n) n).1:=rfl
def oX:jI->Int->(List Syntax)->Int->(List Syntax)->Int->Int->Ta->Ta->Tb->Option Tq:=(kj n).oX
def Yj{n:Nat}:oX (n+1)=(zF (kj n) n).1:=rfl
def kD{n:Nat}:(kj n).nG=nG n/\(kj n).l5=l5 n/\(kj n).oX=oX n:=⟨rfl,rfl,rfl⟩
def xO:∀n:Nat,tu fO 252 (lH 0 (lw (mP .i64) kr)) jY true jY qh jY (lw (Ut 312 aaL) kr) (qK (kj n).nG)/\tu fO 283 (lH 0 (lw (mP .i64) kr)) jY true jY qh jY (lw (Ut 312 aaL) kr) (qK (kj n).l5)/\tu fO 286 s8 jY true jY (lw (lD Syntax.kv) kr) jY (lw (Ut 312 aaL) kr) (ub (kj n).oX)
 |0=>⟨fun _ _ _ h=>(by cases h),fun _ _ _ h=>(by cases h),fun _ _ _ h=>(by cases h)⟩
 |n+1=>by
  obtain⟨Ws,Q7,De⟩:=xO n
  exact⟨DV (wE (kj n) n) (gd (jL (mS (HF n)) (jL (nT (Hs n)) jP)) jQ (p:=(j7 (kB (Q7)) (j7 (kB (De)) lc)))) func252 ntmps252 results252,
   DV (pJ (kj n) n) (gd (jL (lK (Bn n)) jP) jQ (p:=(j7 (kB (De)) lc)) (c:=(ng (An (De)) tz))) func283 ntmps283 results283,
   DV (zF (kj n) n) (gd (jL (mS (HF n)) (jL (nT (Hs n)) jP)) jQ (p:=(j7 (kB (Ws)) lc))) func286 ntmps286 results286⟩
def Wt:tu fO 252 (lH 0 (lw (mP .i64) kr)) jY true jY qh jY (lw (Ut 312 aaL) kr) (qK (nG n)):=(xO n).1
def akj:tu fO 283 (lH 0 (lw (mP .i64) kr)) jY true jY qh jY (lw (Ut 312 aaL) kr) (qK (l5 n)):=(xO n).2.1
def amV:tu fO 286 s8 jY true jY (lw (lD Syntax.kv) kr) jY (lw (Ut 312 aaL) kr) (ub (oX n)):=(xO n).2.2
open Go.Proofs
@[go_sem]def uq:=(lH 0 (lw (lD jI.kv) (lw (mP .i64) (lw (lD Syntax.kv) kr))))
@[go_sem]abbrev uQ(F:jI->Int->Syntax->Ta->Option TT)(b:Ts)(a:(jI×(Int×(Syntax×Unit)))):=F a.1 a.2.1 a.2.2.1 b.2.1
@[go_sem]def B0(F:jI->Int->Syntax->Ta->Option TT):=Kr [.arg 0 [],.zi 0 0 []] kg uq kg (lw nD kr) (uQ F)
@[go_sem]abbrev sU(F:Syntax->Ta->Option TI)(b:Ts)(a:(Syntax×Unit)):=F a.1 b.2.1
@[go_sem]def P9(F:Syntax->Ta->Option TI):=Kr [.arg 0 [],.zi 0 0 []] kg (lH 0 (lw (lD Syntax.kv) kr)) kg (lw (mP .i64) kr) (sU F)
structure mG where
 pS:jI->Int->Syntax->Ta->Option TT
 pK:Syntax->Ta->Option TI
open Go.Proofs
@[reducible] def B1(X:mG)(n:Nat):kG TT:=oN fO f298 n (xT fO [.tmp 8] [] [0,1] 2 kg (lw nD kr)) (cl:=nE [(297,wD (xN n))]) (cd:=M5 [(78,rq (oI (lD jI.kv) nD (z1 n))),(140,rq (oI (lD jI.kv) nD (xU n))),(285,rq (tj (lD jI.kv) (mP .i64) (mP .i64) (BZ n)))]) (co:=PY [(316,HB [.arg 0 [],.zi 0 0 []] kg (lH 0 (lw (lD Syntax.kv) kr)) kg (lw (mP .i64) kr) kg (lw (mP .i64) kr) (fun(b:Ts)(a:(Syntax×Unit))=>(X.pK a.1 b.2.1).map fun r=>(PR.ok r:PR TI TI)))]) (xy:=mE [316]) (xF:=mE [])
@[go_sem]def aJf(X:mG)(n:Nat):agz (B1 X n) [0,0,1,1] [0,1,1,1]:=⟨jF,jF⟩
@[go_sem]def aJg(X:mG)(n:Nat):RH (B1 X n) [0,1,1,1] 4 5=true:=jF
def B2(X:mG)(n:Nat):SX (B1 X n) uq kg 47 uQ:=AZ
open Go.Proofs
@[go_sem]def EP:Af:=⟨[],[],(zK::zA::zA::zK::zA::zK::nh (nh (nj (nj (zA::[]))))),[oC [zK],oM (lD jI.kv),oT Syntax.kv],none,none⟩
@[reducible] def FZ(X:mG)(n:Nat):kG TI:=oN fO f316 n (xT fO [.tmp 4] [] [0,1] 2 kg (lw (mP .i64) kr)) (cl:=nE [(140,oI (lD jI.kv) nD (xU n)),(285,tj (lD jI.kv) (mP .i64) (mP .i64) (BZ n)),(297,wD (xN n)),(298,B0 X.pS)]) (tv:=sj [([0,1,1],EP)])
@[go_sem]abbrev EQ(v0:Int)(r1:List (Str×jI))(o2:Syntax):jJ:=⟨(.ptr 0 0::qA::qA::.ptr 2 0::qA::.int .i64 v0::nu (nu (nN (nN (qA::[]))))),[.cells [.map 1],.map (mp (M7 (lD jI.kv)) r1),.cells (Syntax.cells o2)],2,[]⟩
abbrev ER:=Int->Ta->Syntax->Option TI
abbrev aJT(X:mG)(n:Nat)(K:List Kt)(Z:ER):Prop:=∀v0 r1 o2,run (FZ X n) K (EQ v0 r1 o2)=Z v0 r1 o2
def yF(X:mG)(n:Nat):LB (aJT X n) [0,1,1] [.tX 0]:=mB
def yG(X:mG)(n:Nat):Nat->ER:=AU ((yF X n).1)
def agO(X:mG){n:Nat}:yG X n (m+1)=(yF X n).1 (yG X n m):=rfl
@[go_sem]def L3(X:mG)(n:Nat)(m:Nat):=Dv (yF X n) (yG X n) m
def zG(X:mG)(n:Nat):SX (FZ X n) (lH 0 (lw (lD Syntax.kv) kr)) kg 47 sU:=mC
open Go.Proofs
def me:Nat->mG
 |0=>⟨Fu.z,Fu.z⟩
 |n+1=>⟨(B2 (me n) n).1,(zG (me n) n).1⟩
def pS:jI->Int->Syntax->Ta->Option TT:=(me n).pS
def alL{n:Nat}:pS (n+1)=(B2 (me n) n).1:=rfl
def pK:Syntax->Ta->Option TI:=(me n).pK
def aiN{n:Nat}:pK (n+1)=(zG (me n) n).1:=rfl
def akZ{n:Nat}:(me n).pS=pS n/\(me n).pK=pK n:=⟨rfl,rfl⟩
def Au:∀n:Nat,Bl fO 298 uq kg kg (lw nD kr) (uQ (me n).pS)/\Bl fO 316 (lH 0 (lw (lD Syntax.kv) kr)) kg kg (lw (mP .i64) kr) (sU (me n).pK)
 |0=>⟨fun _ _ _ h=>(by cases h),fun _ _ _ h=>(by cases h)⟩
 |n+1=>by
  obtain⟨R2,Pa⟩:=Au n
  exact⟨Jn (B2 (me n) n) (gd (jL (mS (zD n)) jP) (nf (mV (CW n)) (nf (mV (Bn n)) (nf (wu (Hs n)) jQ))) (c:=(ng (ajV (Pa)) tz))) func298 ntmps298 results298,
   Jn (zG (me n) n) (gd (jL (lK (Bn n)) (jL (nT (Hs n)) (jL (mS (zD n)) (jL (mS (R2)) jP)))) jQ) func316 ntmps316 results316⟩
def R3:Bl fO 298 uq kg kg (lw nD kr) (uQ (pS n)):=(Au n).1
def aim:Bl fO 316 (lH 0 (lw (lD Syntax.kv) kr)) kg kg (lw (mP .i64) kr) (sU (pK n)):=(Au n).2
open Go.Proofs
@[reducible] def IR:kG Bool:=oN fO f209 n (oB fO [.tmp 2] nD) (cl:=nE [(94,oI (Ch jH.kv) (lD kF.kv) (lT n))]) (cd:=M5 [(79,rq (tj (l8 mc) mq nD (nZ n)))]) (xy:=mE []) (xF:=mE [])
@[go_sem]def aJh:wV (IR n) [0,1,1]=true:=jF
def B3:RM (IR n) (Ch jH.kv) 25:=mB
def wF:=fu fun n=>(B3 n).1
def HO:∀n:Nat,Ap fO 209 (Ch jH.kv) nD (wF n):=BO fun n=>Bk (B3 n) (gd (jL (lK (lW n)) jP) (nf (wu (HK n)) jQ)) func209 ntmps209 results209
@[go_sem]abbrev nK(F:(List Str)->Str->Option (TG×(Bool×Unit)))(b:TG)(a:((List Str)×(Unit×Unit))):=F a.1 b.1.1
@[go_sem]def sV(F:(List Str)->Str->Option (TG×(Bool×Unit))):=Kr [.arg 1 [0]] (zh (KI (alC cS 1 kr)) Du) k7 (zh (KI (alC cS 1 kr)) Du) (lw nD kr) (nK F)
@[reducible] def zH:kG (TG×(Bool×Unit)):=oN fO f10 n (xT fO [.tmp 4] [] [0] 1 (zh (KI (alC cS 1 kr)) Du) (lw nD kr)) (cl:=nE [(39,tQ (qJ n))])
def pT:SX (zH n) k7 (zh (KI (alC cS 1 kr)) Du) 9 nK:=mC
def n4:=fu fun n=>(pT n).1
def y9:∀n:Nat,Bl fO 10 k7 (zh (KI (alC cS 1 kr)) Du) (zh (KI (alC cS 1 kr)) Du) (lw nD kr) (nK (n4 n)):=VN fun n=>Jn (pT n) (gd (jL (mS (Ar n)) jP) jQ) func10 ntmps10 results10
open Go.Proofs
@[go_sem]def Zg:Af:=⟨[],[],(zK::zA::zA::zA::zT (l8 mc)::zK::DU (zA::zA::zA::[])),[],none,none⟩
@[go_sem]def Zh:Af:=⟨[],[],(zK::zA::zA::zK::DU (nj (zA::[]))),[],none,none⟩
@[reducible] def Q8:kG Bool:=oN fO f190 n (oB fO [.tmp 2] nD) (cl:=nE [(228,oI mq nD (NJ n)),(236,oI (mP .u8) nD (K2 n)),(237,tj mq (mP .i64) (mP .i64) (Jf n)),(238,oI (mP .u8) nD (XL n)),(239,ajE (awv mc) (Sn n))]) (tv:=sj [([0,1,0,1,1,1,1,1],Zg),([0,1,0,1,1,1],Zh)])
@[go_sem]abbrev Zi(v0:Str)(v1:List Str)(v2:Int):jJ:=⟨(.str (sb v0)::qA::qA::qA::.kW false 1 (mp nY v1)::.int .i64 v2::DT (qA::qA::qA::[])),[],0,[]⟩
abbrev ain(K:List Kt)(Z:Hl):Prop:=∀v0 v1 v2,run (Q8 n) K (Zi v0 v1 v2)=Z v0 v1 v2
@[go_sem]abbrev Zj(v0:Str)(v1:Int):jJ:=⟨(.str (sb v0)::qA::qA::.int .i64 v1::DT (nN (qA::[]))),[],0,[]⟩
abbrev Zk:=Str->Int->Option Bool
abbrev aio(K:List Kt)(Z:Zk):Prop:=∀v0 v1,run (Q8 n) K (Zj v0 v1)=Z v0 v1
def ES:LB (ain n) [0,1,0,1,1,1,1,1] [.tX 2,.cut [1,1,1,1,1,1],.at [1,1,1,1,1,1]]:=mB
def Bd:Nat->Hl:=AU ((ES n).1)
def SN{n:Nat}:Bd n (m+1)=(ES n).1 (Bd n m):=rfl
@[go_sem]def aet(m:Nat):=Dv (ES n) (Bd n) m
def ET:LB (aio n) [0,1,0,1,1,1] [.tX 0,.cut [1,1,1,1],.at [1,1,1,1]]:=mB
def EU:Nat->Zk:=AU ((ET n).1)
def SO{n:Nat}:EU n (m+1)=(ET n).1 (EU n m):=rfl
@[go_sem]def aeu(m:Nat):=Dv (ET n) (EU n) m
def Q9:RM (Q8 n) mq 73:=mB
def Qa:=fu fun n=>(Q9 n).1
def aip:∀n:Nat,Ap fO 190 mq nD (Qa n):=BO fun n=>Bk (Q9 n) (gd (jL (lK (agC n)) (jL (lK (aJw n)) (jL (nT (aeq n)) (jL (lK (als n)) (jL (afb (aj3 n)) jP))))) jQ) func190 ntmps190 results190
@[reducible] def aiq:kG Bool:=oN fO f182 n (oB fO [.tmp 2] nD) (cl:=nE [(199,Nj (GG n))])
def Pb:RM (aiq n) mq 6:=mB
def IS:=fu fun n=>(Pb n).1
def Wu:∀n:Nat,Ap fO 182 mq nD (IS n):=BO fun n=>Bk (Pb n) (gd (jL (mS (SL n)) jP) jQ) func182 ntmps182 results182
@[go_sem]def Mv:Af:=⟨[],[],(zK::nh (nh (nh (nj (zA::zA::[]))))),[oC [zK,zK,zK,zK,zK],oK,oK,oK],none,none⟩
@[go_sem]abbrev Bw(F:Str->Int->Tb->Tb->Tb->Option (Tk×Unit))(b:Tk)(a:Unit):=F b.1.1 b.1.2.1 b.2.1 b.2.2.1 b.2.2.2.1
@[go_sem]def OA(F:Str->Int->Tb->Tb->Tb->Option (Tk×Unit)):=Kr [.arg 0 [],.zi 0 2 [],.zi 0 3 [],.zi 0 4 []] kC (lH 0 kr) kC kr (Bw F)
@[reducible] def GJ:kG (Tk×Unit):=oN fO f204 n (xT fO [] [] [0,1,2,3] 4 kC kr) (cl:=nE [(243,tj mq (mP .i32) nD (xW n)),(244,tj mq mq nD (FR n)),(245,tj mq mq (ty3 mq mq nD) (strings_Cut n))]) (tv:=sj [([0],Mv)]) (xy:=mE []) (xF:=mE [])
@[go_sem]def abm:agz (GJ n) [0,0,0,0] [0,0,1,0,0]:=⟨jF,jF⟩
@[go_sem]abbrev Mw(v0:Str)(v1:Int)(r1 r2 r3:List (Str×Bool)):jJ:=⟨(.ptr 0 0::nu (nu (nu (nN (qA::qA::[]))))),[.cells [.str (sb v0),.int .i64 v1,.map 1,.map 2,.map 3],.map (mp He r1),.map (mp He r2),.map (mp He r3)],4,[]⟩
abbrev Mx:=Str->Int->Tb->Tb->Tb->Option (Tk×Unit)
abbrev ZS(K:List Kt)(Z:Mx):Prop:=∀v0 v1 r1 r2 r3,run (GJ n) K (Mw v0 v1 r1 r2 r3)=Z v0 v1 r1 r2 r3
def AJ:LB (ZS n) [0] [.tX 0]:=mB
def AK:Nat->Mx:=AU ((AJ n).1)
def Wv{n:Nat}:AK n (m+1)=(AJ n).1 (AK n m):=rfl
@[go_sem]def aJi(m:Nat):=Dv (AJ n) (AK n) m
def GK:SX (GJ n) (lH 0 kr) kC 55 Bw:=mC
def xC:=fu fun n=>(GK n).1
def ZT:∀n:Nat,Bl fO 204 (lH 0 kr) kC kC kr (Bw (xC n)):=VN fun n=>Jn (GK n) (gd (jL (nT (Wk n)) (jL (nT (aa7 n)) (jL (nT (aj0 n)) jP))) jQ) func204 ntmps204 results204
@[reducible] def Lg:kG TC:=oN fO f203 n (xT fO [.tmp 2,.tmp 3,.tmp 4] [] [0,1,2,3] 4 kC oG) (cd:=M5 [(242,rq (Uq (tj mq mq (mP .i64) (yf n)) (tj mq mq (mP .i64) (strings_IndexAny n))))]) (xy:=mE []) (xF:=mE [])
@[go_sem]def Yk:aB1 (Lg n) [0,0,1,0,1,1] [0,0,1,1] [0,1] [0,1,1,1]:=⟨jF,jF,jF,jF⟩
def El:SX (Lg n) (lH 0 kr) kC 45 oS:=mC
def Bx:=fu fun n=>(El n).1
def Ww:∀n:Nat,Bl fO 203 (lH 0 kr) kC kC oG (oS (Bx n)):=VN fun n=>Jn (El n) (gd jP (nf (atG (wu (aaQ n)) (wu (ac6 n))) jQ)) func203 ntmps203 results203
@[reducible] def abn:kG Tv:=oN fO f82 n (qE fO [] [] [0] 1 jG kr) (pP:=qF [] [0] 1 jG jO) (cp:=Ao [(148,lj (mT n))]) (xb:=mE [148])
def By:SX (abn n) (lH 0 (lw (mP .i64) kr)) jG 8 pR:=AZ
def k8:=fu fun n=>(By n).1
def mH:∀n:Nat,tu fO 82 (lH 0 (lw (mP .i64) kr)) jG true jG kr jG jO (pR (k8 n)):=XK fun n=>DV (By n) (gd jP jQ (p:=(j7 (kB (vA n)) lc))) func82 ntmps82 results82
@[go_sem]abbrev rS(F:Bool->jH->Option Tv)(b:T6)(a:(Bool×Unit)):=F a.1 b.1.1
@[go_sem]def rT(F:Bool->jH->Option Tv):=xd true [.arg 0 []] jG (lH 0 (lw nD kr)) jG kr jG jO (rS F)
@[reducible] def Yl:kG Tv:=oN fO f93 n (qE fO [] [] [0] 1 jG kr) (pP:=qF [] [0] 1 jG jO) (cp:=Ao [(148,lj (mT n))]) (xb:=mE [148])
def Em:SX (Yl n) (lH 0 (lw nD kr)) jG 8 rS:=AZ
def mz:=fu fun n=>(Em n).1
def py:∀n:Nat,tu fO 93 (lH 0 (lw nD kr)) jG true jG kr jG jO (rS (mz n)):=XK fun n=>DV (Em n) (gd jP jQ (p:=(j7 (kB (vA n)) lc))) func93 ntmps93 results93
open Go.Proofs
@[reducible] def Ra:kG Bool:=oN fO f154 n (oB fO [.tmp 2] nD) (cl:=nE [(91,tj (Ch jH.kv) mq nD (nF n)),(207,oI (Ch jH.kv) nD (vp n))])
def Aw:RM (Ra n) (Ch jH.kv) 9:=mB
def sD:=fu fun n=>(Aw n).1
def zI:∀n:Nat,Ap fO 154 (Ch jH.kv) nD (sD n):=BO fun n=>Bk (Aw n) (gd (jL (nT (pu n)) (jL (lK (C1 n)) jP)) jQ) func154 ntmps154 results154
@[reducible] def Lh:kG (Te×(Bool×Unit)):=oN fO f153 n (ajG fO [.tmp 4] (wh (Am jH.kv) uA) (Qw nD Jl) 1) (cl:=nE [(88,Bh [0] (wh (Am jH.kv) uA) (RD 0 LZ) (wh (Am jH.kv) uA) (Qw mq Jl) (fun(b:Te) a=>(kL n) b.1)),(91,Dx (rq (tj (Ch jH.kv) mq nD (nF n))))])
def En:{B:jH->Str->Option (Te×(Bool×Unit)) //∀(a0:jH)(a1:Str),run (Lh n) [.at []] (ini ((RD 0 (asT mq LZ)).enc (a0,()) (a1,())) 13 ((wh (Am jH.kv) uA).enc (a0,())))=B a0 a1}:=mB
def lF:=fu fun n=>(En n).1
def mi:∀(n:Nat)(a0:jH)(a1:Str)(r:(Te×(Bool×Unit))),lF n a0 a1=some r->FnG fO 153 ((RD 0 (asT mq LZ)).enc (a0,()) (a1,())) ((wh (Am jH.kv) uA).enc (a0,())) (fun o H'=>o=.ret (uv ((Qw nD Jl).enc r.1 r.2))/\H'=(wh (Am jH.kv) uA).enc r.1)
 |0,_,_,_,h=>by cases h
 |n+1,a0,a1,r,h=>by
  exact zg (M:=Lh n) ⟨(jL (pQ (fun b a r h=>(lE n) b.1 r h)) (jL (qd (wu (pu n))) jP)),jQ,qI _,rz _,uK,uM,vU,vg⟩ func153 rfl rfl (by simp only[go_sem,fT,fU,fP,fQ,fV,fW,fY,fZ,ga,fR,fX,gb]) ((wh (Am jH.kv) uA).nb _ _) ntmps153 results153 (fun J hs=>aco hs) (((En n).2 a0 a1).trans h)
@[go_sem]def HP:Af:=⟨[],[],(zK::zK::nj (zA::zK::zT (l8 Syntax.row)::nh (zA::zA::zT (l8 mc)::zK::zK::nh (nj (nj (nj (zA::zA::zA::[]))))))),[oC [zK],oA Syntax.row,oM (lD jI.kv),oD,oT jI.kv],none,none⟩
@[go_sem]def w8:=(lH 0 (alA 1 (lw (lD Syntax.kv) kr)))
@[go_sem]def qC:=(zh (KI (alM 2 kr)) (zh (ogA true Syntax.row) (zh (ah5 (lD jI.kv)) Du)))
@[go_sem]abbrev xP(F:Syntax->(List Syntax)->Ta->Option Tl)(b:(Unit×((List Syntax)×(Ta×Unit))))(a:(Syntax×Unit)):=F a.1 b.2.1 b.2.2.1
@[go_sem]def B4(F:Syntax->(List Syntax)->Ta->Option Tl):=Kr [.arg 0 [],.arg 1 [],.zi 0 0 []] qC w8 qC (alA 1 kr) (xP F)
@[reducible] def IT(X:Syntax->(List Syntax)->Ta->Option Tl)(n:Nat):kG Tl:=oN fO f268 n (xT fO [.tmp 6] [] [0,1,2] 3 qC (alA 1 kr)) (cl:=nE [(268,amL 1 true 8 (B4 X)),(297,wD (xN n)),(298,B0 (pS n))]) (tv:=sj [([0,1,0,1,1,1],HP)])
@[go_sem]abbrev HQ(v0:List Syntax)(v1:List Str)(v2 v3:Int)(r1:List Syntax)(r2:List (Str×jI))(o4:jI)(c1:Nat):jJ:=⟨(.ptr 0 0::.lN 1 c1::nN (qA::.ptr 4 0::.kW false 8 (mp Syntax.cells v0)::nu (qA::qA::.kW false 1 (mp nY v1)::.int .i64 v2::.int .i64 v3::nu (nN (nN (nN (qA::qA::qA::[]))))))),[.cells [.map 2],.lN true 8 (mp Syntax.cells r1),.map (mp (M7 (lD jI.kv)) r2),.xu,.cells (jI.cells o4)],3,[]⟩
abbrev HR:=(List Syntax)->(List Str)->Int->Int->(List Syntax)->Ta->jI->Option Tl
abbrev R4(X:Syntax->(List Syntax)->Ta->Option Tl)(n:Nat)(K:List Kt)(Z:HR):Prop:=∀v0 v1 v2 v3 r1 r2 o4 c1,c1=r1.length->run (IT X n) K (HQ v0 v1 v2 v3 r1 r2 o4 c1)=Z v0 v1 v2 v3 r1 r2 o4
def A7(X:Syntax->(List Syntax)->Ta->Option Tl)(n:Nat):LB (R4 X n) [0,1,0,1,1,1] [.tX 0,.cut [1,1,1,1],.at [1,1,1,1]]:=mB
def A8(X:Syntax->(List Syntax)->Ta->Option Tl)(n:Nat):Nat->HR:=AU ((A7 X n).1)
def aiO(X:Syntax->(List Syntax)->Ta->Option Tl){n:Nat}:A8 X n (m+1)=(A7 X n).1 (A8 X n m):=rfl
@[go_sem]def Pc(X:Syntax->(List Syntax)->Ta->Option Tl)(n:Nat)(m:Nat):=Dv (A7 X n) (A8 X n) m
def IU(X:Syntax->(List Syntax)->Ta->Option Tl)(n:Nat):SX (IT X n) w8 qC 61 xP:=mC
def zJ:Nat->Syntax->(List Syntax)->Ta->Option Tl
 |0,_,_,_=>none
 |n+1,a0,o0,o1=>(IU (zJ n) n).1 a0 o0 o1
def HT:∀n:Nat,Bl fO 268 w8 qC qC (alA 1 kr) (xP (zJ n))
 |0=>fun _ _ _ h=>(by cases h)
 |n+1=>by
  have R5:=HT n;exact Jn (IU (zJ n) n) (gd (jL (ajI (mS (R5))) (jL (mS (zD n)) (jL (mS (R3 n)) jP))) jQ) func268 ntmps268 results268
open Go.Proofs
@[go_sem]def abo:Af:=⟨[],[],(zA::zK::zA::zA::zA::zK::DU (nh (nh (nj (zA::zA::zA::[]))))),[oT jI.kv],none,none⟩
@[go_sem]def abp:Af:=⟨[],[],(zA::zK::zA::zK::zK::DU (nh (nh (nj (nj []))))),[oT jI.kv],none,none⟩
@[reducible] def aJj:kG Int:=oN fO f135 n (oB fO [.tmp 2] (mP .i64)) (cl:=nE [(137,oI (lD jI.kv) nD (DX n)),(162,oI mq nD (X4 n)),(190,oI mq nD (Qa n)),(191,oI (lD jI.kv) nD (So n))]) (tv:=sj [([0,1,0,1,1,1,1,1],abo),([0,1,0,1,1,1],abp)])
@[go_sem]abbrev abq(v0:Int)(o0:jI):jJ:=⟨(qA::.ptr 0 0::qA::qA::qA::.int .i64 v0::DT (nu (nu (nN (qA::qA::qA::[]))))),[.cells (jI.cells o0)],0,[]⟩
abbrev abr:=Int->jI->Option Int
abbrev akk(K:List Kt)(Z:abr):Prop:=∀v0 o0,run (aJj n) K (abq v0 o0)=Z v0 o0
@[go_sem]abbrev abt(v0:Bool)(v1:Int)(o0:jI):jJ:=⟨(qA::.ptr 0 0::qA::.bool v0::.int .i64 v1::DT (nu (nu (nN (nN []))))),[.cells (jI.cells o0)],0,[]⟩
abbrev abu:=Bool->Int->jI->Option Int
abbrev akl(K:List Kt)(Z:abu):Prop:=∀v0 v1 o0,run (aJj n) K (abt v0 v1 o0)=Z v0 v1 o0
def GL:LB (akk n) [0,1,0,1,1,1,1,1] [.tX 2,.cut [1,1,1,1,1,1],.at [1,1,1,1,1,1]]:=mB
def Df:Nat->abr:=AU ((GL n).1)
def Wx{n:Nat}:Df n (m+1)=(GL n).1 (Df n m):=rfl
@[go_sem]def afG(m:Nat):=Dv (GL n) (Df n) m
def GM:LB (akl n) [0,1,0,1,1,1] [.tX 0,.cut [1,1,1,1],.at [1,1,1,1]]:=mB
def xX:Nat->abu:=AU ((GM n).1)
def Wy{n:Nat}:xX n (m+1)=(GM n).1 (xX n m):=rfl
@[go_sem]def afH(m:Nat):=Dv (GM n) (xX n) m
def aJk:RM (aJj n) (lD jI.kv) 109:=mB
def SQ:=fu fun n=>(aJk n).1
def akm:∀n:Nat,Ap fO 135 (lD jI.kv) (mP .i64) (SQ n):=BO fun n=>Bk (aJk n) (gd (jL (lK (ID n)) (jL (lK (alD n)) (jL (lK (aip n)) (jL (lK (aj4 n)) jP)))) jQ) func135 ntmps135 results135
def Zl:Af:=⟨[],[],(zK::nh (nh (nh (zA::zA::zT (l8 mc)::zK::zK::nj (nj (zA::[])))))),[],none,none⟩
def Zm:Af:=⟨[],[],(zK::nh (nj (nj (nj (zA::zA::zA::zK::zK::nh (nj (nj (nj (zA::[]))))))))),[],none,none⟩
def Zn:Af:=⟨[],[],(zK::nj (nj (nj (zA::zK::zK::nh (nh (nj (nj (nj (zA::zA::zA::[]))))))))),[],none,none⟩
@[reducible] def Li:kG Bool:=oN fO f139 n (oB fO [.tmp 2] nD) (cl:=nE [(12,tj mq mq nD (strings_Contains n)),(182,oI mq nD (IS n)),(193,oI (mP .u8) (mP .i64) (DF n)),(194,oI (mP .u8) nD (zu n)),(195,ajE (l8 mc) (Oe n))]) (tv:=sj [([0,1,0,1,1,1,1,1],Zl),([0,1,0,1,1,1],Zm),([0,1,0,0,1,0,1,1],Zn)])
attribute [go_sem] Zl Zm Zn
abbrev Zo(v0:Str)(v1:List Str)(v2 v3:Int):jJ:=⟨(.str (sb v0)::nu (nu (nu (qA::qA::.kW false 1 (mp nY v1)::.int .i64 v2::.int .i64 v3::nN (nN (qA::[])))))),[],0,[]⟩
abbrev Zp:=Str->(List Str)->Int->Int->Option Bool
abbrev air(K:List Kt)(Z:Zp):Prop:=∀v0 v1 v2 v3,run (Li n) K (Zo v0 v1 v2 v3)=Z v0 v1 v2 v3
abbrev Zq(v0:Str)(v1 v2:Int):jJ:=⟨(.str (sb v0)::nu (nN (nN (nN (qA::qA::qA::.int .i64 v1::.int .i64 v2::nu (nN (nN (nN (qA::[]))))))))),[],0,[]⟩
abbrev Jg:=Str->Int->Int->Option Bool
abbrev ais(K:List Kt)(Z:Jg):Prop:=∀v0 v1 v2,run (Li n) K (Zq v0 v1 v2)=Z v0 v1 v2
abbrev Zr(v0:Str)(v1 v2:Int):jJ:=⟨(.str (sb v0)::nN (nN (nN (qA::.int .i64 v1::.int .i64 v2::nu (nu (nN (nN (nN (qA::qA::qA::[]))))))))),[],0,[]⟩
abbrev Zs:List Kt:=[.tX 0,.cut [1,0,1,0,1,1],.at [1,0,1,0,1,1],.cut [1,1,1],.at [1,1,1]]
abbrev ait(K:List Kt)(Z:Jg):Prop:=∀v0 v1 v2,run (Li n) K (Zr v0 v1 v2)=Z v0 v1 v2
attribute [go_sem] Zo Zq Zr Zs
def EV:LB (air n) [0,1,0,1,1,1,1,1] [.tX 4,.cut [1,1,1,1,1,1],.at [1,1,1,1,1,1]]:=mB
def Be:Nat->Zp:=AU ((EV n).1)
def SR{n:Nat}:Be n (m+1)=(EV n).1 (Be n m):=rfl
@[go_sem]def aev(m:Nat):=Dv (EV n) (Be n) m
def EW:LB (ais n) [0,1,0,1,1,1] [.tX 2,.cut [1,1,1,1],.at [1,1,1,1]]:=mB
def EX:Nat->Jg:=AU ((EW n).1)
def SS{n:Nat}:EX n (m+1)=(EW n).1 (EX n m):=rfl
@[go_sem]def aew(m:Nat):=Dv (EW n) (EX n) m
def EY:LB (ait n) [0,1,0,0,1,0,1,1] Zs:=mB
def EZ:Nat->Jg:=AU ((EY n).1)
def SU{n:Nat}:EZ n (m+1)=(EY n).1 (EZ n m):=rfl
@[go_sem]def aex(m:Nat):=Dv (EY n) (EZ n) m
def Rb:RM (Li n) mq 63:=mB
def Lj:=fu fun n=>(Rb n).1
def Zt:∀n:Nat,Ap fO 139 mq nD (Lj n):=BO fun n=>Bk (Rb n) (gd (jL (nT (yQ n)) (jL (lK (Wu n)) (jL (lK (Gj n)) (jL (lK (aJQ n)) (jL (afb (aa4 n)) jP))))) jQ) func139 ntmps139 results139
@[go_sem]abbrev Bz(F:Str->jH->Option Tv)(b:T6)(a:(Str×Unit)):=F a.1 b.1.1
@[go_sem]def oZ(F:Str->jH->Option Tv):=xd true [.arg 0 []] jG (lH 0 (lw mq kr)) jG kr jG jO (Bz F)
@[reducible] def abv:kG Tv:=oN fO f151 n (qE fO [] [] [0] 1 jG kr) (cl:=nE [(85,Dx (rq (acL (Ch jH.kv) (mP .i64) mq nD (vo n)))),(88,Bh [0] (wh (Am jH.kv) uA) (RD 0 LZ) (wh (Am jH.kv) uA) (Qw mq Jl) (fun(b:Te) a=>(kL n) b.1)),(91,Dx (rq (tj (Ch jH.kv) mq nD (nF n))))]) (pP:=qF [] [0] 1 jG jO) (cp:=Ao [(93,rT (mz n))]) (xb:=mE [93])
def GN:SX (abv n) (lH 0 (lw mq kr)) jG 16 Bz:=AZ
def mA:=fu fun n=>(GN n).1
def pF:∀n:Nat,tu fO 151 (lH 0 (lw mq kr)) jG true jG kr jG jO (Bz (mA n)):=XK fun n=>DV (GN n) (gd (jL (qd (Qv (yY n))) (jL (pQ (fun b a r h=>(lE n) b.1 r h)) (jL (qd (wu (pu n))) jP))) jQ (p:=(j7 (kB (py n)) lc))) func151 ntmps151 results151
@[go_sem]abbrev pY(F:jH->Option (PR TF (T6×T8)))(b:T6)(a:Unit):=F b.1.1
@[go_sem]def nW(F:jH->Option (PR TF (T6×T8))):=xd true [.arg 0 []] jG (lH 0 kr) jG (lw mq kr) jG jO (pY F)
@[reducible] def aJl:kG (PR TF (T6×T8)):=oN fO f149 n (qE fO [.tmp 2] [] [0] 1 jG (lw mq kr)) (cl:=nE [(88,Bh [0] (wh (Am jH.kv) uA) (RD 0 LZ) (wh (Am jH.kv) uA) (Qw mq Jl) (fun(b:Te) a=>(kL n) b.1)),(154,Dx (rq (oI (Ch jH.kv) nD (sD n))))]) (pP:=qF [] [0] 1 jG jO) (cp:=Ao [(93,rT (mz n))]) (xb:=mE [93])
def B5:SX (aJl n) (lH 0 kr) jG 9 pY:=AZ
def pU:=fu fun n=>(B5 n).1
def ur:∀n:Nat,tu fO 149 (lH 0 kr) jG true jG (lw mq kr) jG jO (pY (pU n)):=XK fun n=>DV (B5 n) (gd (jL (pQ (fun b a r h=>(lE n) b.1 r h)) (jL (qd (mV (zI n))) jP)) jQ (p:=(j7 (kB (py n)) lc))) func149 ntmps149 results149
@[go_sem]abbrev zM(F:jH->Option TV)(b:T6)(a:Unit):=F b.1.1
@[go_sem]def zN(F:jH->Option TV):=xd true [.arg 0 []] jG (lH 0 kr) jG (lw (mP .i64) kr) jG jO (zM F)
@[reducible] def Ym:kG TV:=oN fO f327 n (qE fO [.tmp 2] [] [0] 1 jG (lw (mP .i64) kr)) (cl:=nE [(88,Bh [0] (wh (Am jH.kv) uA) (RD 0 LZ) (wh (Am jH.kv) uA) (Qw mq Jl) (fun(b:Te) a=>(kL n) b.1)),(94,Dx (rq (oI (Ch jH.kv) (lD kF.kv) (lT n)))),(333,oI mq (ty2 (mP .i64) ay9) (strconv_Atoi n))]) (pP:=qF [] [0] 1 jG jO) (cp:=Ao [(93,rT (mz n))]) (xb:=mE [93])
def Eo:SX (Ym n) (lH 0 kr) jG 18 zM:=AZ
def rL:=fu fun n=>(Eo n).1
def Dg:∀n:Nat,tu fO 327 (lH 0 kr) jG true jG (lw (mP .i64) kr) jG jO (zM (rL n)):=XK fun n=>DV (Eo n) (gd (jL (pQ (fun b a r h=>(lE n) b.1 r h)) (jL (qd (mV (lW n))) (jL (lK (ah6 n)) jP))) jQ (p:=(j7 (kB (py n)) lc))) func327 ntmps327 results327
@[reducible] def Rc:kG (PR TF (T6×T8)):=oN fO f340 n (qE fO [.tmp 2] [] [0] 1 jG (lw mq kr)) (cl:=nE [(88,Bh [0] (wh (Am jH.kv) uA) (RD 0 LZ) (wh (Am jH.kv) uA) (Qw mq Jl) (fun(b:Te) a=>(kL n) b.1)),(207,Dx (rq (oI (Ch jH.kv) nD (vp n))))]) (pP:=qF [] [0] 1 jG jO) (cp:=Ao [(93,rT (mz n))]) (xb:=mE [93])
def Ax:SX (Rc n) (lH 0 kr) jG 9 pY:=AZ
def qO:=fu fun n=>(Ax n).1
def F0:∀n:Nat,tu fO 340 (lH 0 kr) jG true jG (lw mq kr) jG jO (pY (qO n)):=XK fun n=>DV (Ax n) (gd (jL (pQ (fun b a r h=>(lE n) b.1 r h)) (jL (qd (mV (C1 n))) jP)) jQ (p:=(j7 (kB (py n)) lc))) func340 ntmps340 results340
open Go.Proofs
@[reducible] def abw:kG (PR TF (T6×T8)):=oN fO f326 n (qE fO [.tmp 2] [] [0] 1 jG (lw mq kr)) (cl:=nE [(88,Bh [0] (wh (Am jH.kv) uA) (RD 0 LZ) (wh (Am jH.kv) uA) (Qw mq Jl) (fun(b:Te) a=>(kL n) b.1)),(94,Dx (rq (oI (Ch jH.kv) (lD kF.kv) (lT n))))]) (pP:=qF [] [0] 1 jG jO) (cp:=Ao [(93,rT (mz n))]) (xb:=mE [93])
def GO:SX (abw n) (lH 0 kr) jG 11 pY:=AZ
def Ay:=fu fun n=>(GO n).1
def My:∀n:Nat,tu fO 326 (lH 0 kr) jG true jG (lw mq kr) jG jO (pY (Ay n)):=XK fun n=>DV (GO n) (gd (jL (pQ (fun b a r h=>(lE n) b.1 r h)) (jL (qd (mV (lW n))) jP)) jQ (p:=(j7 (kB (py n)) lc))) func326 ntmps326 results326
@[go_sem]abbrev zO(F:jH->Option Tv)(b:T6)(a:Unit):=F b.1.1
@[go_sem]def Ll(F:jH->Option Tv):=xd true [.arg 0 []] jG (lH 0 kr) jG kr jG jO (zO F)
@[reducible] def zP:kG Tv:=oN fO f45 n (qE fO [] [] [0] 1 jG kr) (pP:=qF [] [0] 1 jG jO) (co:=PY [(93,HB [.arg 0 []] jG (lH 0 (lw nD kr)) jG kr jG jO (rS (mz n))),(94,aJo (rq (oI (Ch jH.kv) (lD kF.kv) (lT n))))]) (xy:=mE [93,94]) (xF:=mE [])
def Yn:wV (zP n) []=true:=jF
def Yo:RH (zP n) [] 6 9=true:=jF
def Yp:Un (zP n) [] 9=true:=jF
attribute [go_sem] Yn Yo Yp
def Ep:SX (zP n) (lH 0 kr) jG 12 zO:=AZ
def xY:=fu fun n=>(Ep n).1
def Wz:∀n:Nat,tu fO 45 (lH 0 kr) jG true jG kr jG jO (zO (xY n)):=XK fun n=>DV (Ep n) (gd jP jQ (c:=(ng (An (py n)) (ng (N4 (mV (lW n))) tz)))) func45 ntmps45 results45
@[reducible] def Nk:kG Bool:=oN fO f126 n (oB fO [.tmp 4] nD) (cl:=nE [(141,oI mq nD (Wd n)),(171,tj (l8 mc) mq nD (IQ n)),(182,oI mq nD (IS n))])
def Dh:SC2 (Nk n) (l8 mc) mq 22:=mB
def yH:=fu fun n=>(Dh n).1
def Cb:∀n:Nat,Fk fO 126 (l8 mc) mq nD (yH n):=Ks fun n=>Iz (Dh n) (gd (jL (lK (afC n)) (jL (nT (P8 n)) (jL (lK (Wu n)) jP))) jQ) func126 ntmps126 results126
open Go.Proofs
@[go_sem]abbrev uG(F:jH->Option Tx)(b:T6)(a:Unit):=F b.1.1
@[go_sem]def Mz(F:jH->Option Tx):=xd true [.arg 0 []] jG (lH 0 kr) jG (lw (l8 jU.row) kr) jG jO (uG F)
@[go_sem]def nn:=(lH 0 (alF 339 (vlP 1 (vlP 2 vlN)) kr))
@[go_sem]def kw:=(zh (KI (alC jH.kv 6 kr)) (zh (KI (alA 3 kr)) (zh (KI (lH 0 kr)) (zh (ogA false jU.row) Du))))
@[go_sem]abbrev nH(F:jH->(List jU)->Option Tj)(b:(Te×(Unit×(Unit×((List jU)×Unit)))))(a:(Unit×Unit)):=F b.1.1 b.2.2.2.1
@[go_sem]def vG(F:jH->(List jU)->Option Tj):=xd true [.arg 0 [],.arg 1 [0],.arg 1 [1],.zi 1 0 []] kw nn kw kr kw jO (nH F)
@[go_sem]def l7:=(zh (KI (alA 2 kr)) (zh (KI (lH 3 kr)) (zh (ogA false jU.row) (zh (KI (alC jH.kv 6 kr)) Du))))
@[go_sem]abbrev vH(F:(List jU)->jH->Option Tn)(b:(Unit×(Unit×((List jU)×T6))))(a:Unit):=F b.2.2.1 b.2.2.2.1.1
@[go_sem]def aI8(F:(List jU)->jH->Option Tn):=xd true [.arg 0 [],.arg 1 [],.zi 0 0 [],.zi 1 0 []] l7 (lH 0 (lH 1 kr)) l7 kr l7 jO (vH F)
structure kO where
 pL:jH->Option Tx
 lm:jH->(List jU)->Option Tj
 qT:(List jU)->jH->Option Tn
open Go.Proofs
def Lm:Af:=⟨[],[],(zA::zA::zA::zK::zK::zK::DU (nh (nh (nj (nj (zA::zA::zK::zK::nh (nj (zA::zA::[])))))))),[oT jH.kv,oD,oC [zK],oA jU.row],none,none⟩
@[reducible] def qU(X:kO)(n:Nat):kG Tx:=oN fO f335 n (qE fO [.tmp 2] [] [0] 1 jG (lw (l8 jU.row) kr)) (cl:=nE [(84,Dx (rq (oI (Ch jH.kv) (mP .i64) (p8 n)))),(88,Bh [0] (wh (Am jH.kv) uA) (RD 0 LZ) (wh (Am jH.kv) uA) (Qw mq Jl) (fun(b:Te) a=>(kL n) b.1)),(94,Dx (rq (oI (Ch jH.kv) (lD kF.kv) (lT n)))),(153,Bh [0] (wh (Am jH.kv) uA) (RD 0 (asT mq LZ)) (wh (Am jH.kv) uA) (Qw nD Jl) (fun(b:Te) a=>(lF n) b.1 a.1))]) (tv:=sj [([0,1,0,1,1,1,1,1,1],Lm)]) (cut:=amR [([1,0,1,0,1,1,1],[3]),([1,1,1,1,1,1,1,1],[3])] [([1,1,0,1,1,1,0,0,1,1],2,0,2,false)]) (pP:=qF [] [0] 1 jG jO) (co:=PY [(85,aJo (rq (acL (Ch jH.kv) (mP .i64) mq nD (vo n))))]) (cp:=Ao [(151,oZ (mA n)),(327,zN (rL n)),(330,vG X.lm),(340,nW (qO n))]) (xb:=mE [151,327,330,340]) (xy:=mE [85]) (xF:=mE [])
def ZU(X:kO)(n:Nat):wV (qU X n) [0,1,1,0,0,1,1]=true:=jF
def ZV(X:kO)(n:Nat):Fj (qU X n) [0,1,1,0,0,1,1] 0 3 3 5 3 9 3 11/\Fj (qU X n) [0,1,1,0,0,1,1] 3 15 3 16 3 20 3 24/\Fj (qU X n) [0,1,1,0,0,1,1] 3 25 3 29 3 31 3 33/\Fj (qU X n) [0,1,1,0,0,1,1] 3 37 3 41 3 42 3 46/\aqW (qU X n) [0,1,1,0,0,1,1] 3 48 3 50:=⟨⟨jF,jF,jF,jF⟩,⟨jF,jF,jF,jF⟩,⟨jF,jF,jF,jF⟩,⟨jF,jF,jF,jF⟩,jF,jF⟩
attribute [go_sem] ZU ZV Lm
@[go_sem]abbrev Ln(v0 v1 v2 v3:Int)(o0:jH)(r3:List jU)(c3:Nat):jJ:=⟨(qA::qA::qA::.ptr 2 0::.int .i64 v0::.int .i64 v1::DT (nu (nu (nN (nN (qA::qA::.int .i64 v2::.int .i64 v3::nu (nN (qA::qA::[])))))))),[.cells (jH.cells o0),.xu,.cells [.lN 3 c3],.lN false 2 (mp jU.cells r3)],1,[]⟩
@[go_sem]abbrev Lo:List Kt:=[.tX 1,.cut [1,1,1,1,1,1,1],.at [1,1,1,1,1,1,1]]
abbrev Lp:=Int->Int->Int->Int->jH->(List jU)->Option Tx
abbrev Yq(X:kO)(n:Nat)(K:List Kt)(Z:Lp):Prop:=∀v0 v1 v2 v3 o0 r3 c3,c3=r3.length->run (qU X n) K (Ln v0 v1 v2 v3 o0 r3 c3)=Z v0 v1 v2 v3 o0 r3
def wG(X:kO)(n:Nat):LB (Yq X n) [0,1,0,1,1,1,1,1,1] Lo:=EH
def rU(X:kO)(n:Nat):Nat->Lp:=AU ((wG X n).1)
def IV(X:kO){n:Nat}:rU X n (m+1)=(wG X n).1 (rU X n m):=rfl
@[go_sem]def R6(X:kO)(n:Nat)(m:Nat):=Dv (wG X n) (rU X n) m
def AM(X:kO)(n:Nat):SX (qU X n) (lH 0 kr) jG 136 uG:=AZ
open Go.Proofs
@[go_sem]def u7:Af:=⟨[],[],(zK::zK::zA::zA::zK::nj (nj (zA::zA::[]))),[oT jH.kv,oC [zK],oC [zK],oA jU.row],none,none⟩
@[reducible] def vI(X:kO)(n:Nat):kG Tj:=oN fO f330 n (qE fO [] [] [0,1,2,3] 4 kw kr) (cl:=nE [(153,Bh [0] (wh (Am jH.kv) uA) (RD 0 (asT mq LZ)) (wh (Am jH.kv) uA) (Qw nD Jl) (fun(b:Te) a=>(lF n) b.1 a.1))]) (tv:=sj [([0,1],u7)]) (pP:=qF [] [0,1,2,3] 4 kw jO) (cp:=Ao [(82,lj (k8 n)),(339,aI8 X.qT)]) (xb:=mE [82,339])
@[go_sem]abbrev va(v0:Int)(o0:jH)(r3:List jU)(c3:Nat):jJ:=⟨(.ptr 0 0::.func (.func 339) [] [.ptr 1 0,.ptr 2 0]::qA::qA::.int .i64 v0::nN (nN (qA::qA::[]))),[.cells (jH.cells o0),.cells [.lN 3 c3],.cells [.ptr 0 0],.lN false 2 (mp jU.cells r3)],4,[]⟩
abbrev vb:=Int->jH->(List jU)->Option Tj
abbrev Cf(X:kO)(n:Nat)(K:List Kt)(Z:vb):Prop:=∀v0 o0 r3 c3,c3=r3.length->run (vI X n) K (va v0 o0 r3 c3)=Z v0 o0 r3
def nq(X:kO)(n:Nat):LB (Cf X n) [0,1] [.tX 0]:=EH
def pd(X:kO)(n:Nat):Nat->vb:=AU ((nq X n).1)
def ux(X:kO){n:Nat}:pd X n (m+1)=(nq X n).1 (pd X n m):=rfl
@[go_sem]def A9(X:kO)(n:Nat)(m:Nat):=Dv (nq X n) (pd X n) m
def pz(X:kO)(n:Nat):SX (vI X n) nn kw 15 nH:=AZ
open Go.Proofs
@[reducible] def q9(X:kO)(n:Nat):kG Tn:=oN fO f339 n (qE fO [] [] [0,1,2,3] 4 l7 kr) (pP:=qF [] [0,1,2,3] 4 l7 jO) (co:=PY [(335,HB [.arg 0 []] jG (lH 0 kr) jG (lw (l8 jU.row) kr) jG jO (uG X.pL))]) (xy:=mE [335]) (xF:=mE [])
def WA(X:kO)(n:Nat):wV (q9 X n) []=true:=jF
def WB(X:kO)(n:Nat):Fj (q9 X n) [] 1 2 0 3 1 3 2 3/\Fj (q9 X n) [] 0 4 1 4 2 4 3 4:=⟨⟨jF,jF,jF,jF⟩,jF,jF,jF,jF⟩
def WC(X:kO)(n:Nat):L2 (q9 X n) [] 2 3=true/\L2 (q9 X n) [] 2 4=true/\Un (q9 X n) [] 2=false:=⟨jF,jF,jF⟩
attribute [go_sem] WA WB WC
def yu(X:kO)(n:Nat):SX (q9 X n) (lH 0 (lH 1 kr)) l7 6 vH:=AZ
open Go.Proofs
def kK:Nat->kO
 |0=>⟨Fu.z,Fu.z,Fu.z⟩
 |n+1=>⟨(AM (kK n) n).1,(pz (kK n) n).1,(yu (kK n) n).1⟩
def pL:jH->Option Tx:=(kK n).pL
def ZW{n:Nat}:pL (n+1)=(AM (kK n) n).1:=rfl
def lm:jH->(List jU)->Option Tj:=(kK n).lm
def Di{n:Nat}:lm (n+1)=(pz (kK n) n).1:=rfl
def qT:(List jU)->jH->Option Tn:=(kK n).qT
def WD{n:Nat}:qT (n+1)=(yu (kK n) n).1:=rfl
def rV{n:Nat}:(kK n).pL=pL n/\(kK n).lm=lm n/\(kK n).qT=qT n:=⟨rfl,rfl,rfl⟩
def yw:∀n:Nat,tu fO 335 (lH 0 kr) jG true jG (lw (l8 jU.row) kr) jG jO (uG (kK n).pL)/\tu fO 330 nn kw true kw kr kw jO (nH (kK n).lm)/\tu fO 339 (lH 0 (lH 1 kr)) l7 true l7 kr l7 jO (vH (kK n).qT)
 |0=>⟨fun _ _ _ h=>(by cases h),fun _ _ _ h=>(by cases h),fun _ _ _ h=>(by cases h)⟩
 |n+1=>by
  obtain⟨Yr,Cg,Va⟩:=yw n
  exact⟨DV (AM (kK n) n) (gdM (jL (qd (mV (uE n))) (jL (pQ (fun b a r h=>(lE n) b.1 r h)) (jL (qd (mV (lW n))) (jL (pQ (fun b a r h=>(mi n) b.1 a.1 r h)) jP)))) jQ (p:=(j7 (kB (pF n)) (j7 (kB (Dg n)) (j7 (kB (Cg)) (j7 (kB (F0 n)) lc))))) (c:=(ng (N4 (Qv (yY n))) tz))) func335 ntmps335 results335,
   DV (pz (kK n) n) (gd (jL (pQ (fun b a r h=>(mi n) b.1 a.1 r h)) jP) jQ (p:=(j7 (kB (mH n)) (j7 (kB (Va)) lc)))) func330 ntmps330 results330,
   DV (yu (kK n) n) (gd jP jQ (c:=(ng (An (Yr)) tz))) func339 ntmps339 results339⟩
def Yt:tu fO 335 (lH 0 kr) jG true jG (lw (l8 jU.row) kr) jG jO (uG (pL n)):=(yw n).1
def Vs:tu fO 330 nn kw true kw kr kw jO (nH (lm n)):=(yw n).2.1
def alO:tu fO 339 (lH 0 (lH 1 kr)) l7 true l7 kr l7 jO (vH (qT n)):=(yw n).2.2
open Go.Proofs
@[go_sem]def afI:Af:=⟨[],[],(zT (l8 jI.row)::zA::zA::zK::zA::zA::zK::nh (nh (nj (nj (zA::zA::zA::[]))))),[oT jI.kv],none,none⟩
@[reducible] def abx:kG Int:=oN fO f73 n (oB fO [.tmp 4] (mP .i64)) (cl:=nE [(135,oI (lD jI.kv) (mP .i64) (SQ n)),(136,tj (lD jI.kv) (lD jI.kv) nD (Dc n))]) (cd:=M5 [(136,rq (tj (lD jI.kv) (lD jI.kv) nD (Dc n))),(137,rq (oI (lD jI.kv) nD (DX n))),(138,rq (oI (lD jI.kv) mq (Nf n)))]) (tv:=sj [([0,1,0,1,1,1,1],afI)]) (xy:=mE []) (xF:=mE [])
@[go_sem]def aq5:wV (abx n) [0,0,0,1,0,0,1,0,1,1,1,1]=true:=jF
@[go_sem]abbrev afJ(v0:List jI)(v1:Int)(o0:jI):jJ:=⟨(.kW false 4 (mp jI.cells v0)::qA::qA::.ptr 0 0::qA::qA::.int .i64 v1::nu (nu (nN (nN (qA::qA::qA::[]))))),[.cells (jI.cells o0)],0,[]⟩
abbrev afK:=(List jI)->Int->jI->Option Int
abbrev aon(K:List Kt)(Z:afK):Prop:=∀v0 v1 o0,run (abx n) K (afJ v0 v1 o0)=Z v0 v1 o0
def Lq:LB (aon n) [0,1,0,1,1,1,1] [.tX 0,.cut [1,1,1,1,1],.at [1,1,1,1,1]]:=mB
def Hv:Nat->afK:=AU ((Lq n).1)
def aby{n:Nat}:Hv n (m+1)=(Lq n).1 (Hv n m):=rfl
@[go_sem]def aiu(m:Nat):=Dv (Lq n) (Hv n) m
def abz:SC2 (abx n) (l8 jI.row) (lD jI.kv) 50:=mB
def acv:=fu fun n=>(abz n).1
def aoo:∀n:Nat,Fk fO 73 (l8 jI.row) (lD jI.kv) (mP .i64) (acv n):=Ks fun n=>Iz (abz n) (gd (jL (lK (akm n)) (jL (nT (SK n)) jP)) (nf (wu (SK n)) (nf (mV (ID n)) (nf (mV (adF n)) jQ)))) func73 ntmps73 results73
def adM:Af:=⟨[(15,3,true)],[],(zK::nj (zA::zA::zK::nj (zA::zA::zK::zK::DU (nh (nh (nh [])))))),[oK,oK,oK,oC [zK,zK,zK,zK,zK],oC [zK,zK,zK,zK],oA kF.row],none,none⟩
def adN:Af:=⟨[],[],(zK::nj (zA::zA::zK::nh (nh (zA::zA::zT (l8 aqA)::zK::zK::zA::zA::zA::zT (l8 mc)::zK::zK::DU (nj (nj (nj (zA::[])))))))),[oK,oK,oK,oC [zK,zK,zK,zK,zK]],none,none⟩
def adO:Af:=⟨[],[],(zK::nj (zA::zA::zK::nh (nh (zA::zA::zT (l8 aqA)::zK::zK::DU (nh (zA::zA::zA::[])))))),[oK,oK,oK,oC [zK,zK,zK,zK,zK]],none,none⟩
def adP:Af:=⟨[],[],(zK::zT (l8 mc)::nj (zA::zK::nh (zA::zT (l8 mc)::zK::zK::DU (nh (nh (nj [])))))),[oK,oK,oK,oC [zK,zK,zK,zK,zK]],none,none⟩
@[reducible] def Er:kG TL:=oN fO f147 n (oB fO [.tmp 4,.tmp 5,.tmp 6] (ty3 (l8 kF.row) (mP .i64) (mP .i64))) (cl:=nE [(139,oI mq nD (Lj n)),(193,oI (mP .u8) (mP .i64) (DF n)),(195,ajE (l8 mc) (Oe n)),(199,Nj (GG n)),(200,ww (Bm n)),(201,ww (Ef n)),(202,ww (Bv n)),(203,ww (Bx n)),(204,OA (xC n))]) (tv:=sj [([0,1,0,1,1,1,1,1,1,1],adM),([0,1,1,0,0,1,1,0,0,1,0,1,1,1],adN),([0,1,0,1,1,1],adO),([0,1,0,1,1],adP)]) (xy:=mE []) (xF:=mE [])
def aop:wV (Er n) [0,1,1,0,0,1,0,0,1,0,1,1,1,1,1,1,1]=true:=jF
def aoq:awD (Er n) [0,1,1,0,0,1,0,0,1,0,1,1,1,1,1,1,1] 6 15 8 15 12 15:=⟨jF,jF,jF⟩
attribute [go_sem] aop aoq adM adN adO adP
abbrev adQ(v0:Str)(r0 r1 r2:List (Str×Bool))(v4:Str)(v5:Int)(r5:List kF)(c5:Nat):jJ:=⟨(.str (sb v0)::nN (qA::qA::.ptr 3 0::nN (qA::qA::.ptr 4 0::.lN 5 c5::DT (nu (nu (nu [])))))),[.map (mp He r0),.map (mp He r1),.map (mp He r2),.cells [.str (sb v4),.int .i64 v5,.map 0,.map 1,.map 2],.cells [.func (.func 200) [.ptr 3 0] [],.func (.func 201) [.ptr 3 0] [],.func (.func 202) [.ptr 3 0] [],.func (.func 203) [.ptr 3 0] []],.lN true 3 (mp kF.cells r5)],0,[]⟩
abbrev adR:List Kt:=[.tX 6,.cut [1,1,1,1,1,1,1,1],.at [1,1,1,1,1,1,1,1]]
abbrev adS:=Str->Tb->Tb->Tb->Str->Int->(List kF)->Option TL
abbrev alQ(K:List Kt)(Z:adS):Prop:=∀v0 r0 r1 r2 v4 v5 r5 c5,c5=r5.length->run (Er n) K (adQ v0 r0 r1 r2 v4 v5 r5 c5)=Z v0 r0 r1 r2 v4 v5 r5
abbrev adT(v0:Str)(v1:List (List Str))(v2 v3:Int)(v4:List Str)(v5 v6:Int)(r0 r1 r2:List (Str×Bool))(v10:Str):jJ:=⟨(.str (sb v0)::nN (qA::qA::.ptr 3 0::nu (nu (qA::qA::.kW false 1 (mp aaK v1)::.int .i64 v2::.int .i64 v3::qA::qA::qA::.kW false 1 (mp nY v4)::.int .i64 v5::.int .i64 v6::DT (nN (nN (nN (qA::[])))))))),[.map (mp He r0),.map (mp He r1),.map (mp He r2),.cells [.str (sb v10),.int .i64 0,.map 0,.map 1,.map 2]],0,[]⟩
abbrev adU(m3:Nat):List Kt:=[.tX 4,.tX 3,.cut [1,1,1,0,0,1,0,1,1,1],.at [1,1,1,0,0,1,0,1,1,1],.lp m3 [0,1,0,1,1,1],.tX 2,.cut [1,1,1,1],.at [1,1,1,1]]
abbrev adV:=Str->(List (List Str))->Int->Int->(List Str)->Int->Int->Tb->Tb->Tb->Str->Option TL
abbrev alR(K:List Kt)(Z:adV):Prop:=∀v0 v1 v2 v3 v4 v5 v6 r0 r1 r2 v10,run (Er n) K (adT v0 v1 v2 v3 v4 v5 v6 r0 r1 r2 v10)=Z v0 v1 v2 v3 v4 v5 v6 r0 r1 r2 v10
abbrev adW(v0:Str)(v1:List (List Str))(v2 v3:Int)(r0 r1 r2:List (Str×Bool))(v7:Str):jJ:=⟨(.str (sb v0)::nN (qA::qA::.ptr 3 0::nu (nu (qA::qA::.kW false 1 (mp aaK v1)::.int .i64 v2::.int .i64 v3::DT (nu (qA::qA::qA::[])))))),[.map (mp He r0),.map (mp He r1),.map (mp He r2),.cells [.str (sb v7),.int .i64 0,.map 0,.map 1,.map 2]],0,[]⟩
abbrev NN:=Str->(List (List Str))->Int->Int->Tb->Tb->Tb->Str->Option TL
abbrev Vb(K:List Kt)(Z:NN):Prop:=∀v0 v1 v2 v3 r0 r1 r2 v7,run (Er n) K (adW v0 v1 v2 v3 r0 r1 r2 v7)=Z v0 v1 v2 v3 r0 r1 r2 v7
abbrev adX(v0:Str)(v1 v2:List Str)(v3 v4:Int)(r0 r1 r2:List (Str×Bool))(v8:Str):jJ:=⟨(.str (sb v0)::.kW false 1 (mp nY v1)::nN (qA::.ptr 3 0::nu (qA::.kW false 1 (mp nY v2)::.int .i64 v3::.int .i64 v4::DT (nu (nu (nN [])))))),[.map (mp He r0),.map (mp He r1),.map (mp He r2),.cells [.str (sb v8),.int .i64 0,.map 0,.map 1,.map 2]],0,[]⟩
abbrev adY:=Str->(List Str)->(List Str)->Int->Int->Tb->Tb->Tb->Str->Option TL
abbrev alU(K:List Kt)(Z:adY):Prop:=∀v0 v1 v2 v3 v4 r0 r1 r2 v8,run (Er n) K (adX v0 v1 v2 v3 v4 r0 r1 r2 v8)=Z v0 v1 v2 v3 v4 r0 r1 r2 v8
attribute [go_sem] adQ adR adT adU adW adX
def NO:LB (alQ n) [0,1,0,1,1,1,1,1,1,1] adR:=mB
def B6:Nat->adS:=AU ((NO n).1)
def aiv{n:Nat}:B6 n (m+1)=(NO n).1 (B6 n m):=rfl
@[go_sem]def WE(m:Nat):=Dv (NO n) (B6 n) m
def IW:LB2 (Vb n) [0,1,0,1,1,1] [.tX 2,.cut [1,1,1,1],.at [1,1,1,1]] (alR n) [0,1,1,0,0,1,1,0,0,1,0,1,1,1] adU:=mB
def z6(X3:NN):Nat->adV:=AU ((IW n).1 X3)
def Zu{n:Nat}(X3:NN):z6 n X3 (m+1)=(IW n).1 X3 (z6 n X3 m):=rfl
def agP{m3:Nat}{X3}(h3:Vb n (.lq m3 [0,1,0,1,1,1]::[.tX 2,.cut [1,1,1,1],.at [1,1,1,1]]) X3)(m:Nat):=atW (IW n) h3 (z6 n X3) m
def Fg:LB (Vb n) [0,1,0,1,1,1] [.tX 2,.cut [1,1,1,1],.at [1,1,1,1]]:=by
 apply gf;intro m X0 ih v0 v1 v2 v3 r0 r1 r2 v7;simp (config:={maxSteps:=100000000}) only[go_sem,fT,fU,fP,fQ,fV,fW,fY,fZ,ga,fR,fX,gb,f147,fS,mixed,WE n,agP n ih,ih];exact rfl
def wk:Nat->NN:=AU ((Fg n).1)
def Pd{n:Nat}:wk n (m+1)=(Fg n).1 (wk n m):=rfl
@[go_sem]def agQ(m:Nat):=Dv (Fg n) (wk n) m
def IX:LB (alU n) [0,1,0,1,1] [.tX 0,.cut [1,1,1],.at [1,1,1]]:=mB
def IY:Nat->adY:=AU ((IX n).1)
def Zv{n:Nat}:IY n (m+1)=(IX n).1 (IY n m):=rfl
@[go_sem]def agR(m:Nat):=Dv (IX n) (IY n) m
def Yu:SC2 (Er n) mq (l8 mc) 128:=mB
def Rd:=fu fun n=>(Yu n).1
def alV:∀n:Nat,Fk fO 147 mq (l8 mc) (ty3 (l8 kF.row) (mP .i64) (mP .i64)) (Rd n):=Ks fun n=>Iz (Yu n) (gd (jL (lK (Zt n)) (jL (lK (Gj n)) (jL (afb (aa4 n)) (jL (mS (SL n)) (jL (mS (VS n)) (jL (mS (ZQ n)) (jL (mS (Wn n)) (jL (mS (Ww n)) (jL (mS (ZT n)) jP))))))))) jQ) func147 ntmps147 results147
@[go_sem]def GP:Af:=⟨[],[],(zK::zA::zA::zK::nj (nj (nj (zA::zA::zA::[])))),[oT jH.kv,oA mc],none,none⟩
@[go_sem]def F1:Af:=⟨[],[],(zK::zA::zA::zL mc::nj (nj (nj (zA::zA::zA::[])))),[oT jH.kv],(some 3),none⟩
@[go_sem]abbrev w9(F:jH->Option TJ)(b:T6)(a:Unit):=F b.1.1
@[go_sem]def HU(F:jH->Option TJ):=xd true [.arg 0 []] jG (lH 0 kr) jG (lw (l8 mc) kr) jG jO (w9 F)
@[reducible] def xa:kG TJ:=oN fO f352 n (qE fO [.tmp 2] [] [0] 1 jG (lw (l8 mc) kr)) (cl:=nE [(88,Bh [0] (wh (Am jH.kv) uA) (RD 0 LZ) (wh (Am jH.kv) uA) (Qw mq Jl) (fun(b:Te) a=>(kL n) b.1)),(154,Dx (rq (oI (Ch jH.kv) nD (sD n))))]) (tv:=sj [([0,0,1,1],F1),([0,0,1,1],GP)]) (pP:=qF [] [0] 1 jG jO) (cp:=Ao [(82,lj (k8 n)),(149,nW (pU n))]) (xb:=mE [82,149])
@[go_sem]abbrev GQ(o0:jH)(r1:List Str)(c1:Nat):jJ:=⟨(.ptr 0 0::qA::qA::.lN 1 c1::nN (nN (nN (qA::qA::qA::[])))),[.cells (jH.cells o0),.lN true 1 (mp nY r1)],1,[]⟩
abbrev GR:=jH->(List Str)->Option TJ
abbrev Re(K:List Kt)(Z:GR):Prop:=∀o0 r1 c1,c1=r1.length->run (xa n) K (GQ o0 r1 c1)=Z o0 r1
def tK:LB (Re n) [0,0,1,1] [.tX 0,.cut [1,1,1],.at [1,1,1]]:=by
 apply gf;intro m X0 ih o0 r1 c1 ec1;subst ec1;simp (config:={maxSteps:=100000000}) only[go_sem,fT,fU,fP,fQ,fV,fW,fY,fZ,ga,fR,fX,gb,f352,fS,mixed,ih];exact rfl
def wH:Nat->GR:=AU ((tK n).1)
def E0{n:Nat}:wH n (m+1)=(tK n).1 (wH n m):=rfl
def DJ(m:Nat):=Dv (tK n) (wH n) m
def zQ:{B:Nat->(List Str)->jH->Option TJ //∀(m:Nat)(v0:List Str)(o0:jH),run (xa n) [.at [0,0,0,1,1],.lp m [0,0,1,1],.tX 0,.cut [1,1,1],.at [1,1,1]] ⟨[.ptr 0 0,qA,qA,.kW true 1 (mp nY v0),qA,qA,qA,qA,qA,qA,qA,qA,qA,qA,qA,qA,qA,qA,qA],[.cells (jH.cells o0)],1,[]⟩=B m v0 o0}:=by
 apply gf;intro m v0 o0;simp (config:={maxSteps:=100000000}) only[go_sem,fT,fU,fP,fQ,fV,fW,fY,fZ,ga,fR,fX,gb,f352,fS,mixed,DJ n];exact rfl
def Az:Nat->(List Str)->jH->Option TJ
 |0,_,_=>none
 |m+1,v0,o0=>(zQ n).1 m v0 o0
def OB:∀(m:Nat),(∀(v0:List Str)(o0:jH),run (xa n) [.lq m [0,0,1,1],.tX 0,.cut [1,1,1],.at [1,1,1]] ⟨[.ptr 0 0,qA,qA,.kW true 1 (mp nY v0),qA,qA,qA,qA,qA,qA,qA,qA,qA,qA,qA,qA,qA,qA,qA],[.cells (jH.cells o0)],1,[]⟩=Az n m v0 o0)
 |0=>by intros;exact NY
 |m+1=>by
  intro v0 o0;rw[Gh];exact(zQ n).2 m v0 o0
def Ba:SX (xa n) (lH 0 kr) jG 19 w9:=by
 apply gf
 repeat (first|refine Prod.forall.2 ?_|intro)
 simp (config:={maxSteps:=100000000}) only[go_sem,fT,fU,fP,fQ,fV,fW,fY,fZ,ga,fR,fX,gb,f352,fS,mixed,DJ n,OB n];exact rfl
def yx:=fu fun n=>(Ba n).1
def Rf:∀n:Nat,tu fO 352 (lH 0 kr) jG true jG (lw (l8 mc) kr) jG jO (w9 (yx n)):=XK fun n=>DV (Ba n) (gd (jL (pQ (fun b a r h=>(lE n) b.1 r h)) (jL (qd (mV (zI n))) jP)) jQ (p:=(j7 (kB (mH n)) (j7 (kB (ur n)) lc)))) func352 ntmps352 results352
@[go_sem]def SV:Af:=⟨[],[],(zA::zK::nh (nh (nj (nj (zA::zA::zA::zT (l8 mc)::zK::zK::nh (nh (nj (nj (zA::zA::[]))))))))),[oT jI.kv],none,none⟩
@[go_sem]def SW:Af:=⟨[],[],(zA::zK::zA::zK::nj (nj (nj (zA::zA::zA::zT (l8 mc)::zK::zK::DU (nj []))))),[oT jI.kv],none,none⟩
@[reducible] def Nl:kG Int:=oN fO f76 n (oB fO [.tmp 2] (mP .i64)) (cl:=nE [(78,oI (lD jI.kv) nD (z1 n)),(139,oI mq nD (Lj n)),(140,oI (lD jI.kv) nD (xU n)),(141,oI mq nD (Wd n))]) (tv:=sj [([0,1,0,1,1,1,1,1],SV),([0,1,0,1,1,1],SW)])
@[go_sem]abbrev SY(v0:List Str)(v1 v2:Int)(o0:jI):jJ:=⟨(qA::.ptr 0 0::nu (nu (nN (nN (qA::qA::qA::.kW false 1 (mp nY v0)::.int .i64 v1::.int .i64 v2::nu (nu (nN (nN (qA::qA::[]))))))))),[.cells (jI.cells o0)],0,[]⟩
abbrev SZ:=(List Str)->Int->Int->jI->Option Int
abbrev afL(K:List Kt)(Z:SZ):Prop:=∀v0 v1 v2 o0,run (Nl n) K (SY v0 v1 v2 o0)=Z v0 v1 v2 o0
@[go_sem]abbrev S6(v0:Int)(v1:List Str)(v2 v3:Int)(o0:jI):jJ:=⟨(qA::.ptr 0 0::qA::.int .i64 v0::nN (nN (nN (qA::qA::qA::.kW false 1 (mp nY v1)::.int .i64 v2::.int .i64 v3::DT (nN []))))),[.cells (jI.cells o0)],0,[]⟩
abbrev S7:=Int->(List Str)->Int->Int->jI->Option Int
abbrev afM(K:List Kt)(Z:S7):Prop:=∀v0 v1 v2 v3 o0,run (Nl n) K (S6 v0 v1 v2 v3 o0)=Z v0 v1 v2 v3 o0
def BA:LB (afL n) [0,1,0,1,1,1,1,1] [.tX 2,.cut [1,1,1,1,1,1],.at [1,1,1,1,1,1]]:=mB
def yy:Nat->SZ:=AU ((BA n).1)
def PL{n:Nat}:yy n (m+1)=(BA n).1 (yy n m):=rfl
@[go_sem]def abA(m:Nat):=Dv (BA n) (yy n) m
def BB:LB (afM n) [0,1,0,1,1,1] [.tX 0,.cut [1,1,1,1],.at [1,1,1,1]]:=mB
def BC:Nat->S7:=AU ((BB n).1)
def PM{n:Nat}:BC n (m+1)=(BB n).1 (BC n m):=rfl
@[go_sem]def abB(m:Nat):=Dv (BB n) (BC n) m
def Nn:RM (Nl n) (lD jI.kv) 90:=mB
def Lr:=fu fun n=>(Nn n).1
def afN:∀n:Nat,Ap fO 76 (lD jI.kv) (mP .i64) (Lr n):=BO fun n=>Bk (Nn n) (gd (jL (lK (CW n)) (jL (lK (Zt n)) (jL (lK (Bn n)) (jL (lK (afC n)) jP)))) jQ) func76 ntmps76 results76
@[reducible] def Qb:kG Bool:=oN fO f168 n (oB fO [.tmp 4] nD) (cl:=nE [(12,tj mq mq nD (strings_Contains n)),(126,tj (l8 mc) mq nD (yH n))])
def F2:SC2 (Qb n) (l8 mc) mq 13:=mB
def Bb:=fu fun n=>(F2 n).1
def E3:∀n:Nat,Fk fO 168 (l8 mc) mq nD (Bb n):=Ks fun n=>Iz (F2 n) (gd (jL (nT (yQ n)) (jL (nT (Cb n)) jP)) jQ) func168 ntmps168 results168
open Go.Proofs
@[go_sem]def abC:Af:=⟨[],[],(zT (l8 jI.row)::zA::zA::zK::nj (nj (nj (zA::zA::zA::[])))),[],none,none⟩
@[reducible] def Vc:kG Bool:=oN fO f29 n (oB fO [.tmp 2] nD) (cd:=M5 [(73,rq (tj (l8 jI.row) (lD jI.kv) (mP .i64) (acv n)))]) (tv:=sj [([0,1,0,1],abC)]) (xy:=mE []) (xF:=mE [])
@[go_sem]def alW:wV (Vc n) [0,0,0,1,0,0,1,0,1]=true:=jF
@[go_sem]abbrev abD(v0:List jI)(v1:Int):jJ:=⟨(.kW false 4 (mp jI.cells v0)::qA::qA::.int .i64 v1::nN (nN (nN (qA::qA::qA::[])))),[],0,[]⟩
abbrev abE:=(List jI)->Int->Option Bool
abbrev akn(K:List Kt)(Z:abE):Prop:=∀v0 v1,run (Vc n) K (abD v0 v1)=Z v0 v1
def GS:LB (akn n) [0,1,0,1] [.tX 0,.cut [1,1],.at [1,1]]:=mB
def GU:Nat->abE:=AU ((GS n).1)
def WF{n:Nat}:GU n (m+1)=(GS n).1 (GU n m):=rfl
@[go_sem]def afO(m:Nat):=Dv (GS n) (GU n) m
def Vd:RM (Vc n) (l8 jI.row) 19:=mB
def S8:=fu fun n=>(Vd n).1
def ako:∀n:Nat,Ap fO 29 (l8 jI.row) nD (S8 n):=BO fun n=>Bk (Vd n) (gd jP (nf (wu (aoo n)) jQ)) func29 ntmps29 results29
@[go_sem]def Ct:=(lw mq (lw (mP .i64) (lw (mP .i64) (lw (l8 mc) kr))))
@[go_sem]abbrev Es(F:Str->Int->Int->(List Str)->Option TM)(b:Unit)(a:(Str×(Int×(Int×To)))):=F a.1 a.2.1 a.2.2.1 a.2.2.2.1
@[go_sem]def Rh(F:Str->Int->Int->(List Str)->Option TM):=xd true [] Du Ct Du (lw (lD jX.kv) kr) Du jO (Es F)
@[reducible] def aey:kG TM:=oN fO f81 n (qE fO [.cell 8 157] [] [] 0 Du (lw (lD jX.kv) kr)) (cl:=nE [(147,tj mq (l8 mc) (ty3 (l8 kF.row) (mP .i64) (mP .i64)) (Rd n))]) (pP:=qF [] [] 0 Du jO)
def Jv:SX (aey n) Ct Du 33 Es:=AZ
def Hw:=fu fun n=>(Jv n).1
def ac7:∀n:Nat,tu fO 81 Ct Du true Du (lw (lD jX.kv) kr) Du jO (Es (Hw n)):=XK fun n=>DV (Jv n) (gd (jL (nT (alV n)) jP) jQ) func81 ntmps81 results81
@[go_sem]abbrev sL(F:jH->Option TH)(b:T6)(a:Unit):=F b.1.1
@[go_sem]def FA(F:jH->Option TH):=xd true [.arg 0 []] jG (lH 0 kr) jG (lw (lD jN.kv) kr) jG jO (sL F)
@[reducible] def ZX:kG TH:=oN fO f332 n (qE fO [.cell 2 112] [] [0] 1 jG (lw (lD jN.kv) kr)) (cl:=nE [(153,Bh [0] (wh (Am jH.kv) uA) (RD 0 (asT mq LZ)) (wh (Am jH.kv) uA) (Qw nD Jl) (fun(b:Te) a=>(lF n) b.1 a.1))]) (pP:=qF [] [0] 1 jG jO) (cp:=Ao [(335,Mz (pL n))]) (xb:=mE [335])
def FB:SX (ZX n) (lH 0 kr) jG 11 sL:=AZ
def za:=fu fun n=>(FB n).1
def Ls:∀n:Nat,tu fO 332 (lH 0 kr) jG true jG (lw (lD jN.kv) kr) jG jO (sL (za n)):=XK fun n=>DV (FB n) (gd (jL (pQ (fun b a r h=>(mi n) b.1 a.1 r h)) jP) jQ (p:=(j7 (kB (Yt n)) lc))) func332 ntmps332 results332
def MA:Af:=⟨[],[],(zK::DU (nj (nj (nj (zA::zA::zA::zT (l8 mc)::zK::zK::nh (zA::zA::[])))))),[oC [zK,zK,zK,zK],oM (lD jI.kv),oM (lD jI.kv),oK],none,none⟩
def MB:Af:=⟨[],[],(zK::zA::zA::zK::zA::zA::zK::zK::zT (l8 mc)::nh (nh (nj (nj (nj (zA::zA::zA::zT (l8 mc)::zK::zK::nh (nh (nj (nj (zA::zA::[])))))))))),[oC [zK,zK,zK,zK],oM (lD jI.kv),oM (lD jI.kv),oK,oT jI.kv],none,(some (6,2))⟩
def MC:Af:=⟨[],[],(zK::zA::zA::zK::zA::zA::zK::zK::zT (l8 mc)::nh (nh (nj (nj (nj (zA::zA::zA::zT (l8 mc)::zK::zK::nh (nh (nj (nj (zA::zA::[])))))))))),[oC [zK,zK,zK,zK],oM (lD jI.kv),oM (lD jI.kv),oK,oT jI.kv],none,(some (6,1))⟩
@[go_sem]abbrev BD(F:jI->Int->Ta->Ta->Tb->Option TU)(b:T7)(a:(jI×Unit)):=F a.1 b.1.1 b.2.1 b.2.2.1 b.2.2.2.1
@[go_sem]def GV(F:jI->Int->Ta->Ta->Tb->Option TU):=Kr [.arg 0 [],.zi 0 0 [],.zi 0 1 [],.zi 0 2 []] kS (lH 0 (lw (lD jI.kv) kr)) kS (lw (mP .i64) kr) (BD F)
@[reducible] def BE:kG TU:=oN fO f36 n (xT fO [.tmp 4] [] [0,1,2,3] 4 kS (lw (mP .i64) kr)) (cl:=nE [(76,oI (lD jI.kv) (mP .i64) (Lr n)),(78,oI (lD jI.kv) nD (z1 n)),(79,tj (l8 mc) mq nD (nZ n))]) (tv:=sj [([0,1,0,1,1,1,1,1,1,1,1],MA),([0,1,0,1,1,1,1,1,1],MB),([0,1,0,1,1,1,1,1,1],MC)]) (cp:=Ao [(77,K6 (Gy n))]) (xb:=mE [77])
attribute [go_sem] MA MB MC
abbrev MD(v0:List Str)(v1 v2 v3:Int)(r1 r2:List (Str×jI))(r3:List (Str×Bool)):jJ:=⟨(.ptr 0 0::DT (nN (nN (nN (qA::qA::qA::.kW false 1 (mp nY v0)::.int .i64 v1::.int .i64 v2::nu (qA::qA::[])))))),[.cells [.map 1,.map 2,.map 3,.int .i64 v3],.map (mp (M7 (lD jI.kv)) r1),.map (mp (M7 (lD jI.kv)) r2),.map (mp He r3)],4,[]⟩
abbrev ME:List Kt:=[.tX 2,.cut [1,1,1,1,1,1,1,1,1],.at [1,1,1,1,1,1,1,1,1]]
abbrev MF:=(List Str)->Int->Int->Int->Ta->Ta->Tb->Option TU
abbrev ZY(K:List Kt)(Z:MF):Prop:=∀v0 v1 v2 v3 r1 r2 r3,run (BE n) K (MD v0 v1 v2 v3 r1 r2 r3)=Z v0 v1 v2 v3 r1 r2 r3
abbrev MG(v0:Str)(v1 v2:List Str)(v3 v4 v5:Int)(r1 r2:List (Str×jI))(r3:List (Str×Bool))(o4:jI):jJ:=⟨(.ptr 0 0::qA::qA::.ptr 4 0::qA::qA::.map 2::.str (sb v0)::.kW false 1 (mp nY v1)::nu (nu (nN (nN (nN (qA::qA::qA::.kW false 1 (mp nY v2)::.int .i64 v3::.int .i64 v4::nu (nu (nN (nN (qA::qA::[])))))))))),[.cells [.map 1,.map 2,.map 3,.int .i64 v5],.map (mp (M7 (lD jI.kv)) r1),.map (mp (M7 (lD jI.kv)) r2),.map (mp He r3),.cells (jI.cells o4)],4,[]⟩
abbrev FC:List Kt:=[.tX 0,.cut [1,1,1,1,1,1,1],.at [1,1,1,1,1,1,1]]
abbrev AN:=Str->(List Str)->(List Str)->Int->Int->Int->Ta->Ta->Tb->jI->Option TU
abbrev ZZ(K:List Kt)(Z:AN):Prop:=∀v0 v1 v2 v3 v4 v5 r1 r2 r3 o4,run (BE n) K (MG v0 v1 v2 v3 v4 v5 r1 r2 r3 o4)=Z v0 v1 v2 v3 v4 v5 r1 r2 r3 o4
abbrev MH(v0:Str)(v1 v2:List Str)(v3 v4 v5:Int)(r1 r2:List (Str×jI))(r3:List (Str×Bool))(o4:jI):jJ:=⟨(.ptr 0 0::qA::qA::.ptr 4 0::qA::qA::.map 1::.str (sb v0)::.kW false 1 (mp nY v1)::nu (nu (nN (nN (nN (qA::qA::qA::.kW false 1 (mp nY v2)::.int .i64 v3::.int .i64 v4::nu (nu (nN (nN (qA::qA::[])))))))))),[.cells [.map 1,.map 2,.map 3,.int .i64 v5],.map (mp (M7 (lD jI.kv)) r1),.map (mp (M7 (lD jI.kv)) r2),.map (mp He r3),.cells (jI.cells o4)],4,[]⟩
abbrev Z0(K:List Kt)(Z:AN):Prop:=∀v0 v1 v2 v3 v4 v5 r1 r2 r3 o4,run (BE n) K (MH v0 v1 v2 v3 v4 v5 r1 r2 r3 o4)=Z v0 v1 v2 v3 v4 v5 r1 r2 r3 o4
attribute [go_sem] MD ME MG FC MH
def xj:LB (ZY n) [0,1,0,1,1,1,1,1,1,1,1] ME:=EH
def uH:Nat->MF:=AU ((xj n).1)
def aI9{n:Nat}:uH n (m+1)=(xj n).1 (uH n m):=rfl
@[go_sem]def Ve(m:Nat):=Dv (xj n) (uH n) m
def xk:LB (ZZ n) [0,1,0,1,1,1,1,1,1] FC:=EH
def xl:Nat->AN:=AU ((xk n).1)
def aJa{n:Nat}:xl n (m+1)=(xk n).1 (xl n m):=rfl
@[go_sem]def Vf(m:Nat):=Dv (xk n) (xl n) m
def xm:LB (Z0 n) [0,1,0,1,1,1,1,1,1] FC:=EH
def xn:Nat->AN:=AU ((xm n).1)
def Ka{n:Nat}:xn n (m+1)=(xm n).1 (xn n m):=rfl
@[go_sem]def Vg(m:Nat):=Dv (xm n) (xn n) m
def GW:SX (BE n) (lH 0 (lw (lD jI.kv) kr)) kS 101 BD:=AZ
def AA:=fu fun n=>(GW n).1
def MI:∀n:Nat,Bl fO 36 (lH 0 (lw (lD jI.kv) kr)) kS kS (lw (mP .i64) kr) (BD (AA n)):=VN fun n=>Jn (GW n) (gd (jL (lK (afN n)) (jL (lK (CW n)) (jL (nT (HK n)) jP))) jQ (p:=(j7 (kB (Wc n)) lc))) func36 ntmps36 results36
@[go_sem]def E4:Af:=⟨[],[],(zT (l8 mc)::nj (zK::nj (zT (l8 jN.row)::zK::zK::nj (nj (zA::zA::zA::zT (l8 jU.row)::zK::zK::nh (nj (nj []))))))),[],none,none⟩
@[go_sem]def E5:Af:=⟨[],[],(zT (l8 mc)::nj (zK::nj (zT (l8 jN.row)::zK::zK::nh (nh (nj (zA::zA::[])))))),[],none,none⟩
@[reducible] def zR:kG Int:=oN fO f125 n (oB fO [.tmp 4] (mP .i64)) (cl:=nE [(168,tj (l8 mc) mq nD (Bb n))]) (tv:=sj [([0,1,1,1,0,0,1,1,0,0,1,0,1,1],E4),([0,1,0,1,1],E5)])
abbrev E6(v0:List Str)(v1:Int)(v2:List jN)(v3 v4:Int)(v5:List jU)(v6 v7:Int):jJ:=⟨(.kW false 1 (mp nY v0)::nN (.int .i64 v1::nN (.kW false 2 (mp jN.cells v2)::.int .i64 v3::.int .i64 v4::nN (nN (qA::qA::qA::.kW false 2 (mp jU.cells v5)::.int .i64 v6::.int .i64 v7::nu (nN (nN []))))))),[],0,[]⟩
abbrev E7(m2:Nat):List Kt:=[.tX 2,.tX 1,.cut [1,1,1,0,0,1,0,1,1],.at [1,1,1,0,0,1,0,1,1],.lp m2 [0,1,0,1,1],.tX 0,.cut [1,1,1],.at [1,1,1]]
abbrev E8:=(List Str)->Int->Tg->Int->Int->(List jU)->Int->Int->Option Int
abbrev Pe(K:List Kt)(Z:E8):Prop:=∀v0 v1 v2 v3 v4 v5 v6 v7,run (zR n) K (E6 v0 v1 v2 v3 v4 v5 v6 v7)=Z v0 v1 v2 v3 v4 v5 v6 v7
abbrev E9(v0:List Str)(v1:Int)(v2:List jN)(v3 v4:Int):jJ:=⟨(.kW false 1 (mp nY v0)::nN (.int .i64 v1::nN (.kW false 2 (mp jN.cells v2)::.int .i64 v3::.int .i64 v4::nu (nu (nN (qA::qA::[])))))),[],0,[]⟩
abbrev uY:=(List Str)->Int->Tg->Int->Int->Option Int
abbrev yI(K:List Kt)(Z:uY):Prop:=∀v0 v1 v2 v3 v4,run (zR n) K (E9 v0 v1 v2 v3 v4)=Z v0 v1 v2 v3 v4
attribute [go_sem] E6 E7 E9
def yJ:LB2 (yI n) [0,1,0,1,1] [.tX 0,.cut [1,1,1],.at [1,1,1]] (Pe n) [0,1,1,1,0,0,1,1,0,0,1,0,1,1] E7:=mB
def yK(X2:uY):Nat->E8:=AU ((yJ n).1 X2)
def agS{n:Nat}(X2:uY):yK n X2 (m+1)=(yJ n).1 X2 (yK n X2 m):=rfl
def L4{X2}(h2:yI n (.lq m2 [0,1,0,1,1]::[.tX 0,.cut [1,1,1],.at [1,1,1]]) X2)(m:Nat):=atW (yJ n) h2 (yK n X2) m
def yL:LB (yI n) [0,1,0,1,1] [.tX 0,.cut [1,1,1],.at [1,1,1]]:=by
 apply gf;intro m X0 ih v0 v1 v2 v3 v4;simp (config:={maxSteps:=100000000}) only[go_sem,fT,fU,fP,fQ,fV,fW,fY,fZ,ga,fR,fX,gb,f125,fS,mixed,L4 n ih,ih];exact rfl
def yM:Nat->uY:=AU ((yL n).1)
def agT{n:Nat}:yM n (m+1)=(yL n).1 (yM n m):=rfl
@[go_sem]def L5(m:Nat):=Dv (yL n) (yM n) m
def F3:SC2 (zR n) (l8 mc) (l8 jN.row) 51:=mB
def HV:=fu fun n=>(F3 n).1
def Pf:∀n:Nat,Fk fO 125 (l8 mc) (l8 jN.row) (mP .i64) (HV n):=Ks fun n=>Iz (F3 n) (gd (jL (nT (E3 n)) jP) jQ) func125 ntmps125 results125
@[reducible] def OC:kG Bool:=oN fO f128 n (oB fO [.tmp 4] nD) (cl:=nE [(168,tj (l8 mc) mq nD (Bb n))])
def DK:SC2 (OC n) (l8 mc) mq 12:=mB
def F4:=fu fun n=>(DK n).1
def No:∀n:Nat,Fk fO 128 (l8 mc) mq nD (F4 n):=Ks fun n=>Iz (DK n) (gd (jL (nT (E3 n)) jP) jQ) func128 ntmps128 results128
open Go.Proofs
structure lY where
 mU:(List Str)->Syntax->Option Int
 lB:(List Syntax)->(List Str)->Option Int
open Go.Proofs
@[reducible] def L6(X:lY)(n:Nat):kG Int:=oN fO f70 n (oB fO [.tmp 4] (mP .i64)) (cl:=nE [(124,oI (lD Syntax.kv) nD (abj n)),(125,tj (l8 mc) (l8 jN.row) (mP .i64) (HV n)),(126,tj (l8 mc) mq nD (yH n)),(127,oI (mP .i64) nD (NL n)),(128,tj (l8 mc) mq nD (F4 n)),(129,Uq (tj (l8 Syntax.row) (ajZ 70 (l8 mc)) (mP .i64) X.lB) (tj (l8 Syntax.row) (ajZ 130 (l8 mc)) (mP .i64) (yn n)))])
def w6(X:lY)(n:Nat):SC2 (L6 X n) (l8 mc) (lD Syntax.kv) 62:=mB
open Go.Proofs
@[go_sem]def vJ:Af:=⟨[],[],(zA::zT (ajZ 70 (l8 mc))::nj (zA::zA::zT (l8 Syntax.row)::zK::zK::nj (nj (zA::zA::[])))),[],none,none⟩
@[reducible] def vY(X:lY)(n:Nat):kG Int:=oN fO f129 n (oB fO [.tmp 4] (mP .i64)) (cl:=nE [(70,tj (l8 mc) (lD Syntax.kv) (mP .i64) X.mU)]) (tv:=sj [([0,1,0,1],vJ)])
@[go_sem]abbrev vK(v0:List Str)(v1:List Syntax)(v2 v3:Int):jJ:=⟨(qA::.func (.func 70) [.kW false 1 (mp nY v0)] []::nN (qA::qA::.kW false 8 (mp Syntax.cells v1)::.int .i64 v2::.int .i64 v3::nN (nN (qA::qA::[])))),[],0,[]⟩
abbrev Dj(X:lY)(n:Nat)(K:List Kt)(Z:qf):Prop:=∀v0 v1 v2 v3,run (vY X n) K (vK v0 v1 v2 v3)=Z v0 v1 v2 v3
def rj(X:lY)(n:Nat):LB (Dj X n) [0,1,0,1] [.tX 0,.cut [1,1],.at [1,1]]:=mB
def rk(X:lY)(n:Nat):Nat->qf:=AU ((rj X n).1)
def Vh(X:lY){n:Nat}:rk X n (m+1)=(rj X n).1 (rk X n m):=rfl
@[go_sem]def BF(X:lY)(n:Nat)(m:Nat):=Dv (rj X n) (rk X n) m
def rF(X:lY)(n:Nat):SC2 (vY X n) (l8 Syntax.row) (ajZ 70 (l8 mc)) 21:=mB
open Go.Proofs
def k6:Nat->lY
 |0=>⟨Fu.z,Fu.z⟩
 |n+1=>⟨(w6 (k6 n) n).1,(rF (k6 n) n).1⟩
def mU:(List Str)->Syntax->Option Int:=(k6 n).mU
def af4{n:Nat}:mU (n+1)=(w6 (k6 n) n).1:=rfl
def lB:(List Syntax)->(List Str)->Option Int:=(k6 n).lB
def Xi{n:Nat}:lB (n+1)=(rF (k6 n) n).1:=rfl
def afP{n:Nat}:(k6 n).mU=mU n/\(k6 n).lB=lB n:=⟨rfl,rfl⟩
def vV:∀n:Nat,Fk fO 70 (l8 mc) (lD Syntax.kv) (mP .i64) (k6 n).mU/\Fk fO 129 (l8 Syntax.row) (ajZ 70 (l8 mc)) (mP .i64) (k6 n).lB
 |0=>⟨fun _ _ _ h=>(by cases h),fun _ _ _ h=>(by cases h)⟩
 |n+1=>by
  obtain⟨Lt,Dk⟩:=vV n
  exact⟨Iz (w6 (k6 n) n) (gd (jL (lK (afF n)) (jL (nT (Pf n)) (jL (nT (Cb n)) (jL (lK (Nb n)) (jL (nT (No n)) (jL (acq (nT (Dk)) (nT (Fw n))) jP)))))) jQ) func70 ntmps70 results70,
   Iz (rF (k6 n) n) (gd (jL (nT (Lt)) jP) jQ) func129 ntmps129 results129⟩
def Lu:Fk fO 70 (l8 mc) (lD Syntax.kv) (mP .i64) (mU n):=(vV n).1
def WG:Fk fO 129 (l8 Syntax.row) (ajZ 70 (l8 mc)) (mP .i64) (lB n):=(vV n).2
end Go.Abs
end
