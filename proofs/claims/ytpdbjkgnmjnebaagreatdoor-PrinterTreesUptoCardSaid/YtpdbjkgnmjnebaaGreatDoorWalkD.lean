/- A part of the proof: what the functions compute. -/
import Derived.Test.YtpdbjkgnmjnebaaGreatDoorDataA
import Derived.Test.YtpdbjkgnmjnebaaGreatDoorWalkA
import Derived.Test.YtpdbjkgnmjnebaaGreatDoorWalkB
import Derived.Test.YtpdbjkgnmjnebaaGreatDoorWalkC
import Derived.Test.YtpdbjkgnmjnebaaGreatDoorExtA
set_option linter.all false
open Go.Proofs.Tryz renaming prog→gJ
open Nat renaming reduceLeDiff→gK,reduceEqDiff→gL,reduceAdd→gO,reduceSub→gP,reduceBEq→gQ,reduceMul→gR,reduceLT→gT
open Option renaming getD_some→gM
open Int renaming reduceToNat→gN,reduceBEq→gS,reduceLE→gU,reduceLT→gV,reduceEq→gW
open Go.Abs.AV renaming any→qA
noncomputable section
open Go.Proofs.Tryz
namespace Go.Abs
variable {m:Nat}
variable (n:Nat)
open Go.Proofs
attribute [go_sem] f36 f81 f332 f125 f128 f18 f25 f215 f259 f35 f43 f331 f70 f129 f328 f159 f169 f9 f232 f330 f212 f95 f107 f69 f188 f325 f71 f132 f133 f134 f189 f233 f44 f86 f87 f92 f156 f211 f250 f282 f304 f319 f320 f329 f334 f338 f347 f348 f89
set_option maxRecDepth 100000
set_option maxHeartbeats 4000000
def P1:sN:=⟨[],[],(zK::ux (l8 (l8 (l8 (zA::zA::zA::zT (lz kW)::zK::zK::lH (zA::zA::[])))))),[oC [zK,zK,zK,zK],oM (kT jS.kr),oM (kT jS.kr),oK],none,none⟩
def P2:sN:=⟨[],[],(zK::zA::zA::zK::zA::zA::zK::zK::zT (lz kW)::lH (lH (l8 (l8 (l8 (zA::zA::zA::zT (lz kW)::zK::zK::lH (lH (l8 (l8 (zA::zA::[])))))))))),[oC [zK,zK,zK,zK],oM (kT jS.kr),oM (kT jS.kr),oK,oT jS.kr],none,(some (6,2))⟩
def P3:sN:=⟨[],[],(zK::zA::zA::zK::zA::zA::zK::zK::zT (lz kW)::lH (lH (l8 (l8 (l8 (zA::zA::zA::zT (lz kW)::zK::zK::lH (lH (l8 (l8 (zA::zA::[])))))))))),[oC [zK,zK,zK,zK],oM (kT jS.kr),oM (kT jS.kr),oK,oT jS.kr],none,(some (6,1))⟩
@[go_sem]abbrev BS(F:jS->Int->Tb->Tb->Ta->Option T13)(b:T7)(a:(jS×Unit)):=F a.1 b.1.1 b.2.1 b.2.2.1 b.2.2.2.1
@[go_sem]def Iw(F:jS->Int->Tb->Tb->Ta->Option T13):=Hp [.arg 0 [],.vC 0 0 [],.vC 0 1 [],.vC 0 2 []] lN (l5 0 (l1 (kT jS.kr) kM)) lN (l1 (li .i64) kM) (BS F)
@[reducible] def BT:kL T13:=mU gJ f36 n (xg gJ [.tmp 4] [] [0,1,2,3] 4 lN (l1 (li .i64) kM)) (cl:=lY [(76,nh (kT jS.kr) (li .i64) (akB n)),(78,nh (kT jS.kr) mh (FS n)),(79,nr (lz kW) lW mh (oH n))]) (p4:=nR [([0,1,0,1,1,1,1,1,1,1,1],P1),([0,1,0,1,1,1,1,1,1],P2),([0,1,0,1,1,1,1,1,1],P3)]) (cp:=AC [(77,NM (R0 n))]) (wD:=lS [77])
attribute [go_sem] P1 P2 P3
abbrev P4(v0:List kp)(v1 v2 v3:Int)(r1 r2:List (kp×jS))(r3:List (kp×Bool)):jT:=⟨(.ptr 0 0::uw (mc (mc (mc (qA::qA::qA::.kJ false 1 (mp kS v0)::.int .i64 v1::.int .i64 v2::lM (qA::qA::[])))))),[.cells [.map 1,.map 2,.map 3,.int .i64 v3],.map (mp (Qy (kT jS.kr)) r1),.map (mp (Qy (kT jS.kr)) r2),.map (mp Hq r3)],4,[]⟩
abbrev P5:List Kt:=[.pF 2,.cut [1,1,1,1,1,1,1,1,1],.at [1,1,1,1,1,1,1,1,1]]
abbrev P6:=(List kp)->Int->Int->Int->Tb->Tb->Ta->Option T13
abbrev ah7(K:List Kt)(Z:P6):Prop:=∀v0 v1 v2 v3 r1 r2 r3,run (BT n) K (P4 v0 v1 v2 v3 r1 r2 r3)=Z v0 v1 v2 v3 r1 r2 r3
abbrev P7(v0:kp)(v1 v2:List kp)(v3 v4 v5:Int)(r1 r2:List (kp×jS))(r3:List (kp×Bool))(o4:jS):jT:=⟨(.ptr 0 0::qA::qA::.ptr 4 0::qA::qA::.map 2::.str (sb v0)::.kJ false 1 (mp kS v1)::lM (lM (mc (mc (mc (qA::qA::qA::.kJ false 1 (mp kS v2)::.int .i64 v3::.int .i64 v4::lM (lM (mc (mc (qA::qA::[])))))))))),[.cells [.map 1,.map 2,.map 3,.int .i64 v5],.map (mp (Qy (kT jS.kr)) r1),.map (mp (Qy (kT jS.kr)) r2),.map (mp Hq r3),.cells (jS.cells o4)],4,[]⟩
abbrev Gj:List Kt:=[.pF 0,.cut [1,1,1,1,1,1,1],.at [1,1,1,1,1,1,1]]
abbrev Bd:=kp->(List kp)->(List kp)->Int->Int->Int->Tb->Tb->Ta->jS->Option T13
abbrev ah8(K:List Kt)(Z:Bd):Prop:=∀v0 v1 v2 v3 v4 v5 r1 r2 r3 o4,run (BT n) K (P7 v0 v1 v2 v3 v4 v5 r1 r2 r3 o4)=Z v0 v1 v2 v3 v4 v5 r1 r2 r3 o4
abbrev P8(v0:kp)(v1 v2:List kp)(v3 v4 v5:Int)(r1 r2:List (kp×jS))(r3:List (kp×Bool))(o4:jS):jT:=⟨(.ptr 0 0::qA::qA::.ptr 4 0::qA::qA::.map 1::.str (sb v0)::.kJ false 1 (mp kS v1)::lM (lM (mc (mc (mc (qA::qA::qA::.kJ false 1 (mp kS v2)::.int .i64 v3::.int .i64 v4::lM (lM (mc (mc (qA::qA::[])))))))))),[.cells [.map 1,.map 2,.map 3,.int .i64 v5],.map (mp (Qy (kT jS.kr)) r1),.map (mp (Qy (kT jS.kr)) r2),.map (mp Hq r3),.cells (jS.cells o4)],4,[]⟩
abbrev ah9(K:List Kt)(Z:Bd):Prop:=∀v0 v1 v2 v3 v4 v5 r1 r2 r3 o4,run (BT n) K (P8 v0 v1 v2 v3 v4 v5 r1 r2 r3 o4)=Z v0 v1 v2 v3 v4 v5 r1 r2 r3 o4
attribute [go_sem] P4 P5 P7 Gj P8
def Gk:LB (ah7 n) [0,1,0,1,1,1,1,1,1,1,1] P5:=mB2
def Gl:Nat->P6:=sR ((Gk n).1)
def azd{n:Nat}:Gl n (m+1)=(Gk n).1 (Gl n m):=rfl
@[go_sem]def abP(m:Nat):=ud (Gk n) (Gl n) m
def Gm:LB (ah8 n) [0,1,0,1,1,1,1,1,1] Gj:=mB2
def Gn:Nat->Bd:=sR ((Gm n).1)
def aze{n:Nat}:Gn n (m+1)=(Gm n).1 (Gn n m):=rfl
@[go_sem]def abQ(m:Nat):=ud (Gm n) (Gn n) m
def Gp:LB (ah9 n) [0,1,0,1,1,1,1,1,1] Gj:=mB2
def Gq:Nat->Bd:=sR ((Gp n).1)
def azf{n:Nat}:Gq n (m+1)=(Gp n).1 (Gq n m):=rfl
@[go_sem]def abR(m:Nat):=ud (Gp n) (Gq n) m
def SK:SX (BT n) (l5 0 (l1 (kT jS.kr) kM)) lN 101 BS:=mC2
def Ly:=fu fun n=>(SK n).1
def P9:∀n:Nat,zD gJ 36 (l5 0 (l1 (kT jS.kr) kM)) lN lN (l1 (li .i64) kM) (BS (Ly n)):=WS fun n=>G6 (SK n) (gd (jR (lA (aqx n)) (jR (lA (C5 n)) (jR (lj (pU n)) jU))) jV (p:=(kz (lc (ac6 n)) l7))) func36 ntmps36 results36
@[go_sem]def CJ:=(l1 lW (l1 (li .i64) (l1 (li .i64) (l1 (lz kW) kM))))
@[go_sem]abbrev E3(F:kp->Int->Int->(List kp)->Option TU)(b:Unit)(a:(kp×(Int×(Int×Tf)))):=F a.1 a.2.1 a.2.2.1 a.2.2.2.1
@[go_sem]def Yn(F:kp->Int->Int->(List kp)->Option TU):=xE true [] Bi CJ Bi (l1 (kT ko.kr) kM) Bi j3 (E3 F)
@[reducible] def aoE:kL TU:=mU gJ f81 n (qM gJ [.cell 8 157] [] [] 0 Bi (l1 (kT ko.kr) kM)) (cl:=lY [(147,nr lW (lz kW) (ty3 (lz lD.row) (li .i64) (li .i64)) (awv n))]) (q6:=qN [] [] 0 Bi j3)
def Yo:SX (aoE n) CJ Bi 33 E3:=mC2
def aeb:=fu fun n=>(Yo n).1
def amw:∀n:Nat,tG gJ 81 CJ Bi true Bi (l1 (kT ko.kr) kM) Bi j3 (E3 (aeb n)):=ae9 fun n=>Et (Yo n) (gd (jR (lj (ax4 n)) jU) jV) func81 ntmps81 results81
@[go_sem]abbrev s7(F:jQ->Option TN)(b:T6)(a:Unit):=F b.1.1
@[go_sem]def Gr(F:jQ->Option TN):=xE true [.arg 0 []] jP (l5 0 kM) jP (l1 (kT jZ.kr) kM) jP j3 (s7 F)
@[reducible] def aia:kL TN:=mU gJ f332 n (qM gJ [.cell 2 112] [] [0] 1 jP (l1 (kT jZ.kr) kM)) (cl:=lY [(153,zh [0] (tY (AA jQ.kr) rW) (YH 0 (asT lW Ho)) (tY (AA jQ.kr) rW) (Ui mh Fj) (fun(b:Te) a=>(nP n) b.1 a.1))]) (q6:=qN [] [0] 1 jP j3) (cp:=AC [(335,PZ (rD n))]) (wD:=lS [335])
def Qa:SX (aia n) (l5 0 kM) jP 11 s7:=mC2
def JR:=fu fun n=>(Qa n).1
def OK:∀n:Nat,tG gJ 332 (l5 0 kM) jP true jP (l1 (kT jZ.kr) kM) jP j3 (s7 (JR n)):=ae9 fun n=>Et (Qa n) (gd (jR (oZ (fun b a r h=>(nv n) b.1 a.1 r h)) jU) jV (p:=(kz (lc (af0 n)) l7))) func332 ntmps332 results332
@[go_sem]def FF:sN:=⟨[],[],(zT (lz kW)::l8 (zK::l8 (zT (lz jZ.row)::zK::zK::l8 (l8 (zA::zA::zA::zT (lz j8.row)::zK::zK::lH (l8 (l8 []))))))),[],none,none⟩
@[go_sem]def FG:sN:=⟨[],[],(zT (lz kW)::l8 (zK::l8 (zT (lz jZ.row)::zK::zK::lH (lH (l8 (zA::zA::[])))))),[],none,none⟩
@[reducible] def Ab:kL Int:=mU gJ f125 n (lR gJ [.tmp 4] (li .i64)) (cl:=lY [(168,nr (lz kW) lW mh (qL n))]) (p4:=nR [([0,1,1,1,0,0,1,1,0,0,1,0,1,1],FF),([0,1,0,1,1],FG)])
abbrev FH(v0:List kp)(v1:Int)(v2:List jZ)(v3 v4:Int)(v5:List j8)(v6 v7:Int):jT:=⟨(.kJ false 1 (mp kS v0)::mc (.int .i64 v1::mc (.kJ false 2 (mp jZ.cells v2)::.int .i64 v3::.int .i64 v4::mc (mc (qA::qA::qA::.kJ false 2 (mp j8.cells v5)::.int .i64 v6::.int .i64 v7::lM (mc (mc []))))))),[],0,[]⟩
abbrev FI(m2:Nat):List Kt:=[.pF 2,.pF 1,.cut [1,1,1,0,0,1,0,1,1],.at [1,1,1,0,0,1,0,1,1],.lp m2 [0,1,0,1,1],.pF 0,.cut [1,1,1],.at [1,1,1]]
abbrev FJ:=(List kp)->Int->Tj->Int->Int->(List j8)->Int->Int->Option Int
abbrev UV(K:List Kt)(Z:FJ):Prop:=∀v0 v1 v2 v3 v4 v5 v6 v7,run (Ab n) K (FH v0 v1 v2 v3 v4 v5 v6 v7)=Z v0 v1 v2 v3 v4 v5 v6 v7
abbrev FK(v0:List kp)(v1:Int)(v2:List jZ)(v3 v4:Int):jT:=⟨(.kJ false 1 (mp kS v0)::mc (.int .i64 v1::mc (.kJ false 2 (mp jZ.cells v2)::.int .i64 v3::.int .i64 v4::lM (lM (mc (qA::qA::[])))))),[],0,[]⟩
abbrev vl:=(List kp)->Int->Tj->Int->Int->Option Int
abbrev y9(K:List Kt)(Z:vl):Prop:=∀v0 v1 v2 v3 v4,run (Ab n) K (FK v0 v1 v2 v3 v4)=Z v0 v1 v2 v3 v4
attribute [go_sem] FH FI FK
def za:LB2 (y9 n) [0,1,0,1,1] [.pF 0,.cut [1,1,1],.at [1,1,1]] (UV n) [0,1,1,1,0,0,1,1,0,0,1,0,1,1] FI:=mB
def zb(X2:vl):Nat->FJ:=sR ((za n).1 X2)
def asd{n:Nat}(X2:vl):zb n X2 (m+1)=(za n).1 X2 (zb n X2 m):=rfl
def Pl{m2:Nat}{X2}(h2:y9 n (.lq m2 [0,1,0,1,1]::[.pF 0,.cut [1,1,1],.at [1,1,1]]) X2)(m:Nat):=aDx (za n) h2 (zb n X2) m
def zc:LB (y9 n) [0,1,0,1,1] [.pF 0,.cut [1,1,1],.at [1,1,1]]:=by
 apply Subtype.mk;intro m X0 ih v0 v1 v2 v3 v4;simp (config:={maxSteps:=100000000}) only[go_sem,gO,gP,gK,gL,gQ,gR,gT,gU,gV,gN,gS,gW,f125,gM,mixed,Pl n ih,ih];exact rfl
def zd:Nat->vl:=sR ((zc n).1)
def ase{n:Nat}:zd n (m+1)=(zc n).1 (zd n m):=rfl
@[go_sem]def Pm(m:Nat):=ud (zc n) (zd n) m
def G3:IO (Ab n) (lz kW) (lz jZ.row) 51:=mB
def JC:=fu fun n=>(G3 n).1
def UW:∀n:Nat,th gJ 125 (lz kW) (lz jZ.row) (li .i64) (JC n):=vM fun n=>ug (G3 n) (gd (jR (lj (vk n)) jU) jV) func125 ntmps125 results125
@[reducible] def SL:kL Bool:=mU gJ f128 n (lR gJ [.tmp 4] mh) (cl:=lY [(168,nr (lz kW) lW mh (qL n))])
def Ej:IO (SL n) (lz kW) lW 12:=mB
def G4:=fu fun n=>(Ej n).1
def QZ:∀n:Nat,th gJ 128 (lz kW) lW mh (G4 n):=vM fun n=>ug (Ej n) (gd (jR (lj (vk n)) jU) jV) func128 ntmps128 results128
@[reducible] def af5:kL (Syntax×Int):=mU gJ f18 n (lR gJ [.cell 8 37,.tmp 9] (LQ (kT Syntax.kr) (li .i64))) (cl:=lY [(58,Qw (kT j9.kr) (kT jX.kr) (li .i64) (LQ (kT Syntax.kr) (li .i64)) (lE n))]) (cd:=yA [(23,oV (nh (kT jX.kr) (lz kW) (Wn n)))]) (tI:=lS []) (tX:=lS [])
@[go_sem]def aAQ:qY (af5 n) [0,1]=true:=jO
@[go_sem]def aAR:avI (af5 n) [0,1] 0 7 3 7 6 7:=⟨jO,jO,jO⟩
def af6:SC4 (af5 n) (kT kI.kr) (lz kW) (lz kW) (kT jX.kr) 22:=mB
def af7:=fu fun n=>(af6 n).1
def ax8:∀n:Nat,aDy gJ 18 (kT kI.kr) (lz kW) (lz kW) (kT jX.kr) (LQ (kT Syntax.kr) (li .i64)) (af7 n):=aM2 fun n=>aKG (af6 n) (gd (jR (IS (VH n)) jU) (k7 (nk (atX n)) jV)) func18 ntmps18 results18
open Go.Proofs
@[reducible] def ax9:kL Bool:=mU gJ f25 n (lR gJ [.tmp 2] mh) (cl:=lY [(30,nr (lz jS.row) (tyF 67) mh (sx n))])
def abS:IT (ax9 n) (lz jS.row) 11:=mB
def aan:=fu fun n=>(abS n).1
def awB:∀n:Nat,tL gJ 25 (lz jS.row) mh (aan n):=vD fun n=>uy (abS n) (gd (jR (lj (Cu n)) jU) jV) func25 ntmps25 results25
@[reducible] def aAS:kL Int:=mU gJ f215 n (lR gJ [.tmp 4] (li .i64)) (cl:=lY [(255,nh (kT ky.kr) mh (Wp n)),(256,nh (kT ky.kr) (li .i64) (Wk n)),(257,nr (lz ky.row) (kT ky.kr) (li .i64) (Lf n)),(258,nr (lz ky.row) (kT ky.kr) (li .i64) (aal n))])
def af8:IO (aAS n) (lz ky.row) (kT ky.kr) 32:=mB
def af9:=fu fun n=>(af8 n).1
def aya:∀n:Nat,th gJ 215 (lz ky.row) (kT ky.kr) (li .i64) (af9 n):=vM fun n=>ug (af8 n) (gd (jR (lA (aua n)) (jR (lA (atS n)) (jR (lj (aon n)) (jR (lj (awA n)) jU)))) jV) func215 ntmps215 results215
@[go_sem]def SM:sN:=⟨[],[],(zK::zT (uO kI.kr)::zA::zK::l8 (l8 (l8 (zA::zA::[])))),[oL [zA,zA,zK,zK,zK,zK,zA,zA,zA,zA,zA,zA,zA,zA,zA,zA,zA,zA,zA,zA,zA,zA,zA,zA,zA,zA,zA,zA,zA,zA,zA,zA,zA,zA,zA,zA,zA,zA,zA,zA,zA],oT kI.kr,oC [zK],oC [zK],oC [zK]],none,none⟩
@[go_sem]abbrev CK(F:kI->kI->kp->kp->Int->Option (TR×Unit))(b:(Unit×Tn))(a:(kI×Unit)):=F a.1 b.2.1.1 b.2.2.1.1 b.2.2.2.1.1 b.2.2.2.2.1.1
@[go_sem]def VI(F:kI->kI->kp->kp->Int->Option (TR×Unit)):=Hp [.arg 0 [],.vC 0 2 [],.vC 0 3 [],.vC 0 4 [],.vC 0 5 []] lv (VY 0 (l1 (uO kI.kr) kM)) mN kM (CK F)
@[reducible] def VJ:kL (TR×Unit):=mU gJ f259 n (xg gJ [] [] [0,1,2,3,4] 5 mN kM) (p4:=nR [([0,1],SM)]) (cy:=avy [(0,aC5 [.vC 0 2 [],.vC 0 3 [],.vC 0 4 [],.vC 0 5 []] lv (l1 (lz kW) kM) mN (l1 mh kM) (fun(b:(Unit×Tn))(a:Tf)=>(wZ n) a.1 b.2.1.1 b.2.2.1.1 b.2.2.2.1.1 b.2.2.2.2.1.1))])
attribute [go_sem] A6
@[go_sem]abbrev SN(v0:kI)(v1 j0:Int)(o1:kI)(v4 v5:kp)(v6:Int):jT:=⟨(.map 0::.pp (kI.cells v0)::qA::.int .i64 v1::mc (mc (mc (qA::qA::[])))),[.loop oz [qA,qA,.ptr 1 0,.ptr 2 0,.ptr 3 0,.ptr 4 0,qA,qA,qA,qA,qA,qA,qA,qA,qA,qA,qA,qA,qA,qA,qA,qA,qA,qA,qA,qA,qA,qA,qA,qA,qA,qA,qA,qA,qA,qA,qA,qA,qA,qA,qA] (stJ oz j0) j0,.cells (kI.cells o1),.cells [.str (sb v4)],.cells [.str (sb v5)],.cells [.int .i64 v6]],5,[]⟩
abbrev SO:=kI->Int->Int->kI->kp->kp->Int->Option (TR×Unit)
abbrev akO(K:List Kt)(Z:SO):Prop:=∀v0 v1 j0 o1 v4 v5 v6,run (VJ n) K (SN v0 v1 j0 o1 v4 v5 v6)=Z v0 v1 j0 o1 v4 v5 v6
def yu:LB (akO n) [0,1] [.pF 0]:=mB
def BU:Nat->SO:=sR ((yu n).1)
def OM{n:Nat}:BU n (m+1)=(yu n).1 (BU n m):=rfl
@[go_sem]def aec(m:Nat):=ud (yu n) (BU n) m
def JS:SX (VJ n) (VY 0 (l1 (uO kI.kr) kM)) lv 18 CK:=mC
def G5:=fu fun n=>(JS n).1
def akP:∀n:Nat,zD gJ 259 (VY 0 (l1 (uO kI.kr) kM)) lv mN kM (CK (G5 n)):=WS fun n=>G6 (JS n) (gd jU jV (y:=(MX (fun _ _ _ _ _ h=>apu (fun b a r h=>(SJ n) a.1 b.2.1.1 b.2.2.1.1 b.2.2.2.1.1 b.2.2.2.2.1.1 r h) h) Rx))) func259 ntmps259 results259
@[go_sem]def VK:sN:=⟨[],[],(l8 (zK::zA::zA::zA::zT (lz jS.row)::zK::zK::l8 (l8 (zA::[])))),[oC [zK,zK,zK,zK],oM (kT jS.kr),oM (kT jS.kr),oK],none,none⟩
@[go_sem]def CL:=(alK (.sX (.pointer none)) aNH (alK (.bool false) aG6 kM))
@[go_sem]abbrev E4(F:(List jS)->Option TX)(b:Unit)(a:TI):=F a.1
@[go_sem]def E5(F:(List jS)->Option TX):=xE false [] Bi (l1 (lz jS.row) kM) Bi CL lN (l5 0 (alK (.bool true) aG6 kM)) (E4 F)
@[reducible] def Yp:kL TX:=mU gJ f35 n (apy gJ [.tmp 2,.tmp 3] [] [] 0 Bi CL [.arg 0 [],.vC 0 0 [],.vC 0 1 [],.vC 0 2 []] lN (l5 0 (alK (.bool true) aG6 kM))) (cl:=lY [(36,Iw (Ly n)),(75,Vf (Zw n))]) (p4:=nR [([0,1,0,1,1],VK)])
@[go_sem]abbrev VM(v0:List jS)(v1 v2 v3:Int)(r1 r2:List (kp×jS))(r3:List (kp×Bool)):jT:=⟨(mc (.ptr 0 0::qA::qA::qA::.kJ false 4 (mp jS.cells v0)::.int .i64 v1::.int .i64 v2::mc (mc (qA::[])))),[.cells [.map 1,.map 2,.map 3,.int .i64 v3],.map (mp (Qy (kT jS.kr)) r1),.map (mp (Qy (kT jS.kr)) r2),.map (mp Hq r3)],0,[]⟩
abbrev VN:=(List jS)->Int->Int->Int->Tb->Tb->Ta->Option TX
abbrev amx(K:List Kt)(Z:VN):Prop:=∀v0 v1 v2 v3 r1 r2 r3,run (Yp n) K (VM v0 v1 v2 v3 r1 r2 r3)=Z v0 v1 v2 v3 r1 r2 r3
def JT:LB (amx n) [0,1,0,1,1] [.pF 0,.cut [1,1,1],.at [1,1,1]]:=mB
def JU:Nat->VN:=sR ((JT n).1)
def aBn{n:Nat}:JU n (m+1)=(JT n).1 (JU n m):=rfl
@[go_sem]def aga(m:Nat):=ud (JT n) (JU n) m
def Yq:SX (Yp n) (l1 (lz jS.row) kM) Bi 20 E4:=mC
def Je:=fu fun n=>(Yq n).1
def JV:∀n:Nat,tG gJ 35 (l1 (lz jS.row) kM) Bi false Bi CL lN (l5 0 (alK (.bool true) aG6 kM)) (E4 (Je n)):=ae9 fun n=>aQU (Yq n) (gd (jR (mY (P9 n)) (jR (mY (ajm n)) jU)) jV) func35 ntmps35 results35
@[go_sem]def CM:=(l1 lW (l1 (li .i64) (l1 (li .i64) (l1 (lz jS.row) kM))))
@[go_sem]abbrev E6(F:kp->Int->Int->(List jS)->Option T1a)(b:Unit)(a:(kp×(Int×(Int×TI)))):=F a.1 a.2.1 a.2.2.1 a.2.2.2.1
@[go_sem]def Yr(F:kp->Int->Int->(List jS)->Option T1a):=xE true [] Bi CM jP (l5 0 kM) Bi j3 (E6 F)
@[reducible] def aoF:kL T1a:=mU gJ f43 n (qM gJ [.tmp 8] [.arg 0 []] [] 0 jP (l5 0 kM)) (cl:=lY [(55,nh (lz jS.row) (lz kW) (Am n))]) (q6:=qN [] [] 0 Bi j3) (cp:=AC [(81,Yn (aeb n))]) (wD:=lS [81])
def Yt:SX (aoF n) CM Bi 21 E6:=mC2
def aed:=fu fun n=>(Yt n).1
def amy:∀n:Nat,tG gJ 43 CM Bi true jP (l5 0 kM) Bi j3 (E6 (aed n)):=ae9 fun n=>Et (Yt n) (gd (jR (lA (JI n)) jU) jV (p:=(kz (lc (amw n)) l7))) func43 ntmps43 results43
@[go_sem]def n4:=(tg (Bl (alA 2 kM)) (tg (Bl (l5 3 kM)) (tg (ogA true jZ.row) (tg (Bl (VX jQ.kr 6 kM)) Bi))))
@[go_sem]abbrev yj(F:Tj->jQ->Option TJ)(b:(Unit×(Unit×(Tj×T6))))(a:Unit):=F b.2.2.1 b.2.2.2.1.1
@[go_sem]def KQ(F:Tj->jQ->Option TJ):=xE true [.arg 0 [],.arg 1 [],.vC 0 0 [],.vC 1 0 []] n4 (l5 0 (l5 1 kM)) n4 kM n4 j3 (yj F)
@[reducible] def qh:kL TJ:=mU gJ f331 n (qM gJ [] [] [0,1,2,3] 4 n4 kM) (q6:=qN [] [0,1,2,3] 4 n4 j3) (co:=VZ [(332,Jl [.arg 0 []] jP (l5 0 kM) jP (l1 (kT jZ.kr) kM) jP j3 (s7 (JR n)))]) (tI:=lS [332]) (tX:=lS [])
def abT:qY (qh n) []=true:=jO
def abU:vL (qh n) [] 1 2 0 4 1 4 2 4/\vL (qh n) [] 0 5 1 5 2 5 4 5:=⟨⟨jO,jO,jO,jO⟩,jO,jO,jO,jO⟩
def abV:Pj (qh n) [] 2 3=true/\Pj (qh n) [] 2 4=true/\Pj (qh n) [] 2 5=true/\aaE (qh n) [] 2=false:=⟨jO,jO,jO,jO⟩
attribute [go_sem] abT abU abV
def KR:SX (qh n) (l5 0 (l5 1 kM)) n4 7 yj:=mC2
def ON:=fu fun n=>(KR n).1
def aSZ:∀n:Nat,tG gJ 331 (l5 0 (l5 1 kM)) n4 true n4 kM n4 j3 (yj (ON n)):=ae9 fun n=>Et (KR n) (gd jU jV (c:=(nS (AB (OK n)) tK))) func331 ntmps331 results331
open Go.Proofs
structure mR where
 nQ:(List kp)->Syntax->Option Int
 mw:(List Syntax)->(List kp)->Option Int
open Go.Proofs
@[reducible] def Pn(X:mR)(n:Nat):kL Int:=mU gJ f70 n (lR gJ [.tmp 4] (li .i64)) (cl:=lY [(124,nh (kT Syntax.kr) mh (ajX n)),(125,nr (lz kW) (lz jZ.row) (li .i64) (JC n)),(126,nr (lz kW) lW mh (qP n)),(127,nh (li .i64) mh (Ra n)),(128,nr (lz kW) lW mh (G4 n)),(129,WM (nr (lz Syntax.row) (avK 70 (lz kW)) (li .i64) X.mw) (nr (lz Syntax.row) (avK 130 (lz kW)) (li .i64) (yL n)))])
def xx(X:mR)(n:Nat):IO (Pn X n) (lz kW) (kT Syntax.kr) 62:=mB
open Go.Proofs
@[go_sem]def vZ:sN:=⟨[],[],(zA::zT (avK 70 (lz kW))::l8 (zA::zA::zT (lz Syntax.row)::zK::zK::l8 (l8 (zA::zA::[])))),[],none,none⟩
@[reducible] def wz(X:mR)(n:Nat):kL Int:=mU gJ f129 n (lR gJ [.tmp 4] (li .i64)) (cl:=lY [(70,nr (lz kW) (kT Syntax.kr) (li .i64) X.nQ)]) (p4:=nR [([0,1,0,1],vZ)])
@[go_sem]abbrev we(v0:List kp)(v1:List Syntax)(v2 v3:Int):jT:=⟨(qA::.func (.func 70) [.kJ false 1 (mp kS v0)] []::mc (qA::qA::.kJ false 8 (mp Syntax.cells v1)::.int .i64 v2::.int .i64 v3::mc (mc (qA::qA::[])))),[],0,[]⟩
abbrev DM(X:mR)(n:Nat)(K:List Kt)(Z:qq):Prop:=∀v0 v1 v2 v3,run (wz X n) K (we v0 v1 v2 v3)=Z v0 v1 v2 v3
def rM(X:mR)(n:Nat):LB (DM X n) [0,1,0,1] [.pF 0,.cut [1,1],.at [1,1]]:=mB
def rN(X:mR)(n:Nat):Nat->qq:=sR ((rM X n).1)
def abW(X:mR){n:Nat}:rN X n (m+1)=(rM X n).1 (rN X n m):=rfl
@[go_sem]def BV(X:mR)(n:Nat)(m:Nat):=ud (rM X n) (rN X n) m
def rT(X:mR)(n:Nat):IO (wz X n) (lz Syntax.row) (avK 70 (lz kW)) 21:=mB
open Go.Proofs
def lX:Nat->mR
 |0=>⟨Fu.z,Fu.z⟩
 |n+1=>⟨(xx (lX n) n).1,(rT (lX n) n).1⟩
def nQ:(List kp)->Syntax->Option Int:=(lX n).nQ
def aq2{n:Nat}:nQ (n+1)=(xx (lX n) n).1:=rfl
def mw:(List Syntax)->(List kp)->Option Int:=(lX n).mw
def aeI{n:Nat}:mw (n+1)=(rT (lX n) n).1:=rfl
def aqD{n:Nat}:(lX n).nQ=nQ n/\(lX n).mw=mw n:=⟨rfl,rfl⟩
def wv:∀n:Nat,th gJ 70 (lz kW) (kT Syntax.kr) (li .i64) (lX n).nQ/\th gJ 129 (lz Syntax.row) (avK 70 (lz kW)) (li .i64) (lX n).mw
 |0=>⟨fun _ _ _ h=>(by cases h),fun _ _ _ h=>(by cases h)⟩
 |n+1=>by
  obtain⟨OO,DN⟩:=wv n
  exact⟨ug (xx (lX n) n) (gd (jR (lA (aqb n)) (jR (lj (UW n)) (jR (lj (xw n)) (jR (lA (QE n)) (jR (lj (QZ n)) (jR (acv (lj (DN)) (lj (F4 n))) jU)))))) jV) func70 ntmps70 results70,
   ug (rT (lX n) n) (gd (jR (lj (OO)) jU) jV) func129 ntmps129 results129⟩
def OP:th gJ 70 (lz kW) (kT Syntax.kr) (li .i64) (nQ n):=(wv n).1
def aee:th gJ 129 (lz Syntax.row) (avK 70 (lz kW)) (li .i64) (mw n):=(wv n).2
open Go.Proofs
@[reducible] def amz:kL TN:=mU gJ f328 n (qM gJ [.cell 2 112] [] [0] 1 jP (l1 (kT jZ.kr) kM)) (cl:=lY [(88,zh [0] (tY (AA jQ.kr) rW) (YH 0 Ho) (tY (AA jQ.kr) rW) (Ui lW Fj) (fun(b:Te) a=>(ni n) b.1)),(94,D5 (oV (nh (uO jQ.kr) (kT lD.kr) (ny n)))),(153,zh [0] (tY (AA jQ.kr) rW) (YH 0 (asT lW Ho)) (tY (AA jQ.kr) rW) (Ui mh Fj) (fun(b:Te) a=>(nP n) b.1 a.1)),(207,D5 (oV (nh (uO jQ.kr) mh (BF n))))]) (q6:=qN [] [0] 1 jP j3) (cp:=AC [(151,pG (ql n)),(327,zZ (BP n)),(332,Gr (JR n))]) (wD:=lS [151,327,332])
def VO:SX (amz n) (l5 0 kM) jP 47 s7:=mC2
def aao:=fu fun n=>(VO n).1
def akQ:∀n:Nat,tG gJ 328 (l5 0 kM) jP true jP (l1 (kT jZ.kr) kM) jP j3 (s7 (aao n)):=ae9 fun n=>Et (VO n) (gd (jR (oZ (fun b a r h=>(mA n) b.1 r h)) (jR (qp (nk (mP n))) (jR (oZ (fun b a r h=>(nv n) b.1 a.1 r h)) (jR (qp (nk (Dc n))) jU)))) jV (p:=(kz (lc (pS n)) (kz (lc (DE n)) (kz (lc (OK n)) l7))))) func328 ntmps328 results328
open Go.Proofs
@[go_sem]def akR:sN:=⟨[],[],(zT (lz ky.row)::zA::zA::zA::zK::lH (l8 (zA::zA::[]))),[],none,none⟩
@[reducible] def abX:kL (Int×Int):=mU gJ f159 n (lR gJ [.tmp 2,.tmp 3] (LQ (li .i64) (li .i64))) (cd:=yA [(215,oV (nr (lz ky.row) (kT ky.kr) (li .i64) (af9 n)))]) (p4:=nR [([0,1,0,1,1],akR)]) (tI:=lS []) (tX:=lS [])
@[go_sem]def ayb:qY (abX n) [0,0,0,1,0,0,1,0,1,1]=true:=jO
@[go_sem]abbrev akS(v0:List ky)(v1:Int):jT:=⟨(.kJ false 23 (mp ky.cells v0)::qA::qA::qA::.int .i64 v1::lM (mc (qA::qA::[]))),[],0,[]⟩
abbrev akT:=(List ky)->Int->Option (Int×Int)
abbrev awC(K:List Kt)(Z:akT):Prop:=∀v0 v1,run (abX n) K (akS v0 v1)=Z v0 v1
def Ix:LB (awC n) [0,1,0,1,1] [.pF 0,.cut [1,1,1],.at [1,1,1]]:=mB
def Iy:Nat->akT:=sR ((Ix n).1)
def aef{n:Nat}:Iy n (m+1)=(Ix n).1 (Iy n m):=rfl
@[go_sem]def aqE(m:Nat):=ud (Ix n) (Iy n) m
def abY:IT (abX n) (lz ky.row) 27:=mB
def aap:=fu fun n=>(abY n).1
def awD:∀n:Nat,tL gJ 159 (lz ky.row) (LQ (li .i64) (li .i64)) (aap n):=vD fun n=>uy (abY n) (gd jU (k7 (oQ (aya n)) jV)) func159 ntmps159 results159
@[reducible] def ahA:kL (kp×Int):=mU gJ f169 n (lR gJ [.cell 4 9,.cell 5 28] (LQ lW (li .i64))) (cl:=lY [(141,nh lW mh (Wx n)),(219,nh (kT kI.kr) (anV 259 (uO kI.kr)) (K4 n)),(221,nr (kT kI.kr) lW mh (A3 n)),(222,nr (kT kI.kr) lW (lz kW) (Wr n)),(259,VI (G5 n))]) (js:=aIc [([0,1,0,1,1],[(1,.ret)])])
@[go_sem]def aqF:lkM (ahA n) [0,1,0,1,1]=oz:=rfl
attribute [go_sem] A6
def UX:IO (ahA n) (kT kI.kr) lW 41:=mB
def Rk:=fu fun n=>(UX n).1
def asf:∀n:Nat,th gJ 169 (kT kI.kr) lW (LQ lW (li .i64)) (Rk n):=vM fun n=>ug (UX n) (gd (jR (lA (afu n)) (jR (lA (an3 n)) (jR (lj (Ox n)) (jR (lj (aui n)) (jR (mY (akP n)) jU))))) jV) func169 ntmps169 results169
@[reducible] def Yu:kL ((List jS)×Int):=mU gJ f9 n (lR gJ [.tmp 4,.tmp 5] (LQ (lz jS.row) (li .i64))) (cl:=lY [(36,Iw (Ly n)),(37,zh [] rW (asT (lz kW) Ho) (tY (Uh true kW) rW) (rsA 0 (fun(b:Tf)=>b.1.length) Fj) (fun(b:Unit) a=>(yK n) a.1))]) (cp:=AC [(35,E5 (Je n))]) (wD:=lS [35]) (tI:=lS []) (tX:=lS [38]) (ce:=aFr [(38,aHZ (asT (lz jS.row) Ho) (tY (Uh true jS.row) rW) (rsA 0 (fun(b:TI)=>b.1.length) Fj) (fun a=>(LX n) a.1))])
@[go_sem]def awE:qY (Yu n) [0,1,1,1,1,1]=true:=jO
@[go_sem]def awF:axu (Yu n) [0,1,1,1,1,1] 1 4 2 4:=⟨jO,jO⟩
def akU:IO (Yu n) (lz jS.row) (kT jS.kr) 31:=mB2
def aqG:=fu fun n=>(akU n).1
def auj:∀n:Nat,th gJ 9 (lz jS.row) (kT jS.kr) (LQ (lz jS.row) (li .i64)) (aqG n):=vM fun n=>ug (akU n) (gd (jR (mY (P9 n)) (jR (oZ (fun b a r h=>(HL n) a.1 r h)) jU)) jV (e:=(az6 (aMo (fun a=>⟨(lz jS.row).nb 0 _,trivial⟩) (fun a r h=>(Xb n) a.1 r h)) aCO)) (p:=(kz (lc (JV n)) l7))) func9 ntmps9 results9
def aaq:sN:=⟨[],[],(zA::zA::zA::zK::l8 (zK::l8 (l8 (l8 (zA::zA::zA::zT (lz jS.row)::zK::zK::lH (l8 (l8 (l8 (zA::zA::[]))))))))),[oT Syntax.kr,oD,oD,oD,oD,oM (kT jS.kr),oC [zK]],none,none⟩
@[reducible] def DO:kL ((List Syntax)×Int):=mU gJ f232 n (lR gJ [.tmp 4,.tmp 5] (LQ (lz Syntax.row) (li .i64))) (cl:=lY [(268,apr 1 true 8 (Cb (zW n)))]) (p4:=nR [([0,1,0,1,1,1],aaq)]) (cp:=AC [(35,E5 (Je n))]) (wD:=lS [35]) (tI:=lS []) (tX:=lS [])
def asg:an0 (DO n) [0,1,0,0,1,1,0,0,1,0,1,1,1] [0,1,1,1,0,0,1,1,0,0,1,0,1,1,1]:=⟨jO,jO⟩
def ash:vL (DO n) [0,1,0,0,1,1,0,0,1,0,1,1,1] 3 11 5 11 6 11 10 11/\avI (DO n) [0,1,1,1,0,0,1,1,0,0,1,0,1,1,1] 3 7 5 7 6 7:=⟨⟨jO,jO,jO,jO⟩,jO,jO,jO⟩
attribute [go_sem] asg ash aaq
@[go_sem]abbrev aar(v0:List jS)(v1 v2:Int)(o0:Syntax)(r5:List (kp×jS)):jT:=⟨(qA::qA::qA::.ptr 0 0::mc (.ptr 6 0::mc (mc (mc (qA::qA::qA::.kJ false 4 (mp jS.cells v0)::.int .i64 v1::.int .i64 v2::lM (mc (mc (mc (qA::qA::[]))))))))),[.cells (Syntax.cells o0),.vz,.vz,.vz,.vz,.map (mp (Qy (kT jS.kr)) r5),.cells [.map 5]],0,[]⟩
abbrev aas:=(List jS)->Int->Int->Syntax->Tb->Option ((List Syntax)×Int)
abbrev aqH(K:List Kt)(Z:aas):Prop:=∀v0 v1 v2 o0 r5,run (DO n) K (aar v0 v1 v2 o0 r5)=Z v0 v1 v2 o0 r5
def OQ:LB (aqH n) [0,1,0,1,1,1] [.pF 0,.cut [1,1,1,1],.at [1,1,1,1]]:=mB2
def OR:Nat->aas:=sR ((OQ n).1)
def aEf{n:Nat}:OR n (m+1)=(OQ n).1 (OR n m):=rfl
@[go_sem]def akV(m:Nat):=ud (OQ n) (OR n) m
def aeg:IO (DO n) (lz jS.row) (kT Syntax.kr) 57:=mB2
def akW:=fu fun n=>(aeg n).1
def aqI:∀n:Nat,th gJ 232 (lz jS.row) (kT Syntax.kr) (LQ (lz Syntax.row) (li .i64)) (akW n):=vM fun n=>ug (aeg n) (gd (jR (acu (mY (Jz n))) jU) jV (p:=(kz (lc (JV n)) l7))) func232 ntmps232 results232
@[go_sem]def va:sN:=⟨[],[],(zK::zK::zA::zA::zK::l8 (l8 (zA::zA::[]))),[oT jQ.kr,oC [zK],oC [zK],oA jZ.row],none,none⟩
@[go_sem]def py:=(l5 0 (alF 331 (vlP 1 (vlP 2 vlN)) kM))
@[go_sem]def lB:=(tg (Bl (VX jQ.kr 6 kM)) (tg (Bl (alA 3 kM)) (tg (Bl (l5 0 kM)) (tg (ogA true jZ.row) Bi))))
@[go_sem]abbrev pK(F:jQ->Tj->Option TC)(b:(Te×(Unit×(Unit×(Tj×Unit)))))(a:(Unit×Unit)):=F b.1.1 b.2.2.2.1
@[go_sem]def vp(F:jQ->Tj->Option TC):=xE true [.arg 0 [],.arg 1 [0],.arg 1 [1],.vC 1 0 []] lB py lB kM lB j3 (pK F)
@[reducible] def vq:kL TC:=mU gJ f330 n (qM gJ [] [] [0,1,2,3] 4 lB kM) (cl:=lY [(153,zh [0] (tY (AA jQ.kr) rW) (YH 0 (asT lW Ho)) (tY (AA jQ.kr) rW) (Ui mh Fj) (fun(b:Te) a=>(nP n) b.1 a.1))]) (p4:=nR [([0,1],va)]) (q6:=qN [] [0,1,2,3] 4 lB j3) (cp:=AC [(82,mi (nX n)),(331,KQ (ON n))]) (wD:=lS [82,331])
@[go_sem]abbrev vb(v0:Int)(o0:jQ)(r3:List jZ)(c3:Nat):jT:=⟨(.ptr 0 0::.func (.func 331) [] [.ptr 1 0,.ptr 2 0]::qA::qA::.int .i64 v0::mc (mc (qA::qA::[]))),[.cells (jQ.cells o0),.cells [.lV 3 c3],.cells [.ptr 0 0],.lV true 2 (mp jZ.cells r3)],4,[]⟩
abbrev vc:=Int->jQ->Tj->Option TC
abbrev Ce(K:List Kt)(Z:vc):Prop:=∀v0 o0 r3 c3,c3=r3.length->run (vq n) K (vb v0 o0 r3 c3)=Z v0 o0 r3
def q3:LB (Ce n) [0,1] [.pF 0]:=mB2
def q4:Nat->vc:=sR ((q3 n).1)
def aS0{n:Nat}:q4 n (m+1)=(q3 n).1 (q4 n m):=rfl
@[go_sem]def Bg(m:Nat):=ud (q3 n) (q4 n) m
def vu:SX (vq n) py lB 15 pK:=mC2
def wA:=fu fun n=>(vu n).1
def Cf:∀n:Nat,tG gJ 330 py lB true lB kM lB j3 (pK (wA n)):=ae9 fun n=>Et (vu n) (gd (jR (oZ (fun b a r h=>(nv n) b.1 a.1 r h)) jU) jV (p:=(kz (lc (nH n)) (kz (lc (aSZ n)) l7)))) func330 ntmps330 results330
@[reducible] def aeh:kL TW:=mU gJ f212 n (aMQ (WQ [(251,Ps [.arg 0 [],.arg 1 [],.arg 2 [],.arg 3 [],.vC 0 0 [],.vC 4 0 [],.vC 5 0 [],.vC 5 1 [],.vC 5 2 []] kx (l5 0 (l5 1 (l5 2 (l5 3 kM)))) kx kM (fun(b:Tk)(a:Unit)=>(CF n) b.2.1.1 b.2.2.1.1 b.2.2.2.1.1 b.2.2.2.2.1.1 b.2.2.2.2.1.2.1 b.2.2.2.2.2.1.1 b.2.2.2.2.2.2.1 b.2.2.2.2.2.2.2.1 b.2.2.2.2.2.2.2.2.1))]) (WQ [(251,Ps [.arg 0 [],.arg 1 [],.arg 2 [],.arg 3 [],.vC 0 0 [],.vC 4 0 [],.vC 5 0 [],.vC 5 1 [],.vC 5 2 []] kx uj kx kM (fun(b:Tk)(a:(Unit×Unit))=>(CG n) a.1 b.2.1.1 b.2.2.1.1 b.2.2.2.1.1 b.2.2.2.2.1.1 b.2.2.2.2.1.2.1 b.2.2.2.2.2.1.1 b.2.2.2.2.2.2.1 b.2.2.2.2.2.2.2.1 b.2.2.2.2.2.2.2.2.1))]) gJ [.cell 4 37,.cell 5 3,.cell 6 28] (ty3 (kT Syntax.kr) (li .i64) (li .i64))) (q6:=aG2 (WQ [(251,Ps [.arg 0 [],.arg 1 [],.arg 2 [],.arg 3 [],.vC 0 0 [],.vC 4 0 [],.vC 5 0 [],.vC 5 1 [],.vC 5 2 []] kx (l5 0 (l5 1 (l5 2 (l5 3 kM)))) kx kM (fun(b:Tk)(a:Unit)=>(CF n) b.2.1.1 b.2.2.1.1 b.2.2.2.1.1 b.2.2.2.2.1.1 b.2.2.2.2.1.2.1 b.2.2.2.2.2.1.1 b.2.2.2.2.2.2.1 b.2.2.2.2.2.2.2.1 b.2.2.2.2.2.2.2.2.1))]) (WQ [(251,Ps [.arg 0 [],.arg 1 [],.arg 2 [],.arg 3 [],.vC 0 0 [],.vC 4 0 [],.vC 5 0 [],.vC 5 1 [],.vC 5 2 []] kx uj kx kM (fun(b:Tk)(a:(Unit×Unit))=>(CG n) a.1 b.2.1.1 b.2.2.1.1 b.2.2.2.1.1 b.2.2.2.2.1.1 b.2.2.2.2.1.2.1 b.2.2.2.2.2.1.1 b.2.2.2.2.2.2.1 b.2.2.2.2.2.2.2.1 b.2.2.2.2.2.2.2.2.1))]) gJ [.cell 4 37,.cell 5 3,.cell 6 28] (ty3 (kT Syntax.kr) (li .i64) (li .i64))) (cp:=AC [(35,E5 (Je n)),(252,zV (qU n))]) (wD:=lS [35,252])
def aei:{B:(List jS)->(List Syntax)->Option TW //∀(a0:(List jS))(a1:(List Syntax)),run (aeh n) [.at []] (ini [(lz jS.row).enc a0,(lz Syntax.row).enc a1] 42)=B a0 a1}:=mB2
def akX:=fu fun n=>(aei n).1
def aqJ:∀(n:Nat)(a0:(List jS))(a1:(List Syntax))(r:TW),akX n a0 a1=some r->JE gJ 212 [(lz jS.row).enc a0,(lz Syntax.row).enc a1] (fun v=>v=(ty3 (kT Syntax.kr) (li .i64) (li .i64)).enc r)
 |0,_,_,_,h=>by cases h
 |n+1,a0,a1,r,h=>by
  exact aDh (M:=aeh n) (t:=(ty3 (kT Syntax.kr) (li .i64) (li .i64))) (cr:=(WQ [(251,Ps [.arg 0 [],.arg 1 [],.arg 2 [],.arg 3 [],.vC 0 0 [],.vC 4 0 [],.vC 5 0 [],.vC 5 1 [],.vC 5 2 []] kx (l5 0 (l5 1 (l5 2 (l5 3 kM)))) kx kM (fun(b:Tk)(a:Unit)=>(CF n) b.2.1.1 b.2.2.1.1 b.2.2.2.1.1 b.2.2.2.2.1.1 b.2.2.2.2.1.2.1 b.2.2.2.2.2.1.1 b.2.2.2.2.2.2.1 b.2.2.2.2.2.2.2.1 b.2.2.2.2.2.2.2.2.1))])) (cp:=(WQ [(251,Ps [.arg 0 [],.arg 1 [],.arg 2 [],.arg 3 [],.vC 0 0 [],.vC 4 0 [],.vC 5 0 [],.vC 5 1 [],.vC 5 2 []] kx uj kx kM (fun(b:Tk)(a:(Unit×Unit))=>(CG n) a.1 b.2.1.1 b.2.2.1.1 b.2.2.2.1.1 b.2.2.2.2.1.1 b.2.2.2.2.1.2.1 b.2.2.2.2.2.1.1 b.2.2.2.2.2.2.1 b.2.2.2.2.2.2.2.1 b.2.2.2.2.2.2.2.2.1))])) ⟨jU,jV,oX _,pJ _,q7,q8,(kz (lc (JV n)) (kz (lc (adG n)) l7)),rH⟩ (MY (acw arm (fun _ _ _ _=>rfl) (jO) (fun b a r h=>(afo n) b.2.1.1 b.2.2.1.1 b.2.2.2.1.1 b.2.2.2.2.1.1 b.2.2.2.2.1.2.1 b.2.2.2.2.2.1.1 b.2.2.2.2.2.2.1 b.2.2.2.2.2.2.2.1 b.2.2.2.2.2.2.2.2.1 r h)) Ry) (MY (acw arn (fun _ _ _ _=>rfl) (jO) (fun b a r h=>(afp n) a.1 b.2.1.1 b.2.2.1.1 b.2.2.2.1.1 b.2.2.2.2.1.1 b.2.2.2.2.1.2.1 b.2.2.2.2.2.1.1 b.2.2.2.2.2.2.1 b.2.2.2.2.2.2.2.1 b.2.2.2.2.2.2.2.2.1 r h)) Ry) func212 rfl rfl ⟨(lz jS.row).nb 0 _,(lz Syntax.row).nb 0 _,trivial⟩ ntmps212 results212 rfl rfl (((aei n).2 a0 a1).trans h)
open Go.Proofs
@[reducible] def aAT:kL Bool:=mU gJ f95 n (lR gJ [.tmp 2] mh) (cl:=lY [(158,nh (lz ky.row) mh (alL n)),(159,nh (lz ky.row) (LQ (li .i64) (li .i64)) (aap n))])
def agb:IT (aAT n) (lz ky.row) 15:=mB
def agc:=fu fun n=>(agb n).1
def ayc:∀n:Nat,tL gJ 95 (lz ky.row) mh (agc n):=vD fun n=>uy (agb n) (gd (jR (lA (aAM n)) (jR (lA (awD n)) jU)) jV) func95 ntmps95 results95
@[reducible] def abZ:kL Int:=mU gJ f107 n (lR gJ [.tmp 4] (li .i64)) (cl:=lY [(79,nr (lz kW) lW mh (oH n)),(126,nr (lz kW) lW mh (qP n)),(169,nr (kT kI.kr) lW (LQ lW (li .i64)) (Rk n))])
def Cg:IO (abZ n) (uO j4.kr) lW 40:=mB
def Ac:=fu fun n=>(Cg n).1
def Za:∀n:Nat,th gJ 107 (uO j4.kr) lW (li .i64) (Ac n):=vM fun n=>ug (Cg n) (gd (jR (lj (pU n)) (jR (lj (xw n)) (jR (lj (asf n)) jU))) jV) func107 ntmps107 results107
@[go_sem]def Yv:sN:=⟨[],[],(zA::zA::zA::zT (lz jS.row)::l8 (zT (lz jS.row)::zK::zK::l8 (l8 (l8 (zA::[]))))),[],none,none⟩
@[reducible] def aat:kL Bool:=mU gJ f69 n (lR gJ [.tmp 2] mh) (cl:=lY [(9,nr (lz jS.row) (kT jS.kr) (LQ (lz jS.row) (li .i64)) (aqG n))]) (p4:=nR [([0,1,0,1,1],Yv)])
@[go_sem]abbrev Yw(v0 v1:List jS)(v2 v3:Int):jT:=⟨(qA::qA::qA::.kJ false 4 (mp jS.cells v0)::mc (.kJ false 4 (mp jS.cells v1)::.int .i64 v2::.int .i64 v3::mc (mc (mc (qA::[]))))),[],0,[]⟩
abbrev Yx:=(List jS)->(List jS)->Int->Int->Option Bool
abbrev aoG(K:List Kt)(Z:Yx):Prop:=∀v0 v1 v2 v3,run (aat n) K (Yw v0 v1 v2 v3)=Z v0 v1 v2 v3
def Lz:LB (aoG n) [0,1,0,1,1] [.pF 0,.cut [1,1,1],.at [1,1,1]]:=mB
def LA:Nat->Yx:=sR ((Lz n).1)
def aDK{n:Nat}:LA n (m+1)=(Lz n).1 (LA n m):=rfl
@[go_sem]def aib(m:Nat):=ud (Lz n) (LA n) m
def aau:IT (aat n) (lz jS.row) 24:=mB
def ahB:=fu fun n=>(aau n).1
def aoH:∀n:Nat,tL gJ 69 (lz jS.row) mh (ahB n):=vD fun n=>uy (aau n) (gd (jR (lj (auj n)) jU) jV) func69 ntmps69 results69
@[go_sem]abbrev Ad(F:Syntax->(List jS)->Bool->kp->Option (T9×TF))(b:T9)(a:(Syntax×Unit)):=F a.1 b.1.1 b.1.2.1 b.2.1
@[go_sem]def OS(F:Syntax->(List jS)->Bool->kp->Option (T9×TF)):=Hp [.arg 0 [],.vC 0 1 []] j5 (l5 0 (l1 (kT Syntax.kr) kM)) j5 (l1 (lz Syntax.row) (l1 mh kM)) (Ad F)
@[reducible] def OT:kL (T9×TF):=mU gJ f188 n (xg gJ [.tmp 4,.tmp 5] [] [0,1] 2 j5 (l1 (lz Syntax.row) (l1 mh kM))) (cd:=yA [(232,oV (nr (lz jS.row) (kT Syntax.kr) (LQ (lz Syntax.row) (li .i64)) (akW n)))]) (tI:=lS []) (tX:=lS [])
@[go_sem]def agd:an0 (OT n) [0,1] [0,1,1,1]:=⟨jO,jO⟩
def OU:SX (OT n) (l5 0 (l1 (kT Syntax.kr) kM)) j5 38 Ad:=mC
def SQ:=fu fun n=>(OU n).1
def aej:∀n:Nat,zD gJ 188 (l5 0 (l1 (kT Syntax.kr) kM)) j5 j5 (l1 (lz Syntax.row) (l1 mh kM)) (Ad (SQ n)):=WS fun n=>G6 (OU n) (gd jU (k7 (oQ (aqI n)) jV)) func188 ntmps188 results188
@[go_sem]abbrev Ae(F:jQ->Option T15)(b:T6)(a:Unit):=F b.1.1
@[go_sem]def OV(F:jQ->Option T15):=xE true [.arg 0 []] jP (l5 0 kM) jP (l1 (lz jZ.row) kM) jP j3 (Ae F)
@[reducible] def age:kL T15:=mU gJ f325 n (qM gJ [.tmp 2] [] [0] 1 jP (l1 (lz jZ.row) kM)) (cl:=lY [(153,zh [0] (tY (AA jQ.kr) rW) (YH 0 (asT lW Ho)) (tY (AA jQ.kr) rW) (Ui mh Fj) (fun(b:Te) a=>(nP n) b.1 a.1))]) (cut:=asK [] [([1,1,1],2,0,2,true)]) (q6:=qN [] [0] 1 jP j3) (cp:=AC [(151,pG (ql n)),(330,vp (wA n))]) (wD:=lS [151,330])
def OW:SX (age n) (l5 0 kM) jP 19 Ae:=mC2
def SR:=fu fun n=>(OW n).1
def aek:∀n:Nat,tG gJ 325 (l5 0 kM) jP true jP (l1 (lz jZ.row) kM) jP j3 (Ae (SR n)):=ae9 fun n=>Et (OW n) (gdM (jR (oZ (fun b a r h=>(nv n) b.1 a.1 r h)) jU) jV (p:=(kz (lc (pS n)) (kz (lc (Cf n)) l7)))) func325 ntmps325 results325
open Go.Proofs
@[go_sem]abbrev mD(F:Syntax->(List jS)->Bool->kp->Option (T9×Unit))(b:T9)(a:(Syntax×Unit)):=F a.1 b.1.1 b.1.2.1 b.2.1
@[go_sem]def oe(F:Syntax->(List jS)->Bool->kp->Option (T9×Unit)):=Hp [.arg 0 [],.vC 0 1 []] j5 (l5 0 (l1 (kT Syntax.kr) kM)) j5 kM (mD F)
@[go_sem]def nx:=(l5 0 (l1 lW (alB 71 (vlP 0 vlN) (l1 (kT Syntax.kr) (l1 lW kM)))))
@[go_sem]abbrev k5(F:kp->Syntax->kp->(List jS)->Bool->kp->Option (T9×Unit))(b:T9)(a:(kp×(Unit×(Syntax×(kp×Unit))))):=F a.1 a.2.2.1 a.2.2.2.1 b.1.1 b.1.2.1 b.2.1
@[go_sem]def om(F:kp->Syntax->kp->(List jS)->Bool->kp->Option (T9×Unit)):=Hp [.arg 0 [],.vC 0 1 []] j5 nx j5 kM (k5 F)
@[go_sem]def oO:=(l5 0 (l1 lW (alB 134 (vlP 0 vlN) (l1 (kT Syntax.kr) (l1 lW kM)))))
@[go_sem]def sK(F:kp->Syntax->kp->(List jS)->Bool->kp->Option (T9×Unit)):=Hp [.arg 0 [],.vC 0 1 []] j5 oO j5 kM (k5 F)
@[go_sem]def n6:=(l5 0 (l1 lW (alB 233 (vlP 0 vlN) (l1 (kT Syntax.kr) (l1 lW kM)))))
@[go_sem]def wB(F:kp->Syntax->kp->(List jS)->Bool->kp->Option (T9×Unit)):=Hp [.arg 0 [],.vC 0 1 []] j5 n6 j5 kM (k5 F)
structure k8 where
 qE:Syntax->(List jS)->Bool->kp->Option (T9×Unit)
 lw:kp->Syntax->kp->(List jS)->Bool->kp->Option (T9×Unit)
 rA:Syntax->(List jS)->Bool->kp->Option (T9×Unit)
 mb:kp->Syntax->kp->(List jS)->Bool->kp->Option (T9×Unit)
 rP:Syntax->(List jS)->Bool->kp->Option (T9×Unit)
 sy:Syntax->(List jS)->Bool->kp->Option (T9×Unit)
 rE:Syntax->(List jS)->Bool->kp->Option (T9×Unit)
 my:kp->Syntax->kp->(List jS)->Bool->kp->Option (T9×Unit)
open Go.Proofs
@[reducible] def Be(X:k8)(n:Nat):kL (T9×Unit):=mU gJ f71 n (xg gJ [] [] [0,1] 2 j5 kM) (cl:=lY [(71,oe X.qE),(131,rZ (tR n)),(132,om X.lw),(133,oe X.rA),(134,oe X.rP)]) (co:=VZ [(132,Jl [.arg 0 [],.vC 0 1 []] j5 nx j5 kM j5 kM (fun(b:T9)(a:(kp×(Unit×(Syntax×(kp×Unit)))))=>(X.lw a.1 a.2.2.1 a.2.2.2.1 b.1.1 b.1.2.1 b.2.1).map fun r=>(PR.ok r:PR (T9×Unit) (T9×Unit))))]) (tI:=lS [132]) (tX:=lS [])
@[go_sem]def aic(X:k8)(n:Nat):an0 (Be X n) [0,0,1,1,1,1,1,0,1,1,1,1] [1,1,0,0,1,0,1,1,1,1]:=⟨jO,jO⟩
@[go_sem]def aid(X:k8)(n:Nat):vL (Be X n) [0,0,1,1,1,1,1,0,1,1,1,1] 2 11 8 11 9 11 10 11/\vL (Be X n) [1,1,0,0,1,0,1,1,1,1] 2 11 8 11 9 11 10 11:=⟨⟨jO,jO,jO,jO⟩,jO,jO,jO,jO⟩
def Gs(X:k8)(n:Nat):SX (Be X n) (l5 0 (l1 (kT Syntax.kr) kM)) j5 120 mD:=mC2
open Go.Proofs
@[reducible] def D8(X:k8)(n:Nat):kL (T9×Unit):=mU gJ f132 n (xg gJ [] [] [0,1] 2 j5 kM) (cl:=lY [(71,oe X.qE),(131,rZ (tR n))])
def rU(X:k8)(n:Nat):SX (D8 X n) nx j5 21 k5:=mC
open Go.Proofs
@[reducible] def ael(X:k8)(n:Nat):kL (T9×Unit):=mU gJ f133 n (xg gJ [] [] [0,1] 2 j5 kM) (cl:=lY [(132,WM (om X.lw) (sK X.mb)),(134,oe X.rP)])
def DP(X:k8)(n:Nat):SX (ael X n) (l5 0 (l1 (kT Syntax.kr) kM)) j5 51 mD:=mC
open Go.Proofs
@[reducible] def FL(X:k8)(n:Nat):kL (T9×Unit):=mU gJ f132 n (xg gJ [] [] [0,1] 2 j5 kM) (cl:=lY [(131,rZ (tR n)),(134,oe X.rP)])
def sL(X:k8)(n:Nat):SX (FL X n) oO j5 21 k5:=mC
open Go.Proofs
@[go_sem]def SS:sN:=⟨[],[],(zK::lH (lH (zT (lz Syntax.row)::zK::zK::lH (lH (l8 (zA::[])))))),[oC [zK,zK,zT (lz jS.row),zK],oY],none,none⟩
@[reducible] def VP(X:k8)(n:Nat):kL (T9×Unit):=mU gJ f134 n (xg gJ [] [] [0,1] 2 j5 kM) (cl:=lY [(127,nh (li .i64) mh (Ra n)),(131,rZ (tR n)),(132,WM (om X.lw) (sK X.mb)),(188,OS (SQ n)),(189,oe X.sy)]) (p4:=nR [([0,1,1,1,1,1,1],SS)])
@[go_sem]abbrev SU(v0:List Syntax)(v1 v2:Int)(v3:List jS)(v4:Bool)(r1:kp)(c1:Nat):jT:=⟨(.ptr 0 0::lM (lM (.kJ false 8 (mp Syntax.cells v0)::.int .i64 v1::.int .i64 v2::lM (lM (mc (qA::[])))))),[.cells [.sn 141 0,.lV 1 c1,.kJ false 4 (mp jS.cells v3),.bool v4],.alT (sb r1)],2,[]⟩
abbrev SV:=(List Syntax)->Int->Int->(List jS)->Bool->kp->Option (T9×Unit)
abbrev akY(X:k8)(n:Nat)(K:List Kt)(Z:SV):Prop:=∀v0 v1 v2 v3 v4 r1 c1,c1=r1.length->run (VP X n) K (SU v0 v1 v2 v3 v4 r1 c1)=Z v0 v1 v2 v3 v4 r1
def Iz(X:k8)(n:Nat):LB (akY X n) [0,1,1,1,1,1,1] [.pF 0]:=mB
def IA(X:k8)(n:Nat):Nat->SV:=sR ((Iz X n).1)
def aAU(X:k8){n:Nat}:IA X n (m+1)=(Iz X n).1 (IA X n m):=rfl
@[go_sem]def aem(X:k8)(n:Nat)(m:Nat):=ud (Iz X n) (IA X n) m
def JW(X:k8)(n:Nat):SX (VP X n) (l5 0 (l1 (kT Syntax.kr) kM)) j5 73 mD:=mC
open Go.Proofs
@[reducible] def akZ(X:k8)(n:Nat):kL (T9×Unit):=mU gJ f189 n (xg gJ [] [] [0,1] 2 j5 kM) (cl:=lY [(131,rZ (tR n)),(189,oe X.sy),(233,oe X.rE),(234,nh (kT jZ.kr) lW (aa2 n)),(235,nr lW lW mh (strings_ContainsAny n))])
def IB(X:k8)(n:Nat):SX (akZ X n) (l5 0 (l1 (kT Syntax.kr) kM)) j5 62 mD:=mC
open Go.Proofs
@[go_sem]def OX:sN:=⟨[(4,1,true)],[],(zK::zA::zA::zA::zK::lH (l8 (l8 (zA::zA::zA::zT (lz jZ.row)::zK::zK::ux (lH (lH (l8 (l8 (zA::[]))))))))),[oC [zK,zK,zT (lz jS.row),zK],oY,oD,oA kW],none,none⟩
@[reducible] def Qb(X:k8)(n:Nat):kL (T9×Unit):=mU gJ f233 n (xg gJ [] [] [0,1] 2 j5 kM) (cl:=lY [(131,rZ (tR n)),(132,WM (wB X.my) (om X.lw)),(170,nh (li .i64) lW (strconv_Itoa n)),(234,nh (kT jZ.kr) lW (aa2 n)),(260,nr (lz kW) lW lW (strings_Join n))]) (p4:=nR [([0,1,0,1,1,1,0,1,0,1,1,1],OX)])
@[go_sem]abbrev OY(v0:List jZ)(v1 v2:Int)(v3:List jS)(v4:Bool)(r1:kp)(r3:List kp)(c1:Nat)(c3:Nat):jT:=⟨(.ptr 0 0::qA::qA::qA::.lV 3 c3::lM (mc (mc (qA::qA::qA::.kJ false 2 (mp jZ.cells v0)::.int .i64 v1::.int .i64 v2::uw (lM (lM (mc (mc (qA::[]))))))))),[.cells [.sn 141 0,.lV 1 c1,.kJ false 4 (mp jS.cells v3),.bool v4],.alT (sb r1),.vz,.lV true 1 (mp kS r3)],2,[]⟩
@[go_sem]abbrev OZ:List Kt:=[.pF 1,.cut [1,1,1,1,0,1,0,1,1,1],.at [1,1,1,1,0,1,0,1,1,1],.pF 0]
abbrev aTe:=Tj->Int->Int->(List jS)->Bool->kp->(List kp)->Option (T9×Unit)
abbrev agf(X:k8)(n:Nat)(K:List Kt)(Z:aTe):Prop:=∀v0 v1 v2 v3 v4 r1 r3 c1 c3,c1=r1.length->c3=r3.length->run (Qb X n) K (OY v0 v1 v2 v3 v4 r1 r3 c1 c3)=Z v0 v1 v2 v3 v4 r1 r3
def E7(X:k8)(n:Nat):LB (agf X n) [0,1,0,1,1,1,0,1,0,1,1,1] OZ:=mB
def E8(X:k8)(n:Nat):Nat->aTe:=sR ((E7 X n).1)
def ayd(X:k8){n:Nat}:E8 X n (m+1)=(E7 X n).1 (E8 X n m):=rfl
@[go_sem]def Zb(X:k8)(n:Nat)(m:Nat):=ud (E7 X n) (E8 X n) m
def Gt(X:k8)(n:Nat):SX (Qb X n) (l5 0 (l1 (kT Syntax.kr) kM)) j5 140 mD:=mC
open Go.Proofs
@[reducible] def D9(X:k8)(n:Nat):kL (T9×Unit):=mU gJ f132 n (xg gJ [] [] [0,1] 2 j5 kM) (cl:=lY [(131,rZ (tR n)),(233,oe X.rE)])
def rV(X:k8)(n:Nat):SX (D9 X n) n6 j5 21 k5:=mC
open Go.Proofs
def kv:Nat->k8
 |0=>⟨Fu.z,Fu.z,Fu.z,Fu.z,Fu.z,Fu.z,Fu.z,Fu.z⟩
 |n+1=>⟨(Gs (kv n) n).1,(rU (kv n) n).1,(DP (kv n) n).1,(sL (kv n) n).1,(JW (kv n) n).1,(IB (kv n) n).1,(Gt (kv n) n).1,(rV (kv n) n).1⟩
def qE:Syntax->(List jS)->Bool->kp->Option (T9×Unit):=(kv n).qE
def aBo{n:Nat}:qE (n+1)=(Gs (kv n) n).1:=rfl
def lw:kp->Syntax->kp->(List jS)->Bool->kp->Option (T9×Unit):=(kv n).lw
def aeJ{n:Nat}:lw (n+1)=(rU (kv n) n).1:=rfl
def rA:Syntax->(List jS)->Bool->kp->Option (T9×Unit):=(kv n).rA
def azg{n:Nat}:rA (n+1)=(DP (kv n) n).1:=rfl
def mb:kp->Syntax->kp->(List jS)->Bool->kp->Option (T9×Unit):=(kv n).mb
def ahC{n:Nat}:mb (n+1)=(sL (kv n) n).1:=rfl
def rP:Syntax->(List jS)->Bool->kp->Option (T9×Unit):=(kv n).rP
def aEg{n:Nat}:rP (n+1)=(JW (kv n) n).1:=rfl
def sy:Syntax->(List jS)->Bool->kp->Option (T9×Unit):=(kv n).sy
def aDL{n:Nat}:sy (n+1)=(IB (kv n) n).1:=rfl
def rE:Syntax->(List jS)->Bool->kp->Option (T9×Unit):=(kv n).rE
def aBp{n:Nat}:rE (n+1)=(Gt (kv n) n).1:=rfl
def my:kp->Syntax->kp->(List jS)->Bool->kp->Option (T9×Unit):=(kv n).my
def aeK{n:Nat}:my (n+1)=(rV (kv n) n).1:=rfl
def aAV{n:Nat}:(kv n).qE=qE n/\(kv n).lw=lw n/\(kv n).rA=rA n/\(kv n).mb=mb n/\(kv n).rP=rP n/\(kv n).sy=sy n/\(kv n).rE=rE n/\(kv n).my=my n:=⟨rfl,rfl,rfl,rfl,rfl,rfl,rfl,rfl⟩
def pR:∀n:Nat,zD gJ 71 (l5 0 (l1 (kT Syntax.kr) kM)) j5 j5 kM (mD (kv n).qE)/\zD gJ 132 nx j5 j5 kM (k5 (kv n).lw)/\zD gJ 133 (l5 0 (l1 (kT Syntax.kr) kM)) j5 j5 kM (mD (kv n).rA)/\zD gJ 132 oO j5 j5 kM (k5 (kv n).mb)/\zD gJ 134 (l5 0 (l1 (kT Syntax.kr) kM)) j5 j5 kM (mD (kv n).rP)/\zD gJ 189 (l5 0 (l1 (kT Syntax.kr) kM)) j5 j5 kM (mD (kv n).sy)/\zD gJ 233 (l5 0 (l1 (kT Syntax.kr) kM)) j5 j5 kM (mD (kv n).rE)/\zD gJ 132 n6 j5 j5 kM (k5 (kv n).my)
 |0=>⟨fun _ _ _ h=>(by cases h),fun _ _ _ h=>(by cases h),fun _ _ _ h=>(by cases h),fun _ _ _ h=>(by cases h),fun _ _ _ h=>(by cases h),fun _ _ _ h=>(by cases h),fun _ _ _ h=>(by cases h),fun _ _ _ h=>(by cases h)⟩
 |n+1=>by
  obtain⟨aTf,n7,ab0,w9,IC,Qc,aTg,DQ⟩:=pR n
  exact⟨G6 (Gs (kv n) n) (gd (jR (mY (aTf)) (jR (mY (s4 n)) (jR (mY (n7)) (jR (mY (ab0)) (jR (mY (IC)) jU))))) jV (c:=(nS (avE (n7)) tK))) func71 ntmps71 results71,
   G6 (rU (kv n) n) (gd (jR (mY (aTf)) (jR (mY (s4 n)) jU)) jV) func132 ntmps132 results132,
   G6 (DP (kv n) n) (gd (jR (acv (mY (n7)) (mY (w9))) (jR (mY (IC)) jU)) jV) func133 ntmps133 results133,
   G6 (sL (kv n) n) (gd (jR (mY (s4 n)) (jR (mY (IC)) jU)) jV) func132 ntmps132 results132,
   G6 (JW (kv n) n) (gd (jR (lA (QE n)) (jR (mY (s4 n)) (jR (acv (mY (n7)) (mY (w9))) (jR (mY (aej n)) (jR (mY (Qc)) jU))))) jV) func134 ntmps134 results134,
   G6 (IB (kv n) n) (gd (jR (mY (s4 n)) (jR (mY (Qc)) (jR (mY (aTg)) (jR (lA (acQ n)) (jR (lj (afO n)) jU))))) jV) func189 ntmps189 results189,
   G6 (Gt (kv n) n) (gd (jR (mY (s4 n)) (jR (acv (mY (DQ)) (mY (n7))) (jR (lA (K3 n)) (jR (lA (acQ n)) (jR (lj (Ul n)) jU))))) jV) func233 ntmps233 results233,
   G6 (rV (kv n) n) (gd (jR (mY (s4 n)) (jR (mY (aTg)) jU)) jV) func132 ntmps132 results132⟩
def agh:zD gJ 71 (l5 0 (l1 (kT Syntax.kr) kM)) j5 j5 kM (mD (qE n)):=(pR n).1
def aen:zD gJ 132 nx j5 j5 kM (k5 (lw n)):=(pR n).2.1
def aye:zD gJ 133 (l5 0 (l1 (kT Syntax.kr) kM)) j5 j5 kM (mD (rA n)):=(pR n).2.2.1
def agi:zD gJ 132 oO j5 j5 kM (k5 (mb n)):=(pR n).2.2.2.1
def aDM:zD gJ 134 (l5 0 (l1 (kT Syntax.kr) kM)) j5 j5 kM (mD (rP n)):=(pR n).2.2.2.2.1
def aBq:zD gJ 189 (l5 0 (l1 (kT Syntax.kr) kM)) j5 j5 kM (mD (sy n)):=(pR n).2.2.2.2.2.1
def aAW:zD gJ 233 (l5 0 (l1 (kT Syntax.kr) kM)) j5 j5 kM (mD (rE n)):=(pR n).2.2.2.2.2.2.1
def aeo:zD gJ 132 n6 j5 j5 kM (k5 (my n)):=(pR n).2.2.2.2.2.2.2
open Go.Proofs
@[go_sem]abbrev lf(F:jQ->Option Td)(b:T6)(a:Unit):=F b.1.1
@[go_sem]def nD(F:jQ->Option Td):=xE true [.arg 0 []] jP (l5 0 kM) jP (l1 (kT Syntax.kr) kM) jP j3 (lf F)
@[go_sem]abbrev pY(F:Int->jQ->Option Td)(b:T6)(a:(Int×Unit)):=F a.1 b.1.1
@[go_sem]def CN(F:Int->jQ->Option Td):=xE true [.arg 0 []] jP (l5 0 (l1 (li .i64) kM)) jP (l1 (kT Syntax.kr) kM) jP j3 (pY F)
@[go_sem]abbrev ut(F:kp->kp->jQ->Option Tz)(b:T6)(a:(kp×(kp×Unit))):=F a.1 a.2.1 b.1.1
@[go_sem]def aTh(F:kp->kp->jQ->Option Tz):=xE true [.arg 0 []] jP (l5 0 (l1 lW (l1 lW kM))) jP (l1 (lz ke.row) kM) jP j3 (ut F)
@[go_sem]abbrev xa(F:Syntax->jQ->Option Td)(b:T6)(a:(Syntax×Unit)):=F a.1 b.1.1
@[go_sem]def aTi(F:Syntax->jQ->Option Td):=xE true [.arg 0 []] jP (l5 0 (l1 (kT Syntax.kr) kM)) jP (l1 (kT Syntax.kr) kM) jP j3 (xa F)
@[go_sem]def kX:=(tg (Bl (VX jQ.kr 6 kM)) (tg (Bl (VX Syntax.kr 8 kM)) Bi))
@[go_sem]abbrev pH(F:jQ->Syntax->Option Th)(b:(Te×((Syntax×Unit)×Unit)))(a:Unit):=F b.1.1 b.2.1.1
@[go_sem]def yw(F:jQ->Syntax->Option Th):=xE true [.arg 0 [],.arg 1 []] kX (l5 0 (l5 1 kM)) kX kM kX j3 (pH F)
@[go_sem]abbrev wg(F:jQ->Option TQ)(b:T6)(a:Unit):=F b.1.1
@[go_sem]def DR(F:jQ->Option TQ):=xE true [.arg 0 []] jP (l5 0 kM) jP (l1 (lz Syntax.row) kM) jP j3 (wg F)
@[go_sem]def sQ:=(l5 0 (l1 (kT Syntax.kr) (l1 (lz ke.row) (l1 lW kM))))
@[go_sem]abbrev tE(F:Syntax->TG->kp->jQ->Option Td)(b:T6)(a:(Syntax×(TG×(kp×Unit)))):=F a.1 a.2.1 a.2.2.1 b.1.1
@[go_sem]def aep(F:Syntax->TG->kp->jQ->Option Td):=xE true [.arg 0 []] jP sQ jP (l1 (kT Syntax.kr) kM) jP j3 (tE F)
structure j1 where
 nO:jQ->Option Td
 uL:Int->jQ->Option Td
 qW:kp->kp->jQ->Option Tz
 uM:Int->jQ->Option Td
 sU:Int->jQ->Option Td
 wh:jQ->Option Td
 tU:jQ->Option Td
 uN:jQ->Option Td
 tV:jQ->Option Td
 sV:jQ->Option Td
 si:Syntax->jQ->Option Td
 tW:jQ->Syntax->Option Th
 qu:jQ->Option TQ
 pI:jQ->Option Td
 qX:jQ->Option Td
 rF:jQ->Syntax->Option Th
 sW:jQ->Syntax->Option Th
 rB:Syntax->TG->kp->jQ->Option Td
open Go.Proofs
@[reducible] def lO(X:j1)(n:Nat):kL Td:=mU gJ f44 n (avF (WQ [(83,Ps [.arg 0 [],.vC 0 0 []] lJ (l5 0 kM) lJ kM (fun(b:(Unit×T6))(a:Unit)=>(Da n) b.2.1.1))]) (qM gJ [.cell 2 37] [] [0] 1 jP (l1 (kT Syntax.kr) kM)) (qN [] [0] 1 jP j3)) (cl:=lY [(84,D5 (oV (nh (uO jQ.kr) (li .i64) (vG n)))),(85,D5 (oV (Qw (uO jQ.kr) (li .i64) lW mh (An n)))),(88,zh [0] (tY (AA jQ.kr) rW) (YH 0 Ho) (tY (AA jQ.kr) rW) (Ui lW Fj) (fun(b:Te) a=>(ni n) b.1)),(91,D5 (oV (nr (uO jQ.kr) lW mh (qe n))))]) (q6:=avG (WQ [(83,Ps [.arg 0 [],.vC 0 0 []] lJ (l5 0 kM) lJ kM (fun(b:(Unit×T6))(a:Unit)=>(Da n) b.2.1.1))]) (qM gJ [.cell 2 37] [] [0] 1 jP (l1 (kT Syntax.kr) kM)) (qN [] [0] 1 jP j3)) (co:=VZ [(82,Jl [.arg 0 []] jP (l5 0 (l1 (li .i64) kM)) jP kM jP j3 (p8 (nX n))),(89,Jl [.arg 0 []] jP sQ jP (l1 (kT Syntax.kr) kM) jP j3 (tE X.rB)),(90,Jl [.arg 0 []] jP (l5 0 (l1 lW (l1 lW kM))) jP (l1 (lz ke.row) kM) jP j3 (ut X.qW))]) (cp:=AC [(86,CN X.uL),(87,CN X.uM),(92,CN X.sU)]) (wD:=lS [86,87,92]) (tI:=lS [82,89,90]) (tX:=lS [])
def ak0(X:j1)(n:Nat):aF3 (lO X n) [0,0,1,1,1,1,1,1,1,0,0,1,1,1,1,1] [0,0,1,1,1,1,1,1,1,1,1,0,0,1,1,1,1,1] [0,1] [0,1,0,1,1,1,1,1,0,0,1,1,1,1,1]:=⟨jO,jO,jO,jO⟩
def ak1(X:j1)(n:Nat):vL (lO X n) [0,0,1,1,1,1,1,1,1,0,0,1,1,1,1,1] 3 4 0 5 3 5 4 5/\vL (lO X n) [0,0,1,1,1,1,1,1,1,0,0,1,1,1,1,1] 0 6 3 6 4 6 5 6/\vL (lO X n) [0,0,1,1,1,1,1,1,1,1,1,0,0,1,1,1,1,1] 3 4 0 5 3 5 4 5/\vL (lO X n) [0,0,1,1,1,1,1,1,1,1,1,0,0,1,1,1,1,1] 0 6 3 6 4 6 5 6/\avI (lO X n) [0,1] 0 7 3 7 6 7/\vL (lO X n) [0,1,0,1,1,1,1,1,0,0,1,1,1,1,1] 3 4 0 5 3 5 4 5/\vL (lO X n) [0,1,0,1,1,1,1,1,0,0,1,1,1,1,1] 0 6 3 6 4 6 5 6:=⟨⟨jO,jO,jO,jO⟩,⟨jO,jO,jO,jO⟩,⟨jO,jO,jO,jO⟩,⟨jO,jO,jO,jO⟩,⟨jO,jO,jO⟩,⟨jO,jO,jO,jO⟩,jO,jO,jO,jO⟩
def ak2(X:j1)(n:Nat):Pj (lO X n) [0,0,1,1,1,1,1,1,1,0,0,1,1,1,1,1] 4 5=true/\Pj (lO X n) [0,0,1,1,1,1,1,1,1,0,0,1,1,1,1,1] 4 6=true/\Pj (lO X n) [0,0,1,1,1,1,1,1,1,1,1,0,0,1,1,1,1,1] 4 5=true/\Pj (lO X n) [0,0,1,1,1,1,1,1,1,1,1,0,0,1,1,1,1,1] 4 6=true/\Pj (lO X n) [0,1,0,1,1,1,1,1,0,0,1,1,1,1,1] 4 5=true/\Pj (lO X n) [0,1,0,1,1,1,1,1,0,0,1,1,1,1,1] 4 6=true/\aaE (lO X n) [0,0,1,1,1,1,1,1,1,0,0,1,1,1,1,1] 4=false/\aaE (lO X n) [0,0,1,1,1,1,1,1,1,0,0,1,1,1,1,1] 5=true/\aaE (lO X n) [0,0,1,1,1,1,1,1,1,1,1,0,0,1,1,1,1,1] 4=false/\aaE (lO X n) [0,0,1,1,1,1,1,1,1,1,1,0,0,1,1,1,1,1] 5=true/\aaE (lO X n) [0,1] 7=true/\aaE (lO X n) [0,1,0,1,1,1,1,1,0,0,1,1,1,1,1] 4=false/\aaE (lO X n) [0,1,0,1,1,1,1,1,0,0,1,1,1,1,1] 5=true:=⟨jO,jO,jO,jO,jO,jO,jO,jO,jO,jO,jO,jO,jO⟩
attribute [go_sem] ak0 ak1 ak2
def ID(X:j1)(n:Nat):SX (lO X n) (l5 0 kM) jP 80 lf:=mC2
open Go.Proofs
@[go_sem]def SW:sN:=⟨[(5,9,true)],[],(zK::zK::zA::zA::zK::zK::zK::lH (lH (lH (zA::zA::[])))),[oT jQ.kr,oK,oA ke.row],none,none⟩
@[reducible] def VQ(X:j1)(n:Nat):kL Td:=mU gJ f86 n (qM gJ [.cell 4 37] [] [0] 1 jP (l1 (kT Syntax.kr) kM)) (cl:=lY [(88,zh [0] (tY (AA jQ.kr) rW) (YH 0 Ho) (tY (AA jQ.kr) rW) (Ui lW Fj) (fun(b:Te) a=>(ni n) b.1)),(91,D5 (oV (nr (uO jQ.kr) lW mh (qe n)))),(150,zh [0] (tY (AA jQ.kr) rW) (YH 0 Ho) (tY (AA jQ.kr) rW) (Ui (kT Syntax.kr) Fj) (fun(b:Te) a=>(Lt n) b.1)),(152,Qw (kT Syntax.kr) (lz ke.row) (kT Syntax.kr) (kT Syntax.kr) (Z4 n))]) (p4:=nR [([0,1,0,1,1,1],SW)]) (q6:=qN [] [0] 1 jP j3) (cp:=AC [(44,nD X.nO),(82,mi (nX n)),(90,aTh X.qW),(149,ow (um n)),(151,pG (ql n))]) (wD:=lS [44,82,90,149,151])
@[go_sem]abbrev SY(v0 v1:Int)(o0:jQ)(r2:List ke)(c2:Nat):jT:=⟨(.ptr 0 0::.int .i64 v0::qA::qA::.ptr 1 0::.lV 2 c2::.int .i64 v1::lM (lM (lM (qA::qA::[])))),[.cells (jQ.cells o0),.cells [.int .i64 0,.str (sb []),.int .i64 0,.kJ true 0 [],.kJ true 0 [],.kJ true 0 [],.int .i64 0,.int .i64 0],.lV true 9 (mp ke.cells r2)],1,[]⟩
abbrev SZ:=Int->Int->jQ->TG->Option Td
abbrev ak3(X:j1)(n:Nat)(K:List Kt)(Z:SZ):Prop:=∀v0 v1 o0 r2 c2,c2=r2.length->run (VQ X n) K (SY v0 v1 o0 r2 c2)=Z v0 v1 o0 r2
def IE(X:j1)(n:Nat):LB (ak3 X n) [0,1,0,1,1,1] [.pF 0,.cut [1,1,1,1],.at [1,1,1,1]]:=mB2
def IF(X:j1)(n:Nat):Nat->SZ:=sR ((IE X n).1)
def aAX(X:j1){n:Nat}:IF X n (m+1)=(IE X n).1 (IF X n m):=rfl
@[go_sem]def aeq(X:j1)(n:Nat)(m:Nat):=ud (IE X n) (IF X n) m
def JX(X:j1)(n:Nat):SX (VQ X n) (l5 0 (l1 (li .i64) kM)) jP 57 pY:=mC2
open Go.Proofs
@[go_sem]def Mu:sN:=⟨[],[],(zK::zK::zK::l8 (zK::lH (lH (l8 (l8 (l8 (zA::zA::[]))))))),[oT jQ.kr,oA kW],none,none⟩
@[go_sem]def KS:sN:=⟨[],[],(zK::zK::zK::l8 (zL kW::lH (lH (l8 (l8 (l8 (zA::zA::[]))))))),[oT jQ.kr],(some 7),none⟩
@[reducible] def Af(X:j1)(n:Nat):kL Tz:=mU gJ f90 n (qM gJ [.tmp 6] [] [0] 1 jP (l1 (lz ke.row) kM)) (cl:=lY [(88,zh [0] (tY (AA jQ.kr) rW) (YH 0 Ho) (tY (AA jQ.kr) rW) (Ui lW Fj) (fun(b:Te) a=>(ni n) b.1)),(154,D5 (oV (nh (uO jQ.kr) mh (yg n)))),(155,nr (lz kW) (kT Syntax.kr) (lz ke.row) (afL n))]) (p4:=nR [([0,0,1,1,1],KS),([0,0,1,1,1],Mu)]) (q6:=qN [] [0] 1 jP j3) (cp:=AC [(44,nD X.nO),(82,mi (nX n)),(149,ow (um n)),(151,pG (ql n))]) (wD:=lS [44,82,149,151])
@[go_sem]abbrev Mv(v0 v1:kp)(o0:jQ)(r1:List kp)(c1:Nat):jT:=⟨(.ptr 0 0::.str (sb v0)::.str (sb v1)::mc (.lV 1 c1::lM (lM (mc (mc (mc (qA::qA::[]))))))),[.cells (jQ.cells o0),.lV true 1 (mp kS r1)],1,[]⟩
abbrev Mw:=kp->kp->jQ->(List kp)->Option Tz
abbrev aer(X:j1)(n:Nat)(K:List Kt)(Z:Mw):Prop:=∀v0 v1 o0 r1 c1,c1=r1.length->run (Af X n) K (Mv v0 v1 o0 r1 c1)=Z v0 v1 o0 r1
def DS(X:j1)(n:Nat):LB (aer X n) [0,0,1,1,1] [.pF 0,.cut [1,1,1,1],.at [1,1,1,1]]:=by
 apply Subtype.mk;intro m X0 ih v0 v1 o0 r1 c1 ec1;subst ec1;simp (config:={maxSteps:=100000000}) only[go_sem,gO,gP,gK,gL,gQ,gR,gT,gU,gV,gN,gS,gW,f90,gM,mixed,ih];exact rfl
def DT(X:j1)(n:Nat):Nat->Mw:=sR ((DS X n).1)
def aw6(X:j1){n:Nat}:DT X n (m+1)=(DS X n).1 (DT X n m):=rfl
def IG(X:j1)(n:Nat)(m:Nat):=ud (DS X n) (DT X n) m
def KT(X:j1)(n:Nat):{B:Nat->kp->kp->(List kp)->jQ->Option Tz //∀(m:Nat)(v0 v1:kp)(v2:List kp)(o0:jQ),run (Af X n) [.at [0,0,0,1,1,1],.lp m [0,0,1,1,1],.pF 0,.cut [1,1,1,1],.at [1,1,1,1]] ⟨[.ptr 0 0,.str (sb v0),.str (sb v1),qA,qA,qA,qA,.kJ true 1 (mp kS v2),qA,qA,qA,qA,qA,qA,qA,qA,qA,qA,qA,qA,qA,qA,qA,qA,qA,qA,qA,qA,qA,qA,qA,qA,qA,qA,qA,qA,qA,qA,qA,qA,qA,qA,qA,qA,qA,qA,qA,qA,qA,qA,qA,qA,qA,qA],[.cells (jQ.cells o0)],1,[]⟩=B m v0 v1 v2 o0}:=by
 apply Subtype.mk;intro m v0 v1 v2 o0;simp (config:={maxSteps:=100000000}) only[go_sem,gO,gP,gK,gL,gQ,gR,gT,gU,gV,gN,gS,gW,f90,gM,mixed,IG X n];exact rfl
def aes(X:j1)(n:Nat):Nat->kp->kp->(List kp)->jQ->Option Tz
 |0,_,_,_,_=>none
 |m+1,v0,v1,v2,o0=>(KT X n).1 m v0 v1 v2 o0
def Yy(X:j1)(n:Nat):∀(m:Nat),(∀(v0 v1:kp)(v2:List kp)(o0:jQ),run (Af X n) [.lq m [0,0,1,1,1],.pF 0,.cut [1,1,1,1],.at [1,1,1,1]] ⟨[.ptr 0 0,.str (sb v0),.str (sb v1),qA,qA,qA,qA,.kJ true 1 (mp kS v2),qA,qA,qA,qA,qA,qA,qA,qA,qA,qA,qA,qA,qA,qA,qA,qA,qA,qA,qA,qA,qA,qA,qA,qA,qA,qA,qA,qA,qA,qA,qA,qA,qA,qA,qA,qA,qA,qA,qA,qA,qA,qA,qA,qA,qA,qA],[.cells (jQ.cells o0)],1,[]⟩=aes X n m v0 v1 v2 o0)
 |0=>by intros;exact LO
 |m+1=>by
  intro v0 v1 v2 o0;rw[Ec];exact(KT X n).2 m v0 v1 v2 o0
def E9(X:j1)(n:Nat):SX (Af X n) (l5 0 (l1 lW (l1 lW kM))) jP 54 ut:=by
 apply Subtype.mk
 repeat (first|refine Prod.forall.2 ?_|intro)
 simp (config:={maxSteps:=100000000}) only[go_sem,gO,gP,gK,gL,gQ,gR,gT,gU,gV,gN,gS,gW,f90,gM,mixed,IG X n,Yy X n];exact rfl
open Go.Proofs
@[reducible] def CP(X:j1)(n:Nat):kL Td:=mU gJ f87 n (qM gJ [.cell 4 37] [] [0] 1 jP (l1 (kT Syntax.kr) kM)) (cl:=lY [(88,zh [0] (tY (AA jQ.kr) rW) (YH 0 Ho) (tY (AA jQ.kr) rW) (Ui lW Fj) (fun(b:Te) a=>(ni n) b.1)),(150,zh [0] (tY (AA jQ.kr) rW) (YH 0 Ho) (tY (AA jQ.kr) rW) (Ui (kT Syntax.kr) Fj) (fun(b:Te) a=>(Lt n) b.1)),(153,zh [0] (tY (AA jQ.kr) rW) (YH 0 (asT lW Ho)) (tY (AA jQ.kr) rW) (Ui mh Fj) (fun(b:Te) a=>(nP n) b.1 a.1))]) (q6:=qN [] [0] 1 jP j3) (cp:=AC [(44,nD X.nO),(149,ow (um n)),(151,pG (ql n))]) (wD:=lS [44,149,151]) (tI:=lS []) (tX:=lS [])
@[go_sem]def amA(X:j1)(n:Nat):qY (CP X n) [0,1,1,1,1,1,1,1,1,1]=true:=jO
@[go_sem]def amB(X:j1)(n:Nat):vL (CP X n) [0,1,1,1,1,1,1,1,1,1] 0 7 1 7 2 7 0 9/\vL (CP X n) [0,1,1,1,1,1,1,1,1,1] 1 9 2 9 5 9 7 9:=⟨⟨jO,jO,jO,jO⟩,jO,jO,jO,jO⟩
def JY(X:j1)(n:Nat):SX (CP X n) (l5 0 (l1 (li .i64) kM)) jP 48 pY:=mC2
open Go.Proofs
@[reducible] def uS(X:j1)(n:Nat):kL Td:=mU gJ f92 n (qM gJ [.cell 4 37] [] [0] 1 jP (l1 (kT Syntax.kr) kM)) (cl:=lY [(153,zh [0] (tY (AA jQ.kr) rW) (YH 0 (asT lW Ho)) (tY (AA jQ.kr) rW) (Ui mh Fj) (fun(b:Te) a=>(nP n) b.1 a.1)),(155,nr (lz kW) (kT Syntax.kr) (lz ke.row) (afL n)),(157,zh [0] (tY (AA jQ.kr) rW) (YH 0 (asT (li .i64) Ho)) (tY (AA jQ.kr) rW) (Ui (lz kW) Fj) (fun(b:Te) a=>(PP n) b.1 a.1))]) (cd:=yA [(152,oV (Qw (kT Syntax.kr) (lz ke.row) (kT Syntax.kr) (kT Syntax.kr) (Z4 n)))]) (q6:=qN [] [0] 1 jP j3) (co:=VZ [(44,Jl [.arg 0 []] jP (l5 0 kM) jP (l1 (kT Syntax.kr) kM) jP j3 (lf X.nO))]) (cp:=AC [(156,nD X.wh)]) (wD:=lS [156]) (tI:=lS [44]) (tX:=lS [])
def aie(X:j1)(n:Nat):qY (uS X n) [0,1,1,1,1,1,1]=true:=jO
def aif(X:j1)(n:Nat):axu (uS X n) [0,1,1,1,1,1,1] 1 7 5 7:=⟨jO,jO⟩
def aig(X:j1)(n:Nat):Pj (uS X n) [0,1,1,1,1,1,1] 5 6=true/\Pj (uS X n) [0,1,1,1,1,1,1] 5 7=true/\aaE (uS X n) [0,1,1,1,1,1,1] 5=false:=⟨jO,jO,jO⟩
attribute [go_sem] aie aif aig
def Gu(X:j1)(n:Nat):SX (uS X n) (l5 0 (l1 (li .i64) kM)) jP 55 pY:=mC2
open Go.Proofs
@[go_sem]def VR:sN:=⟨[(3,8,true)],[],(zK::zA::zK::zK::ux (l8 (l8 (l8 [])))),[oT jQ.kr,oK,oA Syntax.row],none,none⟩
@[reducible] def Yz(X:j1)(n:Nat):kL Td:=mU gJ f156 n (qM gJ [.cell 2 37] [] [0] 1 jP (l1 (kT Syntax.kr) kM)) (cl:=lY [(209,D5 (oV (nh (uO jQ.kr) mh (ES n)))),(210,D5 (oV (nh (uO jQ.kr) mh (Ib n)))),(212,nr (lz jS.row) (lz Syntax.row) (ty3 (kT Syntax.kr) (li .i64) (li .i64)) (akX n))]) (p4:=nR [([0,0,1,1],VR)]) (q6:=qN [] [0] 1 jP j3) (cp:=AC [(82,mi (nX n)),(93,sw (qf n)),(148,mi (vP n)),(211,nD X.tU)]) (wD:=lS [82,93,148,211])
@[go_sem]abbrev VS(o0:jQ)(r2:List Syntax)(c2:Nat):jT:=⟨(.ptr 0 0::qA::.ptr 1 0::.lV 2 c2::uw (mc (mc (mc [])))),[.cells (jQ.cells o0),.cells [.int .i64 0,.str (sb []),.int .i64 0,.kJ true 0 [],.kJ true 0 [],.kJ true 0 [],.int .i64 0,.int .i64 0],.lV true 8 (mp Syntax.cells r2)],1,[]⟩
abbrev VT:=jQ->(List Syntax)->Option Td
abbrev amC(X:j1)(n:Nat)(K:List Kt)(Z:VT):Prop:=∀o0 r2 c2,c2=r2.length->run (Yz X n) K (VS o0 r2 c2)=Z o0 r2
def JZ(X:j1)(n:Nat):LB (amC X n) [0,0,1,1] [.pF 0,.cut [1,1,1],.at [1,1,1]]:=mB2
def alC(X:j1)(n:Nat):Nat->VT:=sR ((JZ X n).1)
def aBr(X:j1){n:Nat}:alC X n (m+1)=(JZ X n).1 (alC X n m):=rfl
@[go_sem]def agj(X:j1)(n:Nat)(m:Nat):=ud (JZ X n) (alC X n) m
def LC(X:j1)(n:Nat):SX (Yz X n) (l5 0 kM) jP 80 lf:=mC2
open Go.Proofs
@[reducible] def ak4(X:j1)(n:Nat):kL Td:=mU gJ f211 n (qM gJ [.cell 2 37] [] [0] 1 jP (l1 (kT Syntax.kr) kM)) (cl:=lY [(84,D5 (oV (nh (uO jQ.kr) (li .i64) (vG n)))),(88,zh [0] (tY (AA jQ.kr) rW) (YH 0 Ho) (tY (AA jQ.kr) rW) (Ui lW Fj) (fun(b:Te) a=>(ni n) b.1)),(205,D5 (oV (nh (uO jQ.kr) (li .i64) (uJ n)))),(209,D5 (oV (nh (uO jQ.kr) mh (ES n))))]) (q6:=qN [] [0] 1 jP j3) (cp:=AC [(250,nD X.uN)]) (wD:=lS [250])
def II(X:j1)(n:Nat):SX (ak4 X n) (l5 0 kM) jP 25 lf:=mC2
open Go.Proofs
@[go_sem]def S6:sN:=⟨[],[],(zK::zA::zK::zK::zK::lH (l8 (zA::zA::zA::[]))),[oT jQ.kr,oK,oT Syntax.kr],none,none⟩
@[reducible] def VU(X:j1)(n:Nat):kL Td:=mU gJ f250 n (qM gJ [.cell 2 37] [] [0] 1 jP (l1 (kT Syntax.kr) kM)) (cl:=lY [(210,D5 (oV (nh (uO jQ.kr) mh (Ib n))))]) (p4:=nR [([0,1,0,1,1],S6)]) (q6:=qN [] [0] 1 jP j3) (cp:=AC [(82,mi (nX n)),(282,nD X.tV)]) (wD:=lS [82,282])
@[go_sem]abbrev S7(v0:Int)(o0:jQ)(o2:Syntax):jT:=⟨(.ptr 0 0::qA::.ptr 1 0::.ptr 2 0::.int .i64 v0::lM (mc (qA::qA::qA::[]))),[.cells (jQ.cells o0),.cells [.int .i64 0,.str (sb []),.int .i64 0,.kJ true 0 [],.kJ true 0 [],.kJ true 0 [],.int .i64 0,.int .i64 0],.cells (Syntax.cells o2)],1,[]⟩
abbrev wi:=Int->jQ->Syntax->Option Td
abbrev ak5(X:j1)(n:Nat)(K:List Kt)(Z:wi):Prop:=∀v0 o0 o2,run (VU X n) K (S7 v0 o0 o2)=Z v0 o0 o2
def IJ(X:j1)(n:Nat):LB (ak5 X n) [0,1,0,1,1] [.pF 0,.cut [1,1,1],.at [1,1,1]]:=mB2
def IK(X:j1)(n:Nat):Nat->wi:=sR ((IJ X n).1)
def aAY(X:j1){n:Nat}:IK X n (m+1)=(IJ X n).1 (IK X n m):=rfl
@[go_sem]def aet(X:j1)(n:Nat)(m:Nat):=ud (IJ X n) (IK X n) m
def alM(X:j1)(n:Nat):SX (VU X n) (l5 0 kM) jP 28 lf:=mC2
open Go.Proofs
def Qd:sN:=⟨[],[],(zK::zA::zK::zK::zK::lH (lH (l8 []))),[oT jQ.kr,oK,oT Syntax.kr],none,none⟩
@[reducible] def BW(X:j1)(n:Nat):kL Td:=mU gJ f282 n (qM gJ [.cell 2 37] [] [0] 1 jP (l1 (kT Syntax.kr) kM)) (cl:=lY [(88,zh [0] (tY (AA jQ.kr) rW) (YH 0 Ho) (tY (AA jQ.kr) rW) (Ui lW Fj) (fun(b:Te) a=>(ni n) b.1)),(91,D5 (oV (nr (uO jQ.kr) lW mh (qe n))))]) (p4:=nR [([0,1,0,1,1],Qd)]) (q6:=qN [] [0] 1 jP j3) (co:=VZ [(205,agF (oV (nh (uO jQ.kr) (li .i64) (uJ n))))]) (cp:=AC [(82,mi (nX n)),(304,nD X.sV)]) (wD:=lS [82,304]) (tI:=lS [205]) (tX:=lS [])
def ak6(X:j1)(n:Nat):qY (BW X n) [1,1,1,0,0,1,0,0,1,0,1,1]=true:=jO
def ak7(X:j1)(n:Nat):avI (BW X n) [1,1,1,0,0,1,0,0,1,0,1,1] 1 10 4 10 8 10:=⟨jO,jO,jO⟩
attribute [go_sem] ak6 ak7 Qd
@[go_sem]abbrev Qe(v0:Int)(o0:jQ)(o2:Syntax):jT:=⟨(.ptr 0 0::qA::.ptr 1 0::.ptr 2 0::.int .i64 v0::lM (lM (mc []))),[.cells (jQ.cells o0),.cells [.int .i64 0,.str (sb []),.int .i64 0,.kJ true 0 [],.kJ true 0 [],.kJ true 0 [],.int .i64 0,.int .i64 0],.cells (Syntax.cells o2)],1,[]⟩
abbrev aih(X:j1)(n:Nat)(K:List Kt)(Z:wi):Prop:=∀v0 o0 o2,run (BW X n) K (Qe v0 o0 o2)=Z v0 o0 o2
def Gv(X:j1)(n:Nat):LB (aih X n) [0,1,0,1,1] [.pF 0,.cut [1,1,1],.at [1,1,1]]:=mB2
def Gw(X:j1)(n:Nat):Nat->wi:=sR ((Gv X n).1)
def azh(X:j1){n:Nat}:Gw X n (m+1)=(Gv X n).1 (Gw X n m):=rfl
@[go_sem]def ab1(X:j1)(n:Nat)(m:Nat):=ud (Gv X n) (Gw X n) m
def IL(X:j1)(n:Nat):SX (BW X n) (l5 0 kM) jP 41 lf:=mC2
open Go.Proofs
@[reducible] def aii(X:j1)(n:Nat):kL Td:=mU gJ f304 n (qM gJ [.cell 2 37] [] [0] 1 jP (l1 (kT Syntax.kr) kM)) (cl:=lY [(84,D5 (oV (nh (uO jQ.kr) (li .i64) (vG n)))),(153,zh [0] (tY (AA jQ.kr) rW) (YH 0 (asT lW Ho)) (tY (AA jQ.kr) rW) (Ui mh Fj) (fun(b:Te) a=>(nP n) b.1 a.1)),(205,D5 (oV (nh (uO jQ.kr) (li .i64) (uJ n))))]) (q6:=qN [] [0] 1 jP j3) (cp:=AC [(319,aTi X.si),(320,yw X.tW)]) (wD:=lS [319,320])
def Gx(X:j1)(n:Nat):SX (aii X n) (l5 0 kM) jP 24 lf:=mC2
open Go.Proofs
def Mx:sN:=⟨[],[],(zK::zA::zA::zK::zK::zA::zK::zK::zK::ux (lH (l8 (l8 (zA::zA::zA::[]))))),[oT jQ.kr,oT Syntax.kr,oK,oD,oA Syntax.row,oT Syntax.kr],none,none⟩
def My:sN:=⟨[],[],(zK::zA::zA::zK::zK::zA::zK::ux (lH (l8 (l8 (l8 (zA::[])))))),[oT jQ.kr,oT Syntax.kr,oK,oD,oA Syntax.row],none,none⟩
@[reducible] def mQ(X:j1)(n:Nat):kL Td:=mU gJ f319 n (qM gJ [.cell 4 37] [] [0] 1 jP (l1 (kT Syntax.kr) kM)) (cl:=lY [(153,zh [0] (tY (AA jQ.kr) rW) (YH 0 (asT lW Ho)) (tY (AA jQ.kr) rW) (Ui mh Fj) (fun(b:Te) a=>(nP n) b.1 a.1)),(205,D5 (oV (nh (uO jQ.kr) (li .i64) (uJ n))))]) (p4:=nR [([0,1,0,1,1,1,1,1,1,1,1],Mx),([0,0,1,1,1,1,1],My)]) (q6:=qN [] [0] 1 jP j3) (co:=VZ [(44,Jl [.arg 0 []] jP (l5 0 kM) jP (l1 (kT Syntax.kr) kM) jP j3 (lf X.nO)),(91,agF (oV (nr (uO jQ.kr) lW mh (qe n)))),(93,Jl [.arg 0 []] jP (l5 0 (l1 mh kM)) jP kM jP j3 (sv (qf n))),(205,agF (oV (nh (uO jQ.kr) (li .i64) (uJ n))))]) (cp:=AC [(44,nD X.nO),(82,mi (nX n)),(151,pG (ql n))]) (wD:=lS [44,82,151]) (tI:=lS [44,91,93,205]) (tX:=lS [])
def agk(X:j1)(n:Nat):aKF (mQ X n) [0,0,1,0,0,1,0,1,1,1,1,1,1,1,1] [0,0,1,1,1,0,0,1,1] [0,1,1,1]:=⟨jO,jO,jO⟩
def agl(X:j1)(n:Nat):vL (mQ X n) [0,0,1,0,0,1,0,1,1,1,1,1,1,1,1] 2 16 3 16 4 16 8 16/\axu (mQ X n) [0,0,1,0,0,1,0,1,1,1,1,1,1,1,1] 10 16 14 16/\vL (mQ X n) [0,0,1,1,1,0,0,1,1] 2 5 0 7 2 7 5 7/\MV (mQ X n) [0,1,1,1] 6 7=true:=⟨⟨jO,jO,jO,jO⟩,⟨jO,jO⟩,⟨jO,jO,jO,jO⟩,jO⟩
def agm(X:j1)(n:Nat):Pj (mQ X n) [0,0,1,1,1,0,0,1,1] 2 3=true/\Pj (mQ X n) [0,0,1,1,1,0,0,1,1] 2 4=false/\Pj (mQ X n) [0,0,1,1,1,0,0,1,1] 2 5=true/\Pj (mQ X n) [0,0,1,1,1,0,0,1,1] 2 6=true/\Pj (mQ X n) [0,0,1,1,1,0,0,1,1] 2 7=true/\aaE (mQ X n) [0,0,1,1,1,0,0,1,1] 2=false/\aaE (mQ X n) [0,1,1,1] 7=true:=⟨jO,jO,jO,jO,jO,jO,jO⟩
attribute [go_sem] agk agl agm Mx My
abbrev Mz(v0:Int)(o0:jQ)(o1:Syntax)(r4:List Syntax)(o5:Syntax)(c4:Nat):jT:=⟨(.ptr 0 0::qA::qA::.ptr 1 0::.ptr 2 0::qA::.lV 4 c4::.ptr 5 0::.int .i64 v0::uw (lM (mc (mc (qA::qA::qA::[]))))),[.cells (jQ.cells o0),.cells (Syntax.cells o1),.cells [.int .i64 0,.str (sb []),.int .i64 0,.kJ true 0 [],.kJ true 0 [],.kJ true 0 [],.int .i64 0,.int .i64 0],.vz,.lV true 8 (mp Syntax.cells r4),.cells (Syntax.cells o5)],1,[]⟩
abbrev MA:List Kt:=[.pF 3,.cut [1,1,1,1,1,1,1,1,1],.at [1,1,1,1,1,1,1,1,1]]
abbrev MB:=Int->jQ->Syntax->(List Syntax)->Syntax->Option Td
abbrev aeu(X:j1)(n:Nat)(K:List Kt)(Z:MB):Prop:=∀v0 o0 o1 r4 o5 c4,c4=r4.length->run (mQ X n) K (Mz v0 o0 o1 r4 o5 c4)=Z v0 o0 o1 r4 o5
abbrev MC(o0:jQ)(o1:Syntax)(r4:List Syntax)(c4:Nat):jT:=⟨(.ptr 0 0::qA::qA::.ptr 1 0::.ptr 2 0::qA::.lV 4 c4::uw (lM (mc (mc (mc (qA::[])))))),[.cells (jQ.cells o0),.cells (Syntax.cells o1),.cells [.int .i64 0,.str (sb []),.int .i64 0,.kJ true 0 [],.kJ true 0 [],.kJ true 0 [],.int .i64 0,.int .i64 0],.vz,.lV true 8 (mp Syntax.cells r4)],1,[]⟩
abbrev MD:=jQ->Syntax->(List Syntax)->Option Td
abbrev aev(X:j1)(n:Nat)(K:List Kt)(Z:MD):Prop:=∀o0 o1 r4 c4,c4=r4.length->run (mQ X n) K (MC o0 o1 r4 c4)=Z o0 o1 r4
attribute [go_sem] Mz MA MC
def DU(X:j1)(n:Nat):LB (aeu X n) [0,1,0,1,1,1,1,1,1,1,1] MA:=mB2
def DV(X:j1)(n:Nat):Nat->MB:=sR ((DU X n).1)
def aw7(X:j1){n:Nat}:DV X n (m+1)=(DU X n).1 (DV X n m):=rfl
@[go_sem]def YA(X:j1)(n:Nat)(m:Nat):=ud (DU X n) (DV X n) m
def DW(X:j1)(n:Nat):LB (aev X n) [0,0,1,1,1,1,1] [.pF 1,.cut [1,1,1,1,1,1],.at [1,1,1,1,1,1]]:=mB2
def DX(X:j1)(n:Nat):Nat->MD:=sR ((DW X n).1)
def aw8(X:j1){n:Nat}:DX X n (m+1)=(DW X n).1 (DX X n m):=rfl
@[go_sem]def YB(X:j1)(n:Nat)(m:Nat):=ud (DW X n) (DX X n) m
def Fa(X:j1)(n:Nat):SX (mQ X n) (l5 0 (l1 (kT Syntax.kr) kM)) jP 100 xa:=mC2
open Go.Proofs
@[reducible] def ak8(X:j1)(n:Nat):kL Th:=mU gJ f320 n (qM gJ [] [] [0,1] 2 kX kM) (cl:=lY [(85,D5 (oV (Qw (uO jQ.kr) (li .i64) lW mh (An n)))),(88,zh [0] (tY (AA jQ.kr) rW) (YH 0 Ho) (tY (AA jQ.kr) rW) (Ui lW Fj) (fun(b:Te) a=>(ni n) b.1)),(94,D5 (oV (nh (uO jQ.kr) (kT lD.kr) (ny n)))),(153,zh [0] (tY (AA jQ.kr) rW) (YH 0 (asT lW Ho)) (tY (AA jQ.kr) rW) (Ui mh Fj) (fun(b:Te) a=>(nP n) b.1 a.1))]) (q6:=qN [] [0,1] 2 kX j3) (cp:=AC [(148,mi (vP n)),(151,pG (ql n)),(325,OV (SR n)),(326,ow (Lx n)),(327,zZ (BP n)),(328,Gr (aao n)),(329,DR X.qu)]) (wD:=lS [148,151,325,326,327,328,329])
def IM(X:j1)(n:Nat):SX (ak8 X n) (l5 0 (l5 1 kM)) kX 135 pH:=mC2
open Go.Proofs
@[go_sem]def KU:sN:=⟨[(3,8,true)],[],(zK::zA::zA::zK::lH (l8 (zA::zA::[]))),[oT jQ.kr,oA Syntax.row],none,none⟩
@[reducible] def ME(X:j1)(n:Nat):kL TQ:=mU gJ f329 n (qM gJ [.tmp 2] [] [0] 1 jP (l1 (lz Syntax.row) kM)) (cl:=lY [(91,D5 (oV (nr (uO jQ.kr) lW mh (qe n)))),(153,zh [0] (tY (AA jQ.kr) rW) (YH 0 (asT lW Ho)) (tY (AA jQ.kr) rW) (Ui mh Fj) (fun(b:Te) a=>(nP n) b.1 a.1))]) (p4:=nR [([0,0,1,1],KU)]) (q6:=qN [] [0] 1 jP j3) (cp:=AC [(82,mi (nX n)),(334,nD X.pI)]) (wD:=lS [82,334])
@[go_sem]abbrev KV(o0:jQ)(r1:List Syntax)(c1:Nat):jT:=⟨(.ptr 0 0::qA::qA::.lV 1 c1::lM (mc (qA::qA::[]))),[.cells (jQ.cells o0),.lV true 8 (mp Syntax.cells r1)],1,[]⟩
abbrev KW:=jQ->(List Syntax)->Option TQ
abbrev ab2(X:j1)(n:Nat)(K:List Kt)(Z:KW):Prop:=∀o0 r1 c1,c1=r1.length->run (ME X n) K (KV o0 r1 c1)=Z o0 r1
def Ch(X:j1)(n:Nat):LB (ab2 X n) [0,0,1,1] [.pF 0,.cut [1,1,1],.at [1,1,1]]:=mB2
def Ci(X:j1)(n:Nat):Nat->KW:=sR ((Ch X n).1)
def awG(X:j1){n:Nat}:Ci X n (m+1)=(Ch X n).1 (Ci X n m):=rfl
@[go_sem]def Ws(X:j1)(n:Nat)(m:Nat):=ud (Ch X n) (Ci X n) m
def DY(X:j1)(n:Nat):SX (ME X n) (l5 0 kM) jP 26 wg:=mC2
open Go.Proofs
@[go_sem]def Ek:sN:=⟨[],[],(zK::zA::zK::zK::zK::lH (l8 (l8 (zA::[])))),[oT jQ.kr,oK,oT Syntax.kr],none,none⟩
@[reducible] def FM(X:j1)(n:Nat):kL Td:=mU gJ f334 n (qM gJ [.cell 2 37] [] [0] 1 jP (l1 (kT Syntax.kr) kM)) (cl:=lY [(153,zh [0] (tY (AA jQ.kr) rW) (YH 0 (asT lW Ho)) (tY (AA jQ.kr) rW) (Ui mh Fj) (fun(b:Te) a=>(nP n) b.1 a.1))]) (p4:=nR [([0,1,0,1,1],Ek)]) (q6:=qN [] [0] 1 jP j3) (cp:=AC [(82,mi (nX n)),(338,nD X.qX)]) (wD:=lS [82,338])
@[go_sem]abbrev El(v0:Int)(o0:jQ)(o2:Syntax):jT:=⟨(.ptr 0 0::qA::.ptr 1 0::.ptr 2 0::.int .i64 v0::lM (mc (mc (qA::[])))),[.cells (jQ.cells o0),.cells [.int .i64 0,.str (sb []),.int .i64 0,.kJ true 0 [],.kJ true 0 [],.kJ true 0 [],.int .i64 0,.int .i64 0],.cells (Syntax.cells o2)],1,[]⟩
abbrev S8(X:j1)(n:Nat)(K:List Kt)(Z:wi):Prop:=∀v0 o0 o2,run (FM X n) K (El v0 o0 o2)=Z v0 o0 o2
def yx(X:j1)(n:Nat):LB (S8 X n) [0,1,0,1,1] [.pF 0,.cut [1,1,1],.at [1,1,1]]:=mB2
def yy(X:j1)(n:Nat):Nat->wi:=sR ((yx X n).1)
def aq3(X:j1){n:Nat}:yy X n (m+1)=(yx X n).1 (yy X n m):=rfl
@[go_sem]def aTj(X:j1)(n:Nat)(m:Nat):=ud (yx X n) (yy X n) m
def ze(X:j1)(n:Nat):SX (FM X n) (l5 0 kM) jP 30 lf:=mC2
open Go.Proofs
@[reducible] def p9(X:j1)(n:Nat):kL Td:=mU gJ f338 n (avF (WQ [(346,Ps [.arg 0 [],.vC 0 0 []] lJ (l5 0 kM) lJ kM (fun(b:(Unit×T6))(a:Unit)=>(Bm n) b.2.1.1))]) (qM gJ [.cell 2 37] [] [0] 1 jP (l1 (kT Syntax.kr) kM)) (qN [] [0] 1 jP j3)) (cl:=lY [(91,D5 (oV (nr (uO jQ.kr) lW mh (qe n)))),(205,D5 (oV (nh (uO jQ.kr) (li .i64) (uJ n))))]) (q6:=avG (WQ [(346,Ps [.arg 0 [],.vC 0 0 []] lJ (l5 0 kM) lJ kM (fun(b:(Unit×T6))(a:Unit)=>(Bm n) b.2.1.1))]) (qM gJ [.cell 2 37] [] [0] 1 jP (l1 (kT Syntax.kr) kM)) (qN [] [0] 1 jP j3)) (co:=VZ [(82,Jl [.arg 0 []] jP (l5 0 (l1 (li .i64) kM)) jP kM jP j3 (p8 (nX n))),(84,agF (oV (nh (uO jQ.kr) (li .i64) (vG n)))),(93,Jl [.arg 0 []] jP (l5 0 (l1 mh kM)) jP kM jP j3 (sv (qf n))),(94,agF (oV (nh (uO jQ.kr) (kT lD.kr) (ny n))))]) (cp:=AC [(347,yw X.rF),(348,yw X.sW)]) (wD:=lS [347,348]) (tI:=lS [82,84,93,94]) (tX:=lS [])
def agn(X:j1)(n:Nat):aKF (p9 X n) [0,1] [0,1,1,0,1,1,1,1,1] [0,1,1,1,1]:=⟨jO,jO,jO⟩
def ago(X:j1)(n:Nat):avI (p9 X n) [0,1] 0 7 3 7 6 7/\vL (p9 X n) [0,1,1,0,1,1,1,1,1] 3 6 0 9 3 9 6 9/\vL (p9 X n) [0,1,1,1,1] 0 3 0 8 3 8 5 8/\vL (p9 X n) [0,1,1,1,1] 0 11 3 11 5 11 8 11/\MV (p9 X n) [0,1,1,1,1] 10 11=true:=⟨⟨jO,jO,jO⟩,⟨jO,jO,jO,jO⟩,⟨jO,jO,jO,jO⟩,⟨jO,jO,jO,jO⟩,jO⟩
def agp(X:j1)(n:Nat):aaE (p9 X n) [0,1] 7=true/\aaE (p9 X n) [0,1,1,0,1,1,1,1,1] 9=true:=⟨jO,jO⟩
attribute [go_sem] agn ago agp
def Fb(X:j1)(n:Nat):SX (p9 X n) (l5 0 kM) jP 54 lf:=mC2
open Go.Proofs
@[reducible] def aij(X:j1)(n:Nat):kL Th:=mU gJ f347 n (qM gJ [] [] [0,1] 2 kX kM) (q6:=qN [] [0,1] 2 kX j3) (cp:=AC [(151,pG (ql n)),(329,DR X.qu)]) (wD:=lS [151,329])
def Gy(X:j1)(n:Nat):SX (aij X n) (l5 0 (l5 1 kM)) kX 17 pH:=mC2
open Go.Proofs
def aTk:sN:=⟨[],[],(zK::zK::ux (ux (l8 (l8 (l8 (zA::zA::zA::[])))))),[oT jQ.kr,oC [zK,zK,zK,zK,zT (lz jZ.row),zT (lz Syntax.row),zK,zK],oA kW],none,none⟩
@[reducible] def s8(X:j1)(n:Nat):kL Th:=mU gJ f348 n (qM gJ [] [] [0,1] 2 kX kM) (cl:=lY [(88,zh [0] (tY (AA jQ.kr) rW) (YH 0 Ho) (tY (AA jQ.kr) rW) (Ui lW Fj) (fun(b:Te) a=>(ni n) b.1)),(94,D5 (oV (nh (uO jQ.kr) (kT lD.kr) (ny n))))]) (p4:=nR [([0,1,1,0,1,1,1,1,1,1,1,1,1,1,1,1,1,0,1],aTk)]) (q6:=qN [] [0,1] 2 kX j3) (co:=VZ [(82,Jl [.arg 0 []] jP (l5 0 (l1 (li .i64) kM)) jP kM jP j3 (p8 (nX n))),(88,Jl [.arg 0 []] jP (l5 0 kM) jP (l1 lW kM) jP (l1 lW kM) (fun(b:T6)(a:Unit)=>((PO n) b.1.1).map fun r=>(PR.ok r:PR TK TK)))]) (cp:=AC [(44,nD X.nO),(148,mi (vP n)),(149,ow (um n)),(326,ow (Lx n)),(338,nD X.qX),(340,ow (Cc n)),(347,yw X.rF),(352,JA (Mt n))]) (wD:=lS [44,148,149,326,338,340,347,352]) (tI:=lS [82,88]) (tX:=lS [])
def aik(X:j1)(n:Nat):an0 (s8 X n) [0,0,1,0,0,1,1,0,1,1,1,1,1,1,1,1,1,1,1,1,1,0,1] [1,0,1,0,0,1,1,0,1,1,1,1,1,1,1,1,1,1,1,1,1,0,1]:=⟨jO,jO⟩
def ail(X:j1)(n:Nat):axu (s8 X n) [0,0,1,0,0,1,1,0,1,1,1,1,1,1,1,1,1,1,1,1,1,0,1] 6 8 7 8/\vL (s8 X n) [1,0,1,0,0,1,1,0,1,1,1,1,1,1,1,1,1,1,1,1,1,0,1] 4 10 8 10 4 13 8 13/\MV (s8 X n) [1,0,1,0,0,1,1,0,1,1,1,1,1,1,1,1,1,1,1,1,1,0,1] 10 13=true:=⟨⟨jO,jO⟩,⟨jO,jO,jO,jO⟩,jO⟩
def aim(X:j1)(n:Nat):aaE (s8 X n) [0,0,1,0,0,1,1,0,1,1,1,1,1,1,1,1,1,1,1,1,1,0,1] 8=true:=jO
attribute [go_sem] aik ail aim aTk
@[go_sem]abbrev aTl(o0:jQ)(v1:Int)(v2:kp)(v3:Int)(v4:List jZ)(v5:List Syntax)(v6 v7:Int)(r2:List kp)(c2:Nat):jT:=⟨(.ptr 0 0::.ptr 1 0::uw (uw (mc (mc (mc (qA::qA::qA::[])))))),[.cells (jQ.cells o0),.cells [.int .i64 v1,.str (sb v2),.int .i64 v3,.lV 2 c2,.kJ false 2 (mp jZ.cells v4),.kJ false 8 (mp Syntax.cells v5),.int .i64 v6,.int .i64 v7],.lV true 1 (mp kS r2)],2,[]⟩
abbrev aTm:=jQ->Int->kp->Int->Tj->(List Syntax)->Int->Int->(List kp)->Option Th
abbrev agq(X:j1)(n:Nat)(K:List Kt)(Z:aTm):Prop:=∀o0 v1 v2 v3 v4 v5 v6 v7 r2 c2,c2=r2.length->run (s8 X n) K (aTl o0 v1 v2 v3 v4 v5 v6 v7 r2 c2)=Z o0 v1 v2 v3 v4 v5 v6 v7 r2
def Fc(X:j1)(n:Nat):LB (agq X n) [0,1,1,0,1,1,1,1,1,1,1,1,1,1,1,1,1,0,1] [.pF 1,.pF 0]:=mB2
def Fe(X:j1)(n:Nat):Nat->aTm:=sR ((Fc X n).1)
def ayf(X:j1){n:Nat}:Fe X n (m+1)=(Fc X n).1 (Fe X n m):=rfl
@[go_sem]def Zc(X:j1)(n:Nat)(m:Nat):=ud (Fc X n) (Fe X n) m
def Gz(X:j1)(n:Nat):SX (s8 X n) (l5 0 (l5 1 kM)) kX 145 pH:=mC2
open Go.Proofs
@[reducible] def tF(X:j1)(n:Nat):kL Td:=mU gJ f89 n (qM gJ [.cell 8 37] [] [0] 1 jP (l1 (kT Syntax.kr) kM)) (cd:=yA [(152,oV (Qw (kT Syntax.kr) (lz ke.row) (kT Syntax.kr) (kT Syntax.kr) (Z4 n)))]) (q6:=qN [] [0] 1 jP j3) (co:=VZ [(44,Jl [.arg 0 []] jP (l5 0 kM) jP (l1 (kT Syntax.kr) kM) jP j3 (lf X.nO))]) (cp:=AC [(151,pG (ql n))]) (wD:=lS [151]) (tI:=lS [44]) (tX:=lS [])
def aew(X:j1)(n:Nat):qY (tF X n) [0,1,1]=true:=jO
def aex(X:j1)(n:Nat):axu (tF X n) [0,1,1] 0 5 3 5:=⟨jO,jO⟩
def aey(X:j1)(n:Nat):Pj (tF X n) [0,1,1] 3 4=true/\Pj (tF X n) [0,1,1] 3 5=true/\aaE (tF X n) [0,1,1] 3=false:=⟨jO,jO,jO⟩
attribute [go_sem] aew aex aey
def DZ(X:j1)(n:Nat):SX (tF X n) sQ jP 19 tE:=mC2
end Go.Abs
end
