/- A part of the proof: what the functions compute. -/
import Derived.Test.YtpdbjkgnmjnebaaGreatDoorDataA
import Derived.Test.YtpdbjkgnmjnebaaGreatDoorExtA
import Derived.Test.YtpdbjkgnmjnebaaGreatDoorWalkA
import Derived.Test.YtpdbjkgnmjnebaaGreatDoorCoreD
set_option linter.all false
open Go.Proofs.Tryz renaming prog→fW
open Nat renaming reduceLeDiff→fX,reduceEqDiff→fY,reduceAdd→ga,reduceSub→gb,reduceBEq→gf,reduceMul→gh,reduceLT→gj
open Int renaming reduceToNat→fZ,reduceBEq→gi,reduceLE→gk,reduceLT→gp,reduceEq→gq
open Option renaming getD_some→gr
open Subtype renaming mk→gu
open Go.Abs.AV renaming any→qA
noncomputable section
open Go.Proofs.Tryz
namespace Go.Abs
variable {m m2 m3:Nat}{J:jT}
variable (n:Nat)
open Go.Proofs
attribute [go_sem] f171 f141 f274 f166 f225 f220 f77 f194 f195 f131 f297 f285 f276 f41 f244 f84 f88 f85 f207 f208 f150 f246 f210 f157 f54 f178 f227 f230 f63 f19 f10 f254 f22 f256 f257 f100 f306 f98 f108 f199 f164 f172 f298 f316 f263 f242 f243 f201 f202 f252 f283 f286
set_option maxRecDepth 100000
set_option maxHeartbeats 4000000
@[reducible] def Xq:kL Bool:=mU fW f171 n (lR fW [.tmp 4] mh) (cl:=lY [(224,nr (lz kW) lW (li .i64) (A8 n))])
def AM:IO (Xq n) (lz kW) lW 9:=mB
def uZ:=fu fun n=>(AM n).1
def GN:∀n:Nat,th fW 171 (lz kW) lW mh (uZ n):=vM fun n=>ug (AM n) (gd (jR (lj (aaU n)) jU) jV) func171 ntmps171 results171
@[go_sem]def ap6:sN:=⟨[],[],(zK::zA::zA::zK::zA::zA::zA::zK::zK::lH (l8 (l8 (l8 (zA::zA::[]))))),[],none,none⟩
@[reducible] def asU:kL Bool:=mU fW f141 n (lR fW [.tmp 2] mh) (cl:=lY [(196,nh (li .u8) mh (Zt n))]) (p4:=nR [([0,1,0,1,1],ap6)])
@[go_sem]abbrev ap7(v0:kp)(v1:Bool)(v2 v3:Int):jT:=⟨(.str (sb v0)::qA::qA::.bool v1::qA::qA::qA::.int .i64 v2::.int .i64 v3::lM (mc (mc (mc (qA::qA::[]))))),[],0,[]⟩
abbrev ap8:=kp->Bool->Int->Int->Option Bool
abbrev aAz(K:List Kt)(Z:ap8):Prop:=∀v0 v1 v2 v3,run (asU n) K (ap7 v0 v1 v2 v3)=Z v0 v1 v2 v3
def NG:LB (aAz n) [0,1,0,1,1] [.pF 0,.cut [1,1,1],.at [1,1,1]]:=mB
def NH:Nat->ap8:=sR ((NG n).1)
def ajH{n:Nat}:NH n (m+1)=(NG n).1 (NH n m):=rfl
@[go_sem]def atG(m:Nat):=ud (NG n) (NH n) m
def ajI:IT (asU n) lW 39:=mB
def Wx:=fu fun n=>(ajI n).1
def afu:∀n:Nat,tL fW 141 lW mh (Wx n):=vD fun n=>uy (ajI n) (gd (jR (lA (av4 n)) jU) jV) func141 ntmps141 results141
@[go_sem]def NI:sN:=⟨[],[],(zK::zT (uO cS)::zA::zK::zK::lH (lH (lH (zA::zA::zA::[])))),[oL [zA,zK,zA,zA,zA,zA,zA,zA,zA],oC [zK],oK],none,none⟩
@[go_sem]abbrev Bb(F:kp->Ta->Option (TE×Unit))(b:(Unit×(Unit×(Ta×Unit))))(a:(kp×Unit)):=F a.1 b.2.2.1
@[go_sem]def PH(F:kp->Ta->Option (TE×Unit)):=Hp [.arg 0 [],.vC 0 1 [],.vC 1 0 []] lg (VY 0 (l1 (uO cS) kM)) mJ kM (Bb F)
@[reducible] def PI:kL (TE×Unit):=mU fW f274 n (xg fW [] [] [0,1,2] 3 mJ kM) (p4:=nR [([0,1,0,1],NI)]) (cy:=avy [(0,aC5 [.vC 0 1 [],.vC 1 0 []] lg (l1 lW kM) mJ (l1 mh kM) (fun(b:(Unit×(Unit×(Ta×Unit))))(a:(kp×Unit))=>(GH n) a.1 b.2.2.1))])
attribute [go_sem] zI
@[go_sem]abbrev NJ(v0:kp)(v1 v2 j0:Int)(r2:List (kp×Bool)):jT:=⟨(.map 0::.pp [.str (sb v0)]::qA::.int .i64 v1::.int .i64 v2::lM (lM (lM (qA::qA::qA::[])))),[.loop nZ [qA,.ptr 1 0,qA,qA,qA,qA,qA,qA,qA] (stJ nZ j0) j0,.cells [.map 2],.map (mp Hq r2)],3,[]⟩
abbrev NK:=kp->Int->Int->Int->Ta->Option (TE×Unit)
abbrev afv(K:List Kt)(Z:NK):Prop:=∀v0 v1 v2 j0 r2,run (PI n) K (NJ v0 v1 v2 j0 r2)=Z v0 v1 v2 j0 r2
def EK:LB (afv n) [0,1,0,1] [.pF 0,.cut [1,1],.at [1,1]]:=mB
def EL:Nat->NK:=sR ((EK n).1)
def axP{n:Nat}:EL n (m+1)=(EK n).1 (EL n m):=rfl
@[go_sem]def YW(m:Nat):=ud (EK n) (EL n) m
def PJ:SX (PI n) (VY 0 (l1 (uO cS) kM)) lg 56 Bb:=mC
def Vk:=fu fun n=>(PJ n).1
def afw:∀n:Nat,zD fW 274 (VY 0 (l1 (uO cS) kM)) lg mJ kM (Bb (Vk n)):=WS fun n=>G6 (PJ n) (gd jU jV (y:=(MX (fun _ _ _ _ _ h=>apu (fun b a r h=>(QA n) a.1 b.2.2.1 r h) h) Rx))) func274 ntmps274 results274
@[go_sem]def RV:sN:=⟨[],[],(zA::zK::zA::zA::zK::zA::zA::zA::zK::lH (l8 (zA::zA::zT (lz jX.row)::zK::zK::lH []))),[oC [zK],oC [zK],oL [zA,zA,zA,zK,zK,zA,zA,zA,zA,zA,zA,zA,zA,zA,zA,zA,zA,zA,zA,zA,zA,zA,zA,zA,zA,zA,zA,zA,zA,zA],oC [zK],oC [zK]],none,none⟩
def tN:=(l1 (kT jX.kr) (l1 (li .i64) (l5 0 (l1 (uO (cA kn.kr 5 13)) (l5 1 kM)))))
def Bz:=(tg (Bl (VY 2 kM)) (tg (Bl (alF 166 (vlP 0 (vlT (uO (cA kn.kr 5 13)) (vlP 1 vlN))) kM)) (tg (avz nU (Cn 3 (l5 3 (l5 4 (Cn 25 kM))))) (tg (Bl (VX (cI .i64) 1 kM)) (tg (Bl (VX cB 1 kM)) Bi)))))
def BA:=(tg (Bl (VY 2 kM)) (tg (Bl (alF 166 (vlP 0 (vlT (uO (cA kn.kr 5 13)) (vlP 1 vlN))) kM)) (tg (ogL nU (Cn 3 (l5 3 (l5 4 (Cn 25 kM))))) (tg (Bl (VX (cI .i64) 1 kM)) (tg (Bl (VX cB 1 kM)) Bi)))))
attribute [go_sem] tN Bz BA
@[go_sem]abbrev CH(F:jX->Int->(yH kn 13)->(yH kn 13)->Int->Bool->Option ((Unit×((((yH kn 13)×Unit)×Unit)×Tg))×(Bool×Unit)))(b:(Unit×((((yH kn 13)×Unit)×Unit)×TT)))(a:(jX×(Int×((yH kn 13)×Unit)))):=F a.1 a.2.1 a.2.2.1 b.2.1.1.1 b.2.2.2.1.1 b.2.2.2.2.1.1
@[go_sem]def JJ(F:jX->Int->(yH kn 13)->(yH kn 13)->Int->Bool->Option ((Unit×((((yH kn 13)×Unit)×Unit)×Tg))×(Bool×Unit))):=Hp [.arg 2 [],.arg 4 [],.vC 0 0 [],.vC 2 3 [],.vC 2 4 []] Bz tN BA (l1 mh kM) (CH F)
@[reducible] def Vl(X:jX->Int->(yH kn 13)->(yH kn 13)->Int->Bool->Option ((Unit×((((yH kn 13)×Unit)×Unit)×Tg))×(Bool×Unit)))(n:Nat):kL ((Unit×((((yH kn 13)×Unit)×Unit)×Tg))×(Bool×Unit)):=mU fW f166 n (xg fW [.tmp 7] [] [0,1,2,3,4] 5 BA (l1 mh kM)) (cl:=lY [(166,JJ X)]) (p4:=nR [([0,1,0,1,1,1,1],RV)]) (cy:=avy [(2,aC5 [.vC 0 3 [],.vC 0 4 []] lC n8 nn (l1 mh kM) (fun(b:TT)(a:(Int×(jX×Unit)))=>(xZ n) a.1 a.2.1 b.2.1.1 b.2.2.1.1))])
attribute [go_sem] xY
@[go_sem]abbrev RW(v0 v1:Int)(v2:List jX)(v3 v4:Int)(v5:yH kn 13)(j2 v7:Int)(v8:Bool):jT:=⟨(qA::.int .i64 v0::qA::qA::.ptr 1 0::qA::qA::qA::.int .i64 v1::lM (mc (qA::qA::.kJ false 5 (mp jX.cells v2)::.int .i64 v3::.int .i64 v4::lM []))),[.cells [.map 2],.cells [.func (.func 166) [] [.ptr 0 0,.pp (sY kn.cells 13 v5),.ptr 1 0]],.loop nU [qA,qA,qA,.ptr 3 0,.ptr 4 0,qA,qA,qA,qA,qA,qA,qA,qA,qA,qA,qA,qA,qA,qA,qA,qA,qA,qA,qA,qA,qA,qA,qA,qA,qA] (stJ nU j2) j2,.cells [.int .i64 v7],.cells [.bool v8]],5,[]⟩
abbrev RX:=Int->Int->(List jX)->Int->Int->(yH kn 13)->Int->Int->Bool->Option ((Unit×((((yH kn 13)×Unit)×Unit)×Tg))×(Bool×Unit))
abbrev ajJ(X:jX->Int->(yH kn 13)->(yH kn 13)->Int->Bool->Option ((Unit×((((yH kn 13)×Unit)×Unit)×Tg))×(Bool×Unit)))(n:Nat)(K:List Kt)(Z:RX):Prop:=∀v0 v1 v2 v3 v4 v5 j2 v7 v8,run (Vl X n) K (RW v0 v1 v2 v3 v4 v5 j2 v7 v8)=Z v0 v1 v2 v3 v4 v5 j2 v7 v8
def yo(X:jX->Int->(yH kn 13)->(yH kn 13)->Int->Bool->Option ((Unit×((((yH kn 13)×Unit)×Unit)×Tg))×(Bool×Unit)))(n:Nat):LB (ajJ X n) [0,1,0,1,1,1,1] [.pF 0,.cut [1,1,1,1,1],.at [1,1,1,1,1]]:=mB
def yp(X:jX->Int->(yH kn 13)->(yH kn 13)->Int->Bool->Option ((Unit×((((yH kn 13)×Unit)×Unit)×Tg))×(Bool×Unit)))(n:Nat):Nat->RX:=sR ((yo X n).1)
def NL(X:jX->Int->(yH kn 13)->(yH kn 13)->Int->Bool->Option ((Unit×((((yH kn 13)×Unit)×Unit)×Tg))×(Bool×Unit))){n:Nat}:yp X n (m+1)=(yo X n).1 (yp X n m):=rfl
@[go_sem]def ac4(X:jX->Int->(yH kn 13)->(yH kn 13)->Int->Bool->Option ((Unit×((((yH kn 13)×Unit)×Unit)×Tg))×(Bool×Unit)))(n:Nat)(m:Nat):=ud (yo X n) (yp X n) m
def CI(X:jX->Int->(yH kn 13)->(yH kn 13)->Int->Bool->Option ((Unit×((((yH kn 13)×Unit)×Unit)×Tg))×(Bool×Unit)))(n:Nat):SX (Vl X n) tN Bz 50 CH:=mC (by apply _root_.Subtype.mk;(repeat (first|with_reducible refine _root_.Prod.forall.2 ?_|intro));simp (config:={maxSteps:=100000000}) only[go_sem,_root_.Nat.reduceAdd,_root_.Nat.reduceSub,_root_.Nat.reduceLeDiff,_root_.Nat.reduceEqDiff,_root_.Nat.reduceBEq,_root_.Nat.reduceMul,_root_.Nat.reduceLT,_root_.Int.reduceLE,_root_.Int.reduceLT,_root_.Int.reduceToNat,_root_.Int.reduceBEq,_root_.Int.reduceEq,_root_.Option.getD_some,mixed, *];exact rfl)
def rO:Nat->jX->Int->(yH kn 13)->(yH kn 13)->Int->Bool->Option ((Unit×((((yH kn 13)×Unit)×Unit)×Tg))×(Bool×Unit))
 |0,_,_,_,_,_,_=>none
 |n+1,a0,a1,a2,o0,o1,o2=>(CI (rO n) n).1 a0 a1 a2 o0 o1 o2
def RY:∀n:Nat,zD fW 166 tN Bz BA (l1 mh kM) (CH (rO n))
 |0=>fun _ _ _ h=>(by cases h)
 |n+1=>by
  have ajK:=RY n;exact G6 (CI (rO n) n) (gd (jR (mY (ajK)) jU) jV (y:=(MX (fun _ _ _ _ _ h=>apu (fun b a r h=>(V7 n) a.1 a.2.1 b.2.1.1 b.2.2.1.1 r h) h) Rx))) func166 ntmps166 results166
@[go_sem]def tO:sN:=⟨[],[],(zT (lz kD.row)::zT (tyF 173)::l8 (zA::zK::zK::l8 (l8 (zA::zA::[])))),[],none,none⟩
@[reducible] def ue:kL Int:=mU fW f225 n (lR fW [.tmp 4] (li .i64)) (cl:=lY [(173,nh (kT kD.kr) mh (A9 n))]) (p4:=nR [([0,1,0,1],tO)])
@[go_sem]abbrev tP(v0:List kD)(v1 v2:Int):jT:=⟨(.kJ false 2 (mp kD.cells v0)::.func (.func 173) [] []::mc (qA::.int .i64 v1::.int .i64 v2::mc (mc (qA::qA::[])))),[],0,[]⟩
abbrev tQ:=(List kD)->Int->Int->Option Int
abbrev AN(K:List Kt)(Z:tQ):Prop:=∀v0 v1 v2,run (ue n) K (tP v0 v1 v2)=Z v0 v1 v2
def nB:LB (AN n) [0,1,0,1] [.pF 0,.cut [1,1],.at [1,1]]:=mB
def nC:Nat->tQ:=sR ((nB n).1)
def tu{n:Nat}:nC n (m+1)=(nB n).1 (nC n m):=rfl
@[go_sem]def zm(m:Nat):=ud (nB n) (nC n) m
def qB:IO (ue n) (lz kD.row) (tyF 173) 19:=mB
def qS:=fu fun n=>(qB n).1
def AO:∀n:Nat,th fW 225 (lz kD.row) (tyF 173) (li .i64) (qS n):=vM fun n=>ug (qB n) (gd (jR (lA (aaW n)) jU) jV) func225 ntmps225 results225
@[reducible] def al9:kL kp:=mU fW f220 n (lR fW [.tmp 4] lW) (cl:=lY [(260,nr (lz kW) lW lW (strings_Join n)),(261,zh [] rW (asT (lz kW) Ho) (tY (Uh true kW) rW) (rsA 0 (fun(b:Tf)=>b.1.length) Fj) (fun(b:Unit) a=>(Pw n) a.1))])
def JK:IO (al9 n) (lz kW) lW 11:=mB
def yP:=fu fun n=>(JK n).1
def RZ:∀n:Nat,th fW 220 (lz kW) lW lW (yP n):=vM fun n=>ug (JK n) (gd (jR (lj (Ul n)) (jR (oZ (fun b a r h=>(aaZ n) a.1 r h)) jU)) jV) func220 ntmps220 results220
open Go.Proofs
@[go_sem]def ZJ:sN:=⟨[],[],(zA::zK::zA::zA::zK::zA::zA::zA::zK::lH (l8 (zA::zA::zT (lz jX.row)::zK::zK::lH []))),[oC [zK],oC [zK],oL [zA,zA,zA,zK,zK,zA,zA,zA,zA,zA,zA,zA,zA,zA,zA,zA,zA,zA,zA,zA,zA,zA,zA,zA,zA,zA,zA,zA,zA,zA,zA],oC [zK],oC [zK],oK,oA kW],none,none⟩
@[go_sem]def GO:=(tg (Bl (VY 2 kM)) (tg (Bl (alF 166 (vlP 0 (vlT (uO (cA kn.kr 5 13)) (vlP 1 vlN))) kM)) (tg (avz nE (Cn 3 (l5 3 (l5 4 (Cn 26 kM))))) (tg (Bl (VY 5 kM)) (tg (Bl (alA 6 kM)) (tg ogM (tg (ogA true kW) Bi)))))))
@[go_sem]def GP:=(tg (Bl (VY 2 kM)) (tg (Bl (alF 166 (vlP 0 (vlT (uO (cA kn.kr 5 13)) (vlP 1 vlN))) kM)) (tg (ogL nE (Cn 3 (l5 3 (l5 4 (Cn 26 kM))))) (tg (Bl (VY 5 kM)) (tg (Bl (alA 6 kM)) (tg ogM (tg (ogA true kW) Bi)))))))
@[go_sem]abbrev I4(F:jX->Int->(yH kn 13)->(yH kn 13)->Ta->(List kp)->Option ((Unit×((((yH kn 13)×Unit)×Unit)×Ti))×(Bool×Unit)))(b:(Unit×((((yH kn 13)×Unit)×Unit)×T12)))(a:(jX×(Int×((yH kn 13)×Unit)))):=F a.1 a.2.1 a.2.2.1 b.2.1.1.1 b.2.2.2.2.2.1 b.2.2.2.2.2.2.1
@[go_sem]def QJ(F:jX->Int->(yH kn 13)->(yH kn 13)->Ta->(List kp)->Option ((Unit×((((yH kn 13)×Unit)×Unit)×Ti))×(Bool×Unit))):=Hp [.arg 2 [],.arg 4 [],.vC 0 0 [],.vC 2 3 [],.vC 2 4 [],.vC 3 0 [],.vC 4 0 []] GO tN GP (l1 mh kM) (I4 F)
@[reducible] def ac5(X:jX->Int->(yH kn 13)->(yH kn 13)->Ta->(List kp)->Option ((Unit×((((yH kn 13)×Unit)×Unit)×Ti))×(Bool×Unit)))(n:Nat):kL ((Unit×((((yH kn 13)×Unit)×Unit)×Ti))×(Bool×Unit)):=mU fW f166 n (xg fW [.tmp 7] [] [0,1,2,3,4,5,6] 7 GP (l1 mh kM)) (cl:=lY [(166,QJ X)]) (p4:=nR [([0,1,0,1,1,1,1],ZJ)]) (cy:=avy [(2,aC5 [.vC 0 3 [],.vC 0 4 [],.vC 1 0 [],.vC 2 0 []] lu n8 mM (l1 mh kM) (fun(b:T12)(a:(Int×(jX×Unit)))=>(wJ n) a.1 a.2.1 b.2.2.2.1 b.2.2.2.2.1))])
attribute [go_sem] wI
@[go_sem]abbrev ZK(v0 v1:Int)(v2:List jX)(v3 v4:Int)(v5:yH kn 13)(j2:Int)(r5:List (kp×Bool))(r6:List kp)(c6:Nat):jT:=⟨(qA::.int .i64 v0::qA::qA::.ptr 1 0::qA::qA::qA::.int .i64 v1::lM (mc (qA::qA::.kJ false 5 (mp jX.cells v2)::.int .i64 v3::.int .i64 v4::lM []))),[.cells [.map 2],.cells [.func (.func 166) [] [.ptr 0 0,.pp (sY kn.cells 13 v5),.ptr 1 0]],.loop nE [qA,qA,qA,.ptr 3 0,.ptr 4 0,qA,qA,qA,qA,qA,qA,qA,qA,qA,qA,qA,qA,qA,qA,qA,qA,qA,qA,qA,qA,qA,qA,qA,qA,qA,qA] (stJ nE j2) j2,.cells [.map 5],.cells [.lV 6 c6],.map (mp Hq r5),.lV true 1 (mp kS r6)],7,[]⟩
abbrev ZL:=Int->Int->(List jX)->Int->Int->(yH kn 13)->Int->Ta->(List kp)->Option ((Unit×((((yH kn 13)×Unit)×Unit)×Ti))×(Bool×Unit))
abbrev ap9(X:jX->Int->(yH kn 13)->(yH kn 13)->Ta->(List kp)->Option ((Unit×((((yH kn 13)×Unit)×Unit)×Ti))×(Bool×Unit)))(n:Nat)(K:List Kt)(Z:ZL):Prop:=∀v0 v1 v2 v3 v4 v5 j2 r5 r6 c6,c6=r6.length->run (ac5 X n) K (ZK v0 v1 v2 v3 v4 v5 j2 r5 r6 c6)=Z v0 v1 v2 v3 v4 v5 j2 r5 r6
def BB(X:jX->Int->(yH kn 13)->(yH kn 13)->Ta->(List kp)->Option ((Unit×((((yH kn 13)×Unit)×Unit)×Ti))×(Bool×Unit)))(n:Nat):LB (ap9 X n) [0,1,0,1,1,1,1] [.pF 0,.cut [1,1,1,1,1],.at [1,1,1,1,1]]:=mB
def uK(X:jX->Int->(yH kn 13)->(yH kn 13)->Ta->(List kp)->Option ((Unit×((((yH kn 13)×Unit)×Unit)×Ti))×(Bool×Unit)))(n:Nat):Nat->ZL:=sR ((BB X n).1)
def Vm(X:jX->Int->(yH kn 13)->(yH kn 13)->Ta->(List kp)->Option ((Unit×((((yH kn 13)×Unit)×Unit)×Ti))×(Bool×Unit))){n:Nat}:uK X n (m+1)=(BB X n).1 (uK X n m):=rfl
@[go_sem]def ajL(X:jX->Int->(yH kn 13)->(yH kn 13)->Ta->(List kp)->Option ((Unit×((((yH kn 13)×Unit)×Unit)×Ti))×(Bool×Unit)))(n:Nat)(m:Nat):=ud (BB X n) (uK X n) m
def QK(X:jX->Int->(yH kn 13)->(yH kn 13)->Ta->(List kp)->Option ((Unit×((((yH kn 13)×Unit)×Unit)×Ti))×(Bool×Unit)))(n:Nat):SX (ac5 X n) tN GO 50 I4:=mC (by apply _root_.Subtype.mk;(repeat (first|with_reducible refine _root_.Prod.forall.2 ?_|intro));simp (config:={maxSteps:=100000000}) only[go_sem,_root_.Nat.reduceAdd,_root_.Nat.reduceSub,_root_.Nat.reduceLeDiff,_root_.Nat.reduceEqDiff,_root_.Nat.reduceBEq,_root_.Nat.reduceMul,_root_.Nat.reduceLT,_root_.Int.reduceLE,_root_.Int.reduceLT,_root_.Int.reduceToNat,_root_.Int.reduceBEq,_root_.Int.reduceEq,_root_.Option.getD_some,mixed, *];exact rfl)
def sI:Nat->jX->Int->(yH kn 13)->(yH kn 13)->Ta->(List kp)->Option ((Unit×((((yH kn 13)×Unit)×Unit)×Ti))×(Bool×Unit))
 |0,_,_,_,_,_,_=>none
 |n+1,a0,a1,a2,o0,o1,o2=>(QK (sI n) n).1 a0 a1 a2 o0 o1 o2
def ZM:∀n:Nat,zD fW 166 tN GO GP (l1 mh kM) (I4 (sI n))
 |0=>fun _ _ _ h=>(by cases h)
 |n+1=>by
  have aqa:=ZM n;exact G6 (QK (sI n) n) (gd (jR (mY (aqa)) jU) jV (y:=(MX (fun _ _ _ _ _ h=>apu (fun b a r h=>(RH n) a.1 a.2.1 b.2.2.2.1 b.2.2.2.2.1 r h) h) Rx))) func166 ntmps166 results166
@[go_sem]abbrev zJ(F:jS->Int->Tb->Tb->Ta->Option T10)(b:T7)(a:(jS×Unit)):=F a.1 b.1.1 b.2.1 b.2.2.1 b.2.2.2.1
@[go_sem]def NM(F:jS->Int->Tb->Tb->Ta->Option T10):=xE false [.arg 0 [],.vC 0 0 [],.vC 0 1 [],.vC 0 2 []] lN (l5 0 (l1 (kT jS.kr) kM)) lN (VY 2 (l1 lW (l1 (lz kW) kM))) lN (VY 1 (l1 lW (l1 (lz kW) kM))) (zJ F)
@[reducible] def NN:kL T10:=mU fW f77 n (apy fW [.tmp 4,.tmp 5,.tmp 6] [] [0,1,2,3] 4 lN (VY 2 (l1 lW (l1 (lz kW) kM))) [] lN (VY 1 (l1 lW (l1 (lz kW) kM)))) (cl:=lY [(78,nh (kT jS.kr) mh (FS n))]) (tI:=lS []) (tX:=lS [])
@[go_sem]def afx:an0 (NN n) [0,0,1,0,1] [0,1,1]:=⟨jO,jO⟩
def NO:SX (NN n) (l5 0 (l1 (kT jS.kr) kM)) lN 31 zJ:=mC
def R0:=fu fun n=>(NO n).1
def ac6:∀n:Nat,tG fW 77 (l5 0 (l1 (kT jS.kr) kM)) lN false lN (VY 2 (l1 lW (l1 (lz kW) kM))) lN (VY 1 (l1 lW (l1 (lz kW) kM))) (zJ (R0 n)):=ae9 fun n=>aQU (NO n) (gd (jR (lA (C5 n)) jU) jV) func77 ntmps77 results77
@[reducible] def awe:kL Bool:=mU fW f194 n (lR fW [.tmp 2] mh) (cl:=lY [(193,nh (li .u8) (li .i64) (LW n))])
def ajM:IT (awe n) (li .u8) 15:=mB
def Wf:=fu fun n=>(ajM n).1
def Ux:∀n:Nat,tL fW 194 (li .u8) mh (Wf n):=vD fun n=>uy (ajM n) (gd (jR (lA (HK n)) jU) jV) func194 ntmps194 results194
@[reducible] def axQ:kL (List kp):=mU fW f195 n (lR fW [.tmp 0] (lz kW)) (cl:=lY [(240,nh lW (lz kW) (ajr n))])
def am9:SC0 (axQ n) 2:=mB
def ajN:=fu fun n=>(am9 n).1
def ajO:∀n:Nat,aIq fW 195 (lz kW) (ajN n):=aO1 fun n=>aO0 (am9 n) (gd (jR (lA (apS n)) jU) jV) func195 ntmps195 results195
@[go_sem]def PK:sN:=⟨[],[],(zK::l8 (zA::zT (lz kW)::zK::zK::lH (l8 (l8 (zA::[]))))),[oC [zK,zK,zT (lz jS.row),zK],oY],none,none⟩
@[go_sem]abbrev BC(F:(List kp)->(List jS)->Bool->kp->Option (T9×Unit))(b:T9)(a:Tf):=F a.1 b.1.1 b.1.2.1 b.2.1
@[go_sem]def rZ(F:(List kp)->(List jS)->Bool->kp->Option (T9×Unit)):=Hp [.arg 0 [],.vC 0 1 []] j5 (l5 0 (l1 (lz kW) kM)) j5 kM (BC F)
@[reducible] def R1:kL (T9×Unit):=mU fW f131 n (xg fW [] [] [0,1] 2 j5 kM) (cl:=lY [(186,Pz (Vh n)),(187,Eg (GK n))]) (p4:=nR [([0,1],PK)])
@[go_sem]abbrev PL(v0:List kp)(v1 v2:Int)(v3:List jS)(v4:Bool)(r1:kp)(c1:Nat):jT:=⟨(.ptr 0 0::mc (qA::.kJ false 1 (mp kS v0)::.int .i64 v1::.int .i64 v2::lM (mc (mc (qA::[]))))),[.cells [.sn 141 0,.lV 1 c1,.kJ false 4 (mp jS.cells v3),.bool v4],.alT (sb r1)],2,[]⟩
abbrev PM:=(List kp)->Int->Int->(List jS)->Bool->kp->Option (T9×Unit)
abbrev ahV(K:List Kt)(Z:PM):Prop:=∀v0 v1 v2 v3 v4 r1 c1,c1=r1.length->run (R1 n) K (PL v0 v1 v2 v3 v4 r1 c1)=Z v0 v1 v2 v3 v4 r1
def F6:LB (ahV n) [0,1] [.pF 0]:=mB
def F7:Nat->PM:=sR ((F6 n).1)
def ay6{n:Nat}:F7 n (m+1)=(F6 n).1 (F7 n m):=rfl
@[go_sem]def abl(m:Nat):=ud (F6 n) (F7 n) m
def R2:SX (R1 n) (l5 0 (l1 (lz kW) kM)) j5 34 BC:=mC
def tR:=fu fun n=>(R2 n).1
def s4:∀n:Nat,zD fW 131 (l5 0 (l1 (lz kW) kM)) j5 j5 kM (BC (tR n)):=WS fun n=>G6 (R2 n) (gd (jR (mY (afm n)) (jR (mY (QD n)) jU)) jV) func131 ntmps131 results131
def GQ:sN:=⟨[],[],(l8 (zK::zA::zA::zK::zK::zA::zK::lH (lH (lH (zA::zA::zA::zT (lz kW)::zK::zK::lH []))))),[oC [zK],oM (kT jS.kr),oD,oK,oA Syntax.row,oT jS.kr],none,none⟩
def GR:sN:=⟨[(7,8,false)],[],(zK::zA::zA::zK::zK::zA::zA::zK::ux (l8 (l8 (zA::[])))),[oC [zK],oM (kT jS.kr),oT Syntax.kr,oK,oA Syntax.row],none,none⟩
@[go_sem]def kO:=(tg (Bl (VY 1 kM)) (tg (atk (kT jS.kr)) Bi))
@[go_sem]def wo:=(l1 (kT jS.kr) (l1 (lz Syntax.row) (l1 mh kM)))
@[go_sem]abbrev wO(F:Syntax->Tb->Option TZ)(b:Tv)(a:(Syntax×Unit)):=F a.1 b.2.1
@[go_sem]def wP(F:Syntax->Tb->Option TZ):=Hp [.arg 0 [],.vC 0 0 []] kO (l5 0 (l1 (kT Syntax.kr) kM)) kO wo (wO F)
@[reducible] def tS:kL TZ:=mU fW f297 n (xg fW [.cell 4 25,.tmp 5,.tmp 6] [] [0,1] 2 kO wo) (cl:=lY [(315,apr 0 false 8 (zh [0] (tY (Uh false Syntax.row) rW) (asA 0 (fun(b:Tt)=>b.1.length) Ho) (tY (Uh false Syntax.row) rW) Fj (fun(b:Tt) a=>(PB n) b.1)))]) (p4:=nR [([0,1,0,1,1,1,1,1,1,1],GQ),([0,0,1,1],GR)]) (cut:=MJ [([1,1,1,1,1,1,1,1,1],[4])]) (tI:=lS []) (tX:=lS [])
def Xr:qY (tS n) [0,1,1,1,1]=true:=jO
def Xs:vL (tS n) [0,1,1,1,1] 3 11 5 11 6 11 10 11:=⟨jO,jO,jO,jO⟩
attribute [go_sem] Xr Xs GQ GR
abbrev GS(v0:Int)(v1:List kp)(v2 v3:Int)(r1:List (kp×jS))(r4:List Syntax)(o5:jS)(c4:Nat):jT:=⟨(mc (.ptr 3 0::qA::qA::.lV 4 c4::.ptr 5 0::qA::.int .i64 v0::lM (lM (lM (qA::qA::qA::.kJ false 1 (mp kS v1)::.int .i64 v2::.int .i64 v3::lM []))))),[.cells [.map 1],.map (mp (Qy (kT jS.kr)) r1),.vz,.cells [.kJ true 0 [],.int .i64 0,.int .i64 0,.str (sb [])],.lV false 8 (mp Syntax.cells r4),.cells (jS.cells o5)],2,[]⟩
abbrev zM:List Kt:=[.pF 2,.cut [1,1,1,1,1,1,1,1],.at [1,1,1,1,1,1,1,1]]
abbrev GU:=Int->(List kp)->Int->Int->Tb->(List Syntax)->jS->Option TZ
abbrev Wg(K:List Kt)(Z:GU):Prop:=∀v0 v1 v2 v3 r1 r4 o5 c4,c4=r4.length->run (tS n) K (GS v0 v1 v2 v3 r1 r4 o5 c4)=Z v0 v1 v2 v3 r1 r4 o5
abbrev GV(r1:List (kp×jS))(o2:Syntax)(r4:List Syntax)(c4:Nat):jT:=⟨(.ptr 0 0::qA::qA::.ptr 2 0::.ptr 3 0::qA::qA::.lV 4 c4::uw (mc (mc (qA::[])))),[.cells [.map 1],.map (mp (Qy (kT jS.kr)) r1),.cells (Syntax.cells o2),.cells [.kJ true 0 [],.int .i64 0,.int .i64 0,.str (sb [])],.lV false 8 (mp Syntax.cells r4)],2,[]⟩
abbrev GW:=Tb->Syntax->(List Syntax)->Option TZ
abbrev Wh(K:List Kt)(Z:GW):Prop:=∀r1 o2 r4 c4,c4=r4.length->run (tS n) K (GV r1 o2 r4 c4)=Z r1 o2 r4
attribute [go_sem] GS zM GV
def zN:LB (Wg n) [0,1,0,1,1,1,1,1,1,1] zM:=mB
def zO:Nat->GU:=sR ((zN n).1)
def asV{n:Nat}:zO n (m+1)=(zN n).1 (zO n m):=rfl
@[go_sem]def QL(m:Nat):=ud (zN n) (zO n) m
def zP:LB (Wh n) [0,0,1,1] [.pF 0,.cut [1,1,1],.at [1,1,1]]:=mB
def zQ:Nat->GW:=sR ((zP n).1)
def asW{n:Nat}:zQ n (m+1)=(zP n).1 (zQ n m):=rfl
@[go_sem]def QM(m:Nat):=ud (zP n) (zQ n) m
def HT:SX (tS n) (l5 0 (l1 (kT Syntax.kr) kM)) kO 81 wO:=mC
def yb:=fu fun n=>(HT n).1
def zR:∀n:Nat,zD fW 297 (l5 0 (l1 (kT Syntax.kr) kM)) kO kO wo (wO (yb n)):=WS fun n=>G6 (HT n) (gd (jR (acu (oZ (fun b a r h=>(aa1 n) b.1 r h))) jU) jV) func297 ntmps297 results297
open Go.Proofs
@[reducible] def atH:kL Int:=mU fW f285 n (lR fW [.tmp 4] (li .i64)) (cl:=lY [(78,nh (kT jS.kr) mh (FS n)),(140,nh (kT jS.kr) mh (C6 n))])
def agX:IO (atH n) (kT jS.kr) (li .i64) 51:=mB
def KA:=fu fun n=>(agX n).1
def I5:∀n:Nat,th fW 285 (kT jS.kr) (li .i64) (li .i64) (KA n):=vM fun n=>ug (agX n) (gd (jR (lA (C5 n)) (jR (lA (Bx n)) jU)) jV) func285 ntmps285 results285
def R3:sN:=⟨[],[],(ux (ux (lH (lH (l8 (l8 (l8 (zA::zA::zA::zK::l8 (l8 (zA::zA::zA::[])))))))))),[oK],none,none⟩
def R4:sN:=⟨[],[],(zK::l8 (zA::zA::zK::zK::zK::zA::zA::zK::ux (ux (lH (lH (l8 (l8 (l8 (zA::zA::[]))))))))),[],none,none⟩
def R5:sN:=⟨[],[],(zK::l8 (zA::zA::zK::zK::zK::ux (ux (lH (lH (lH (zA::[]))))))),[],none,none⟩
@[reducible] def zn:kL Int:=mU fW f276 n (lR fW [.tmp 4] (li .i64)) (cl:=lY [(302,nr lW (li .u8) (li .i64) (strings_IndexByte n)),(303,nh (li .i32) mh (Nt n))]) (cd:=yA [(302,oV (nr lW (li .u8) (li .i64) (strings_IndexByte n)))]) (p4:=nR [([0,1,0,0,1,1,1,0,1],R3),([0,1,0,1,0,0,1,0,0,0,1,1,1,1,0,1,1,1,1,1,1,0,1],R4),([0,0,1,1,1,1,0,1,1,1,1,1,1,0,1],R5)]) (tI:=lS []) (tX:=lS [])
def ama:aKF (zn n) [0,0,0,0,1,0,0,0,1,1,1,1,0,1,1,1,1,1,1,0,1] [0,0,0,1,0,0,1,0,1,0,0,1,0,0,0,1,1,1,1,0,1,1,1,1,1,1,0,1] [0,0,1,0,0,0,1,0,0,0,1,1,1,1,0,1,1,1,1,1,1,0,1]:=⟨jO,jO,jO⟩
attribute [go_sem] ama R3 R4 R5
abbrev R6(iv0:kp)(ip0:Nat):jT:=⟨(uw (uw (lM (lM (mc (mc (mc (qA::qA::qA::.ptr 0 0::mc (mc (qA::qA::qA::[])))))))))),[.iter (sb iv0) ip0],0,[]⟩
abbrev R7:List Kt:=[.pF 9,.cut [1,0,1,1,1,0,1],.at [1,0,1,1,1,0,1],.pF 0]
abbrev R8:=kp->Nat->Option Int
abbrev ajP(K:List Kt)(Z:R8):Prop:=∀iv0 ip0,run (zn n) K (R6 iv0 ip0)=Z iv0 ip0
abbrev R9(v0 v1:kp)(v2 v3 v4:Int):jT:=⟨(.str (sb v0)::mc (qA::qA::.str (sb v1)::.int .i64 v2::.int .i64 v3::qA::qA::.int .i64 v4::uw (uw (lM (lM (mc (mc (mc (qA::qA::[]))))))))),[],0,[]⟩
abbrev Sa(m3:Nat):List Kt:=[.pF 3,.cut [1,1,0,0,1,0,0,0,1,1,1,1,0,1,1,1,1,1,1,0,1],.at [1,1,0,0,1,0,0,0,1,1,1,1,0,1,1,1,1,1,1,0,1],.pF 2,.lp m3 [0,0,1,1,1,1,0,1,1,1,1,1,1,0,1],.pF 1,.cut [1,1,1,1,1,0,1,1,1,1,1,1,0,1],.at [1,1,1,1,1,0,1,1,1,1,1,1,0,1],.pF 0]
abbrev Sb:=kp->kp->Int->Int->Int->Option Int
abbrev ajQ(K:List Kt)(Z:Sb):Prop:=∀v0 v1 v2 v3 v4,run (zn n) K (R9 v0 v1 v2 v3 v4)=Z v0 v1 v2 v3 v4
abbrev Sc(v0 v1:kp)(v2 v3:Int):jT:=⟨(.str (sb v0)::mc (qA::qA::.str (sb v1)::.int .i64 v2::.int .i64 v3::uw (uw (lM (lM (lM (qA::[]))))))),[],0,[]⟩
abbrev BD:List Kt:=[.pF 1,.cut [1,1,1,1,1,0,1,1,1,1,1,1,0,1],.at [1,1,1,1,1,0,1,1,1,1,1,1,0,1],.pF 0]
abbrev BE:=kp->kp->Int->Int->Option Int
abbrev HU(K:List Kt)(Z:BE):Prop:=∀v0 v1 v2 v3,run (zn n) K (Sc v0 v1 v2 v3)=Z v0 v1 v2 v3
attribute [go_sem] R6 R7 R9 Sa Sc BD
def HV:LB (ajP n) [0,1,0,0,1,1,1,0,1] R7:=mB
def HW:Nat->R8:=sR ((HV n).1)
def aAA{n:Nat}:HW n (m+1)=(HV n).1 (HW n m):=rfl
@[go_sem]def L5(m:Nat):=ud (HV n) (HW n) m
def HX:LB2 (HU n) [0,0,1,1,1,1,0,1,1,1,1,1,1,0,1] BD (ajQ n) [0,1,0,1,0,0,1,0,0,0,1,1,1,1,0,1,1,1,1,1,1,0,1] Sa:=mB
def HY(X3:BE):Nat->Sb:=sR ((HX n).1 X3)
def aAB{n:Nat}(X3:BE):HY n X3 (m+1)=(HX n).1 X3 (HY n X3 m):=rfl
def ac7{X3}(h3:HU n (.lq m3 [0,0,1,1,1,1,0,1,1,1,1,1,1,0,1]::BD) X3)(m:Nat):=aDx (HX n) h3 (HY n X3) m
def HZ:LB (HU n) [0,0,1,1,1,1,0,1,1,1,1,1,1,0,1] BD:=by
 apply gu;intro m X0 ih v0 v1 v2 v3;simp (config:={maxSteps:=100000000}) only[go_sem,ga,gb,fX,fY,gf,gh,gj,gk,gp,fZ,gi,gq,f276,gr,mixed,L5 n,ac7 n ih,ih];exact rfl
def H6:Nat->BE:=sR ((HZ n).1)
def aAC{n:Nat}:H6 n (m+1)=(HZ n).1 (H6 n m):=rfl
@[go_sem]def ac8(m:Nat):=ud (HZ n) (H6 n) m
def Vn:IO (zn n) lW (li .i32) 187:=mB
def NP:=fu fun n=>(Vn n).1
def Sd:∀n:Nat,th fW 276 lW (li .i32) (li .i64) (NP n):=vM fun n=>ug (Vn n) (gd (jR (lj (RJ n)) (jR (lA (YP n)) jU)) (k7 (oQ (RJ n)) jV)) func276 ntmps276 results276
@[go_sem]def xb:=(l5 0 (l5 1 (l5 2 (l1 (aaJ 85 (kT kj.kr)) kM))))
@[reducible] def vF:kL (Tl×Unit):=mU fW f41 n (xg fW [] [] [0,1,2] 3 kG kM) (cl:=lY [(42,agN (amW n))]) (tI:=lS []) (tX:=lS [])
@[go_sem]def aof:qY (vF n) [1,0,1,1]=true:=jO
@[go_sem]def aog:vL (vF n) [1,0,1,1] 2 6 5 6 2 7 4 7/\axu (vF n) [1,0,1,1] 5 7 6 7:=⟨⟨jO,jO,jO,jO⟩,jO,jO⟩
def Xt:{B:kj->Syntax->Int->Int->Option (Tl×Unit) //∀(a0:kj)(o0:Syntax)(o1:Int)(o2:Int),run (vF n) [.kH (uc (vF n) [0]) ((uc (vF n) [0]).toList.drop 1),.cut [1],.at [1]] (jT.put {kf:=((l5 0 (l5 1 (l5 2 kM))).enc (kG.mo ((o0,()),(o1,()),(o2,()),())) ())++List.replicate (15-((l5 0 (l5 1 (l5 2 kM))).enc (kG.mo ((o0,()),(o1,()),(o2,()),())) ()).length) qA,heap:=(kG.enc (kG.mo ((o0,()),(o1,()),(o2,()),())) ((o0,()),(o1,()),(o2,()),())),low:=(kG.enc (kG.mo ((o0,()),(o1,()),(o2,()),())) ((o0,()),(o1,()),(o2,()),())).length} (some 5) ((aaJ 85 (kT kj.kr)).enc a0))=B a0 o0 o1 o2}:=mB
def I6:=fu fun n=>(Xt n).1
def amb:∀(n:Nat)(a0:kj)(o0:Syntax)(o1:Int)(o2:Int)(r:(Tl×Unit)),I6 n a0 o0 o1 o2=some r->FnT fW (axl fW 41) (xb.enc (kG.mo ((o0,()),(o1,()),(o2,()),())) (a0,())) (kG.enc (kG.mo ((o0,()),(o1,()),(o2,()),())) ((o0,()),(o1,()),(o2,()),())) (fun o H'=>o=(enR kG kM r).1/\H'=(enR kG kM r).2)
 |0,_,_,_,_,_,h=>by cases h
 |n+1,a0,o0,o1,o2,r,h=>by
  exact apA (M:=vF n) (p1:=[]) (b1:=[0,1,2]) (args:=((l5 0 (l5 1 (l5 2 kM))).enc (kG.mo ((o0,()),(o1,()),(o2,()),())) ())) (x:=(aaJ 85 (kT kj.kr)).enc a0) ⟨(jR (mY (arH n)) jU),jV,oX _,pJ _,q7,q8,rR,rH⟩ func41 rfl (jO) (so (Nat.le_trans (jJ (jO)) (Nat.le_of_eq (kG.sz _ _).symm)) _ (xb.nb (kG.mo ((o0,()),(o1,()),(o2,()),())) (a0,()))) (fun x hx=>Ak (Nat.le_trans (jJ (jO)) (Nat.le_of_eq (kG.sz _ _).symm)) _ (kG.nb _ _ x hx)) ntmps41 results41 (low:=3) (by rfl) rfl (((Xt n).2 a0 o0 o1 o2).trans h)
@[reducible] def amc:kL Bool:=mU fW f244 n (lR fW [.tmp 4] mh) (cl:=lY [(280,nr lW lW mh (C7 n))])
def Vo:IO (amc n) lW lW 8:=mB
def ZN:=fu fun n=>(Vo n).1
def ajR:∀n:Nat,th fW 244 lW lW mh (ZN n):=vM fun n=>ug (Vo n) (gd (jR (lj (ML n)) jU) jV) func244 ntmps244 results244
@[reducible] def Se:kL Int:=mU fW f84 n (lR fW [.tmp 2] (li .i64)) (cd:=yA [(94,oV (nh (uO jQ.kr) (kT lD.kr) (ny n)))]) (tI:=lS []) (tX:=lS [])
@[go_sem]def ajS:qY (Se n) [0,1]=true:=jO
def Sf:IT (Se n) (uO jQ.kr) 11:=mB
def vG:=fu fun n=>(Sf n).1
def uP:∀n:Nat,tL fW 84 (uO jQ.kr) (li .i64) (vG n):=vD fun n=>uy (Sf n) (gd jU (k7 (nk (mP n)) jV)) func84 ntmps84 results84
@[reducible] def H7:kL (Te×(kp×Unit)):=mU fW f88 n (aru fW [.tmp 2] (tY (AA jQ.kr) rW) (Ui lW Fj) 1) (cl:=lY [(94,D5 (oV (nh (uO jQ.kr) (kT lD.kr) (ny n))))]) (tI:=lS []) (tX:=lS [])
@[go_sem]def ajT:qY (H7 n) [0,0,1,1]=true:=jO
def Sg:{B:jQ->Option (Te×(kp×Unit)) //∀(a0:jQ),run (H7 n) [.at []] (ini ((YH 0 Ho).enc (a0,()) ()) 26 ((tY (AA jQ.kr) rW).enc (a0,())))=B a0}:=mB
def ni:=fu fun n=>(Sg n).1
def mA:∀(n:Nat)(a0:jQ)(r:(Te×(kp×Unit))),ni n a0=some r->FnG fW 88 ((YH 0 Ho).enc (a0,()) ()) ((tY (AA jQ.kr) rW).enc (a0,())) (fun o H'=>o=.ret (sE ((Ui lW Fj).enc r.1 r.2))/\H'=(tY (AA jQ.kr) rW).enc r.1)
 |0,_,_,h=>by cases h
 |n+1,a0,r,h=>by
  exact vh (M:=H7 n) ⟨(jR (qp (nk (mP n))) jU),jV,oX _,pJ _,q7,q8,rR,rH⟩ func88 rfl rfl (by simp only[go_sem,ga,gb,fX,fY,gf,gh,gj,gk,gp,fZ,gi,gq]) ((tY (AA jQ.kr) rW).nb _ _) ntmps88 results88 (fun J hs=>Zl hs) (((Sg n).2 a0).trans h)
open Go.Proofs
@[reducible] def aoh:kL Bool:=mU fW f85 n (lR fW [.tmp 6] mh) (cl:=lY [(94,nh (uO jQ.kr) (kT lD.kr) (ny n))])
def Xu:SC3 (aoh n) (uO jQ.kr) (li .i64) lW 20:=mB
def An:=fu fun n=>(Xu n).1
def zr:∀n:Nat,apD fW 85 (uO jQ.kr) (li .i64) lW mh (An n):=aF4 fun n=>avJ (Xu n) (gd (jR (lA (mP n)) jU) jV) func85 ntmps85 results85
@[reducible] def afy:kL Bool:=mU fW f207 n (lR fW [.tmp 2] mh) (cl:=lY [(12,nr lW lW mh (strings_Contains n)),(94,nh (uO jQ.kr) (kT lD.kr) (ny n))])
def NQ:IT (afy n) (uO jQ.kr) 15:=mB
def BF:=fu fun n=>(NQ n).1
def Dc:∀n:Nat,tL fW 207 (uO jQ.kr) mh (BF n):=vD fun n=>uy (NQ n) (gd (jR (lj (Cx n)) (jR (lA (mP n)) jU)) jV) func207 ntmps207 results207
def ac9:sN:=⟨[],[],(zA::zK::zK::lH (lH (zA::zA::zA::zK::zK::l8 (l8 (l8 (zA::zA::[])))))),[oC [zK,zK,zK,zK,zK,zK,zK,zK],oK,oA kW,oA jZ.row,oA Syntax.row],none,none⟩
def ada:sN:=⟨[],[],(zA::zK::zK::l8 (l8 (l8 (zK::zK::lH (lH (l8 (zA::[]))))))),[oC [zK,zK,zK,zK,zK,zT (lz Syntax.row),zK,zK],oK,oA kW,oA jZ.row],none,none⟩
@[reducible] def xm(X:Syntax->Option Syntax)(n:Nat):kL Syntax:=mU fW f208 n (lR fW [.cell 2 37] (kT Syntax.kr)) (cl:=lY [(37,zh [] rW (asT (lz kW) Ho) (tY (Uh true kW) rW) (rsA 0 (fun(b:Tf)=>b.1.length) Fj) (fun(b:Unit) a=>(yK n) a.1)),(247,zh [] rW (asT (lz jZ.row) Ho) (tY (Uh false jZ.row) rW) (rsA 0 (fun(b:(Tj×Unit))=>b.1.length) Fj) (fun(b:Unit) a=>(HM n) a.1)),(249,zh [] rW (asT (lz Syntax.row) Ho) (tY (Uh false Syntax.row) rW) (rsA 0 (fun(b:Tt)=>b.1.length) Fj) (fun(b:Unit) a=>(PD n) a.1))]) (cd:=yA [(208,oV (nh (kT Syntax.kr) (kT Syntax.kr) X)),(248,oV (nh (lz j8.row) (lz j8.row) (Nw n)))]) (p4:=nR [([0,1,0,1,1,1,1,1],ac9),([0,1,0,1,1,1],ada)]) (cut:=MJ [([1,1,1,1,1,1],[3,4])]) (tI:=lS []) (tX:=lS [])
def atI(X:Syntax->Option Syntax)(n:Nat):an0 (xm X n) [1,0,0,1,1,0,0,1,0,1,1,1] [1,0,0,1,1,0,0,1,0,1,1,1,1,1]:=⟨jO,jO⟩
def atJ(X:Syntax->Option Syntax)(n:Nat):vL (xm X n) [1,0,0,1,1,0,0,1,0,1,1,1] 1 12 4 12 6 12 8 12/\MV (xm X n) [1,0,0,1,1,0,0,1,0,1,1,1] 10 12=true/\vL (xm X n) [1,0,0,1,1,0,0,1,0,1,1,1,1,1] 1 10 4 10 6 10 7 10/\MV (xm X n) [1,0,0,1,1,0,0,1,0,1,1,1,1,1] 9 10=true:=⟨⟨jO,jO,jO,jO⟩,jO,⟨jO,jO,jO,jO⟩,jO⟩
attribute [go_sem] atI atJ ac9 ada
@[go_sem]abbrev adb(v0 v1 v2:Int)(v3:kp)(v4 v5 v6:Int)(r2:List kp)(r3:List jZ)(r4:List Syntax)(c2:Nat)(c3:Nat)(c4:Nat):jT:=⟨(qA::.ptr 0 0::.ptr 1 0::lM (lM (qA::qA::qA::.int .i64 v0::.int .i64 v1::mc (mc (mc (qA::qA::[])))))),[.cells [.int .i64 v2,.str (sb v3),.int .i64 v4,.lV 2 c2,.lV 3 c3,.lV 4 c4,.int .i64 v5,.int .i64 v6],.cells [.int .i64 0,.str (sb []),.int .i64 0,.kJ true 0 [],.kJ true 0 [],.kJ true 0 [],.int .i64 0,.int .i64 0],.lV true 1 (mp kS r2),.lV false 2 (mp jZ.cells r3),.lV false 8 (mp Syntax.cells r4)],0,[]⟩
abbrev ade:=Int->Int->Int->kp->Int->Int->Int->(List kp)->Tj->(List Syntax)->Option Syntax
abbrev arR(X:Syntax->Option Syntax)(n:Nat)(K:List Kt)(Z:ade):Prop:=∀v0 v1 v2 v3 v4 v5 v6 r2 r3 r4 c2 c3 c4,c2=r2.length->c3=r3.length->c4=r4.length->run (xm X n) K (adb v0 v1 v2 v3 v4 v5 v6 r2 r3 r4 c2 c3 c4)=Z v0 v1 v2 v3 v4 v5 v6 r2 r3 r4
@[go_sem]abbrev adf(v0 v1 v2:Int)(v3:kp)(v4:Int)(v5:List Syntax)(v6 v7:Int)(r2:List kp)(r3:List jZ)(c2:Nat)(c3:Nat):jT:=⟨(qA::.ptr 0 0::.ptr 1 0::mc (mc (mc (.int .i64 v0::.int .i64 v1::lM (lM (mc (qA::[]))))))),[.cells [.int .i64 v2,.str (sb v3),.int .i64 v4,.lV 2 c2,.lV 3 c3,.kJ false 8 (mp Syntax.cells v5),.int .i64 v6,.int .i64 v7],.cells [.int .i64 0,.str (sb []),.int .i64 0,.kJ true 0 [],.kJ true 0 [],.kJ true 0 [],.int .i64 0,.int .i64 0],.lV true 1 (mp kS r2),.lV false 2 (mp jZ.cells r3)],0,[]⟩
abbrev adg:=Int->Int->Int->kp->Int->(List Syntax)->Int->Int->(List kp)->Tj->Option Syntax
abbrev arS(X:Syntax->Option Syntax)(n:Nat)(K:List Kt)(Z:adg):Prop:=∀v0 v1 v2 v3 v4 v5 v6 v7 r2 r3 c2 c3,c2=r2.length->c3=r3.length->run (xm X n) K (adf v0 v1 v2 v3 v4 v5 v6 v7 r2 r3 c2 c3)=Z v0 v1 v2 v3 v4 v5 v6 v7 r2 r3
def QN(X:Syntax->Option Syntax)(n:Nat):LB (arR X n) [0,1,0,1,1,1,1,1] [.pF 2,.cut [1,1,1,1,1,1],.at [1,1,1,1,1,1]]:=mB
def QO(X:Syntax->Option Syntax)(n:Nat):Nat->ade:=sR ((QN X n).1)
def aF9(X:Syntax->Option Syntax){n:Nat}:QO X n (m+1)=(QN X n).1 (QO X n m):=rfl
@[go_sem]def amd(X:Syntax->Option Syntax)(n:Nat)(m:Nat):=ud (QN X n) (QO X n) m
def QP(X:Syntax->Option Syntax)(n:Nat):LB (arS X n) [0,1,0,1,1,1] [.pF 0,.cut [1,1,1,1],.at [1,1,1,1]]:=mB
def QQ(X:Syntax->Option Syntax)(n:Nat):Nat->adg:=sR ((QP X n).1)
def aGa(X:Syntax->Option Syntax){n:Nat}:QQ X n (m+1)=(QP X n).1 (QQ X n m):=rfl
@[go_sem]def ame(X:Syntax->Option Syntax)(n:Nat)(m:Nat):=ud (QP X n) (QQ X n) m
def agY(X:Syntax->Option Syntax)(n:Nat):IT (xm X n) (kT Syntax.kr) 54:=mB
def Rd:Nat->Syntax->Option Syntax
 |0,_=>none
 |n+1,a0=>(agY (Rd n) n).1 a0
def adh:∀n:Nat,tL fW 208 (kT Syntax.kr) (kT Syntax.kr) (Rd n)
 |0=>fun _ _ h=>(by cases h)
 |n+1=>by
  have arT:=adh n;exact uy (agY (Rd n) n) (gd (jR (oZ (fun b a r h=>(HL n) a.1 r h)) (jR (oZ (fun b a r h=>(RO n) a.1 r h)) (jR (oZ (fun b a r h=>(aa6 n) a.1 r h)) jU))) (k7 (nk (arT)) (k7 (nk (YT n)) jV))) func208 ntmps208 results208
@[reducible] def BG:kL (Te×(Syntax×Unit)):=mU fW f150 n (aru fW [.cell 2 37] (tY (AA jQ.kr) rW) (Ui (kT Syntax.kr) Fj) 1) (co:=VZ [(205,agF (oV (nh (uO jQ.kr) (li .i64) (uJ n))))]) (tI:=lS [205]) (tX:=lS [])
@[go_sem]def ajU:qY (BG n) [0,1]=true:=jO
@[go_sem]def ajV:avI (BG n) [0,1] 3 7 3 9 7 9:=⟨jO,jO,jO⟩
def Sh:{B:jQ->Option (Te×(Syntax×Unit)) //∀(a0:jQ),run (BG n) [.at []] (ini ((YH 0 Ho).enc (a0,()) ()) 12 ((tY (AA jQ.kr) rW).enc (a0,())))=B a0}:=mB2
def Lt:=fu fun n=>(Sh n).1
def PN:∀(n:Nat)(a0:jQ)(r:(Te×(Syntax×Unit))),Lt n a0=some r->FnG fW 150 ((YH 0 Ho).enc (a0,()) ()) ((tY (AA jQ.kr) rW).enc (a0,())) (fun o H'=>o=.ret (sE ((Ui (kT Syntax.kr) Fj).enc r.1 r.2))/\H'=(tY (AA jQ.kr) rW).enc r.1)
 |0,_,_,h=>by cases h
 |n+1,a0,r,h=>by
  exact vh (M:=BG n) ⟨jU,jV,oX _,pJ _,q7,q8,rR,(nS (Rz (nk (tM n))) tK)⟩ func150 rfl rfl (by simp only[go_sem,ga,gb,fX,fY,gf,gh,gj,gk,gp,fZ,gi,gq]) ((tY (AA jQ.kr) rW).nb _ _) ntmps150 results150 (fun J hs=>Zl hs) (((Sh n).2 a0).trans h)
@[go_sem]def H8:sN:=⟨[],[],(zK::zT (uO (cL ke.row))::zA::zK::l8 (l8 (l8 (zA::zA::zA::[])))),[oL [zA,zA,zA,zK,zA,zK,zA,zA,zA,zA,zA,zA,zA,zA,zA,zA,zA,zA,zA,zA,zA,zA,zA,zA,zA,zA,zA,zA,zA],oT Syntax.kr,oT Syntax.kr],none,none⟩
@[go_sem]def wQ:=(VY 0 (l1 (uO (cL ke.row)) kM))
@[go_sem]abbrev xy(F:TG->Syntax->Syntax->Option (Tw×Unit))(b:T19)(a:(TG×Unit)):=F a.1 b.2.1.1 b.2.2.1.1
@[go_sem]def Js(F:TG->Syntax->Syntax->Option (Tw×Unit)):=Hp [.arg 0 [],.vC 0 3 [],.vC 0 5 []] lF wQ nM kM (xy F)
@[reducible] def Jt:kL (Tw×Unit):=mU fW f246 n (xg fW [] [] [0,1,2] 3 nM kM) (p4:=nR [([0,1],H8)]) (cy:=avy [(0,aC5 [.vC 0 3 [],.vC 0 5 []] lF uA nM (l1 mh kM) (fun(b:T19)(a:(Int×(ke×Unit)))=>(Nx n) a.1 a.2.1 b.2.1.1 b.2.2.1.1))])
attribute [go_sem] EC
@[go_sem]abbrev H9(v0:List ke)(v1 j0:Int)(o1 o2:Syntax):jT:=⟨(.map 0::.pp [.kJ false 9 (mp ke.cells v0)]::qA::.int .i64 v1::mc (mc (mc (qA::qA::qA::[])))),[.loop qc [qA,qA,qA,.ptr 1 0,qA,.ptr 2 0,qA,qA,qA,qA,qA,qA,qA,qA,qA,qA,qA,qA,qA,qA,qA,qA,qA,qA,qA,qA,qA,qA,qA] (stJ qc j0) j0,.cells (Syntax.cells o1),.cells (Syntax.cells o2)],3,[]⟩
abbrev Ia:=TG->Int->Int->Syntax->Syntax->Option (Tw×Unit)
abbrev Xv(K:List Kt)(Z:Ia):Prop:=∀v0 v1 j0 o1 o2,run (Jt n) K (H9 v0 v1 j0 o1 o2)=Z v0 v1 j0 o1 o2
def AP:LB (Xv n) [0,1] [.pF 0]:=mB
def AQ:Nat->Ia:=sR ((AP n).1)
def atK{n:Nat}:AQ n (m+1)=(AP n).1 (AQ n m):=rfl
@[go_sem]def Si(m:Nat):=ud (AP n) (AQ n) m
def Ju:SX (Jt n) wQ lF 19 xy:=mC
def L6:=fu fun n=>(Ju n).1
def Xw:∀n:Nat,zD fW 246 wQ lF nM kM (xy (L6 n)):=WS fun n=>G6 (Ju n) (gd jU jV (y:=(MX (fun _ _ _ _ _ h=>apu (fun b a r h=>(YU n) a.1 a.2.1 b.2.1.1 b.2.2.1.1 r h) h) Rx))) func246 ntmps246 results246
@[go_sem]def jP:=(tg (Bl (VX jQ.kr 6 kM)) Bi)
@[go_sem]abbrev yQ(F:jQ->Option TK)(b:T6)(a:Unit):=F b.1.1
@[go_sem]def adi(F:jQ->Option TK):=Hp [.arg 0 []] jP (l5 0 kM) jP (l1 lW kM) (yQ F)
@[reducible] def L7:kL TK:=mU fW f88 n (xg fW [.tmp 2] [] [0] 1 jP (l1 lW kM)) (cl:=lY [(94,D5 (oV (nh (uO jQ.kr) (kT lD.kr) (ny n))))]) (tI:=lS []) (tX:=lS [])
@[go_sem]def adj:qY (L7 n) [0,0,1,1]=true:=jO
def L8:SX (L7 n) (l5 0 kM) jP 26 yQ:=mC
def PO:=fu fun n=>(L8 n).1
def abm:∀n:Nat,zD fW 88 (l5 0 kM) jP jP (l1 lW kM) (yQ (PO n)):=WS fun n=>G6 (L8 n) (gd (jR (qp (nk (mP n))) jU) jV) func88 ntmps88 results88
open Go.Proofs
@[reducible] def afz:kL Bool:=mU fW f210 n (lR fW [.tmp 2] mh) (cl:=lY [(94,nh (uO jQ.kr) (kT lD.kr) (ny n))])
def NR:IT (afz n) (uO jQ.kr) 48:=mB
def Ib:=fu fun n=>(NR n).1
def L9:∀n:Nat,tL fW 210 (uO jQ.kr) mh (Ib n):=vD fun n=>uy (NR n) (gd (jR (lA (mP n)) jU) jV) func210 ntmps210 results210
@[go_sem]def KB:sN:=⟨[(6,1,true)],[],(l8 (zA::zT (tyF 213)::zK::lH (l8 (zT (lz lD.row)::zK::zK::lH (l8 (l8 (zA::zA::zA::[]))))))),[oT jQ.kr,oA kW],none,none⟩
@[reducible] def Dd:kL (Te×Tf):=mU fW f157 n (aru fW [.tmp 4] (tY (AA jQ.kr) rW) (Ui (lz kW) Fj) 1) (cl:=lY [(12,nr lW lW mh (strings_Contains n)),(213,nr (kT lD.kr) lW mh (L3 n))]) (p4:=nR [([0,1,0,1,1,1,1],KB)])
@[go_sem]abbrev KC(v0:List lD)(v1 v2:Int)(o0:jQ)(r1:List kp)(c1:Nat):jT:=⟨(mc (qA::.func (.func 213) [] []::.lV 1 c1::lM (mc (.kJ false 3 (mp lD.cells v0)::.int .i64 v1::.int .i64 v2::lM (mc (mc (qA::qA::qA::[]))))))),[.cells (jQ.cells o0),.lV true 1 (mp kS r1)],1,[]⟩
abbrev KD:=(List lD)->Int->Int->jQ->(List kp)->Option (Te×Tf)
abbrev abn(K:List Kt)(Z:KD):Prop:=∀v0 v1 v2 o0 r1 c1,c1=r1.length->run (Dd n) K (KC v0 v1 v2 o0 r1 c1)=Z v0 v1 v2 o0 r1
def B6:LB (abn n) [0,1,0,1,1,1,1] [.pF 0,.cut [1,1,1,1,1],.at [1,1,1,1,1]]:=mB
def B7:Nat->KD:=sR ((B6 n).1)
def awf{n:Nat}:B7 n (m+1)=(B6 n).1 (B7 n m):=rfl
@[go_sem]def Wi(m:Nat):=ud (B6 n) (B7 n) m
def Ma:{B:jQ->Int->Option (Te×Tf) //∀(a0:jQ)(a1:Int),run (Dd n) [.at []] (ini ((YH 0 (asT (li .i64) Ho)).enc (a0,()) (a1,())) 57 ((tY (AA jQ.kr) rW).enc (a0,())))=B a0 a1}:=mB
def PP:=fu fun n=>(Ma n).1
def abo:∀(n:Nat)(a0:jQ)(a1:Int)(r:(Te×Tf)),PP n a0 a1=some r->FnG fW 157 ((YH 0 (asT (li .i64) Ho)).enc (a0,()) (a1,())) ((tY (AA jQ.kr) rW).enc (a0,())) (fun o H'=>o=.ret (sE ((Ui (lz kW) Fj).enc r.1 r.2))/\H'=(tY (AA jQ.kr) rW).enc r.1)
 |0,_,_,_,h=>by cases h
 |n+1,a0,a1,r,h=>by
  exact vh (M:=Dd n) ⟨(jR (lj (Cx n)) (jR (lj (Xf n)) jU)),jV,oX _,pJ _,q7,q8,rR,rH⟩ func157 rfl rfl (by simp only[go_sem,ga,gb,fX,fY,gf,gh,gj,gk,gp,fZ,gi,gq]) ((tY (AA jQ.kr) rW).nb _ _) ntmps157 results157 (fun J hs=>Zl hs) (((Ma n).2 a0 a1).trans h)
@[go_sem]def EM:sN:=⟨[],[],(zA::zK::ux (lH (lH (lH (l8 (zA::zA::zA::[])))))),[oT Syntax.kr],none,none⟩
@[reducible] def qi:kL Bool:=mU fW f124 n (lR fW [.tmp 2] mh) (cl:=lY [(127,nh (li .i64) mh (Ra n)),(181,nh (li .i64) (li .i64) (amX n))]) (cut:=nR [([1,1,1,1,1,1],EM),([1,1,1,1,1],EM),([1,1,1],EM)])
@[go_sem]abbrev vH(o0:Syntax):jT:=⟨(qA::.ptr 0 0::uw (lM (lM (lM (mc (qA::qA::qA::[])))))),[.cells (Syntax.cells o0)],0,[]⟩
def ZP:{B:Syntax->Option Bool //∀(o0:Syntax),run (qi n) [.at [1,1,1,1,1,1]] (vH o0)=B o0}:=by
 apply gu;intro o0;simp (config:={maxSteps:=100000000}) only[go_sem,ga,gb,fX,fY,gf,gh,gj,gk,gp,fZ,gi,gq,f124,gr,mixed];exact rfl
def ZQ(J:jT):Option Bool:=run (qi n) [.at [1,1,1,1,1,1]] J
def JL:run (qi n) [.cut [1,1,1,1,1,1],.at [1,1,1,1,1,1]] J=((qi n).cut [1,1,1,1,1,1] J).bind (ZQ n):=auw
def Ic:∀(o0:Syntax),ZQ n (vH o0)=(ZP n).1 o0:=(ZP n).2
def ZR:{B:Syntax->Option Bool //∀(o0:Syntax),run (qi n) [.at [1,1,1,1,1]] (vH o0)=B o0}:=by
 apply gu;intro o0;simp (config:={maxSteps:=100000000}) only[go_sem,ga,gb,fX,fY,gf,gh,gj,gk,gp,fZ,gi,gq,f124,gr,mixed,↓JL n,Ic n];exact rfl
def ZS(J:jT):Option Bool:=run (qi n) [.at [1,1,1,1,1]] J
def Vp:run (qi n) [.cut [1,1,1,1,1],.at [1,1,1,1,1]] J=((qi n).cut [1,1,1,1,1] J).bind (ZS n):=auw
def Sj:∀(o0:Syntax),ZS n (vH o0)=(ZR n).1 o0:=(ZR n).2
def ZT:{B:Syntax->Option Bool //∀(o0:Syntax),run (qi n) [.at [1,1,1]] (vH o0)=B o0}:=by
 apply gu;intro o0;simp (config:={maxSteps:=100000000}) only[go_sem,ga,gb,fX,fY,gf,gh,gj,gk,gp,fZ,gi,gq,f124,gr,mixed,↓JL n,Ic n,↓Vp n,Sj n];exact rfl
def ZU(J:jT):Option Bool:=run (qi n) [.at [1,1,1]] J
def amf:run (qi n) [.cut [1,1,1],.at [1,1,1]] J=((qi n).cut [1,1,1] J).bind (ZU n):=auw
def ajW:∀(o0:Syntax),ZU n (vH o0)=(ZT n).1 o0:=(ZT n).2
def adk:IT (qi n) (kT Syntax.kr) 121:=by
 apply gu;intro a0;simp (config:={maxSteps:=100000000}) only[go_sem,ga,gb,fX,fY,gf,gh,gj,gk,gp,fZ,gi,gq,f124,gr,mixed,↓JL n,Ic n,↓Vp n,Sj n,↓amf n,ajW n];exact rfl
def ajX:=fu fun n=>(adk n).1
def aqb:∀n:Nat,tL fW 124 (kT Syntax.kr) mh (ajX n):=vD fun n=>uy (adk n) (⟨(jR (lA (QE n)) (jR (lA (arI n)) jU)),jV,oX _,oX _,q7,q8,rR,rH⟩) func124 ntmps124 results124
@[reducible] def Ld:kL Syntax:=mU fW f54 n (lR fW [.cell 6 37] (kT Syntax.kr)) (cd:=yA [(52,oV (nh lW (kT Syntax.kr) (abc n))),(53,oV (nr (kT Syntax.kr) (kT Syntax.kr) (kT Syntax.kr) (abd n)))]) (tI:=lS []) (tX:=lS [])
@[go_sem]def atL:qY (Ld n) [0,1]=true:=jO
@[go_sem]def atM:vL (Ld n) [0,1] 0 8 1 8 2 8 4 8/\MV (Ld n) [0,1] 6 8=true:=⟨⟨jO,jO,jO,jO⟩,jO⟩
def agZ:SC4 (Ld n) (kT Syntax.kr) (kT Syntax.kr) (uO (cF 53)) (uO (cF 52)) 15:=mB
def ana:=fu fun n=>(agZ n).1
def arU:∀n:Nat,aDy fW 54 (kT Syntax.kr) (kT Syntax.kr) (uO (cF 53)) (uO (cF 52)) (kT Syntax.kr) (ana n):=aM2 fun n=>aKG (agZ n) (gd jU (k7 (nk (acU n)) (k7 (oQ (acV n)) jV))) func54 ntmps54 results54
@[go_sem]def adl:sN:=⟨[],[],(zT (lz jS.row)::zA::zA::zK::zK::zK::lH (lH (l8 (zA::zA::[])))),[oA kW],none,none⟩
@[go_sem]def adm:sN:=⟨[(3,1,true)],[],(zT (lz jS.row)::zA::zA::zK::zK::lH (lH (l8 (zA::zA::zA::[])))),[oA kW],none,none⟩
@[reducible] def Uy:kL (List kp):=mU fW f178 n (lR fW [.tmp 2] (lz kW)) (cl:=lY [(229,nr (lz kW) lW mh (alI n))]) (p4:=nR [([0,1,0,0,1,0,0,1,0,1,1],adl),([0,1,0,1,1],adm)])
abbrev adn(v0:List jS)(v1 v2:Int)(r0:List kp)(c0:Nat):jT:=⟨(.kJ false 4 (mp jS.cells v0)::qA::qA::.lV 0 c0::.int .i64 v1::.int .i64 v2::lM (lM (mc (qA::qA::[])))),[.lV true 1 (mp kS r0)],0,[]⟩
abbrev ado(m2:Nat):List Kt:=[.pF 2,.pF 1,.cut [1,1,0,0,1,0,1,1],.at [1,1,0,0,1,0,1,1],.lp m2 [0,1,0,1,1],.pF 0,.cut [1,1,1],.at [1,1,1]]
abbrev adp:=(List jS)->Int->Int->(List kp)->Option (List kp)
abbrev arV(K:List Kt)(Z:adp):Prop:=∀v0 v1 v2 r0 c0,c0=r0.length->run (Uy n) K (adn v0 v1 v2 r0 c0)=Z v0 v1 v2 r0
abbrev adq(v0:List jS)(v1:Int)(r0:List kp)(c0:Nat):jT:=⟨(.kJ false 4 (mp jS.cells v0)::qA::qA::.lV 0 c0::.int .i64 v1::lM (lM (mc (qA::qA::qA::[])))),[.lV true 1 (mp kS r0)],0,[]⟩
abbrev I7:=(List jS)->Int->(List kp)->Option (List kp)
abbrev QR(K:List Kt)(Z:I7):Prop:=∀v0 v1 r0 c0,c0=r0.length->run (Uy n) K (adq v0 v1 r0 c0)=Z v0 v1 r0
attribute [go_sem] adn ado adq
def De:LB2 (QR n) [0,1,0,1,1] [.pF 0,.cut [1,1,1],.at [1,1,1]] (arV n) [0,1,0,0,1,0,0,1,0,1,1] ado:=mB
def Df(X2:I7):Nat->adp:=sR ((De n).1 X2)
def Xx{n:Nat}(X2:I7):Df n X2 (m+1)=(De n).1 X2 (Df n X2 m):=rfl
def amg{X2}(h2:QR n (.lq m2 [0,1,0,1,1]::[.pF 0,.cut [1,1,1],.at [1,1,1]]) X2)(m:Nat):=aDx (De n) h2 (Df n X2) m
def Dg:LB (QR n) [0,1,0,1,1] [.pF 0,.cut [1,1,1],.at [1,1,1]]:=by
 apply gu;intro m X0 ih v0 v1 r0 c0 ec0;subst ec0;simp (config:={maxSteps:=100000000}) only[go_sem,ga,gb,fX,fY,gf,gh,gj,gk,gp,fZ,gi,gq,f178,gr,mixed,amg n ih,ih];exact rfl
def Dh:Nat->I7:=sR ((Dg n).1)
def Xy{n:Nat}:Dh n (m+1)=(Dg n).1 (Dh n m):=rfl
@[go_sem]def amh(m:Nat):=ud (Dg n) (Dh n) m
def Uz:IT (Uy n) (lz jS.row) 44:=mB
def KE:=fu fun n=>(Uz n).1
def adr:∀n:Nat,tL fW 178 (lz jS.row) (lz kW) (KE n):=vD fun n=>uy (Uz n) (gd (jR (lj (aAv n)) jU) jV) func178 ntmps178 results178
@[go_sem]def ZV:sN:=⟨[],[],(zA::zK::zK::zA::zA::zK::l8 (l8 (l8 (zA::zA::zA::[])))),[oT kI.kr],none,none⟩
@[reducible] def ads:kL Bool:=mU fW f227 n (lR fW [.tmp 4] mh) (cl:=lY [(64,nr (lz kW) lW mh (IX n)),(65,nh (kT ky.kr) (lz kW) (Hz n))]) (p4:=nR [([0,1,0,1],ZV)])
@[go_sem]abbrev ZW(v0:kp)(v1:Int)(o0:kI):jT:=⟨(qA::.str (sb v0)::.ptr 0 0::qA::qA::.int .i64 v1::mc (mc (mc (qA::qA::qA::[])))),[.cells (kI.cells o0)],0,[]⟩
abbrev ZX:=kp->Int->kI->Option Bool
abbrev aqc(K:List Kt)(Z:ZX):Prop:=∀v0 v1 o0,run (ads n) K (ZW v0 v1 o0)=Z v0 v1 o0
def BH:LB (aqc n) [0,1,0,1] [.pF 0,.cut [1,1],.at [1,1]]:=mB
def BI:Nat->ZX:=sR ((BH n).1)
def Vq{n:Nat}:BI n (m+1)=(BH n).1 (BI n m):=rfl
@[go_sem]def ajY(m:Nat):=ud (BH n) (BI n) m
def QS:IO (ads n) (kT kI.kr) lW 21:=mB
def NS:=fu fun n=>(QS n).1
def aqd:∀n:Nat,th fW 227 (kT kI.kr) lW mh (NS n):=vM fun n=>ug (QS n) (gd (jR (lj (V2 n)) (jR (lA (M6 n)) jU)) jV) func227 ntmps227 results227
open Go.Proofs
@[go_sem]def anb:sN:=⟨[],[],(zT (lz Rt)::zA::zK::zA::zK::zA::zA::zK::lH (lH (l8 []))),[oT jX.kr],none,none⟩
@[reducible] def afA(X:(List Int)->jX->Int->Option (List Int))(n:Nat):kL (List Int):=mU fW f230 n (lR fW [.tmp 6] (lz Rt)) (cl:=lY [(266,nr (lz Rt) (li .i64) (lz Rt) (alJ n))]) (cd:=yA [(117,oV (nr (li .i64) (li .i64) (li .i64) (Ed n))),(230,oV (Qw (lz Rt) (kT jX.kr) (li .i64) (lz Rt) X))]) (p4:=nR [([0,1,0,1,1],anb)]) (tI:=lS []) (tX:=lS [])
@[go_sem]def aAD(X:(List Int)->jX->Int->Option (List Int))(n:Nat):qY (afA X n) [0,0,1,0,0,1,0,1,1]=true:=jO
@[go_sem]abbrev anc(v0:List Int)(v1 v2:Int)(o0:jX):jT:=⟨(.kJ false 1 (mp LP v0)::qA::.int .i64 v1::qA::.ptr 0 0::qA::qA::.int .i64 v2::lM (lM (mc []))),[.cells (jX.cells o0)],0,[]⟩
abbrev ane:=(List Int)->Int->Int->jX->Option (List Int)
abbrev axR(X:(List Int)->jX->Int->Option (List Int))(n:Nat)(K:List Kt)(Z:ane):Prop:=∀v0 v1 v2 o0,run (afA X n) K (anc v0 v1 v2 o0)=Z v0 v1 v2 o0
def KF(X:(List Int)->jX->Int->Option (List Int))(n:Nat):LB (axR X n) [0,1,0,1,1] [.pF 0,.cut [1,1,1],.at [1,1,1]]:=mB
def Ah(X:(List Int)->jX->Int->Option (List Int))(n:Nat):Nat->ane:=sR ((KF X n).1)
def ag0(X:(List Int)->jX->Int->Option (List Int)){n:Nat}:Ah X n (m+1)=(KF X n).1 (Ah X n m):=rfl
@[go_sem]def arW(X:(List Int)->jX->Int->Option (List Int))(n:Nat)(m:Nat):=ud (KF X n) (Ah X n) m
def Wj(X:(List Int)->jX->Int->Option (List Int))(n:Nat):SC3 (afA X n) (lz Rt) (kT jX.kr) (li .i64) 44:=mB
def yW:Nat->(List Int)->jX->Int->Option (List Int)
 |0,_,_,_=>none
 |n+1,a0,a1,a2=>(Wj (yW n) n).1 a0 a1 a2
def anf:∀n:Nat,apD fW 230 (lz Rt) (kT jX.kr) (li .i64) (lz Rt) (yW n)
 |0=>fun _ _ _ _ h=>(by cases h)
 |n+1=>by
  have axS:=anf n;exact avJ (Wj (yW n) n) (gd (jR (lj (aAx n)) jU) (k7 (oQ (WW n)) (k7 (MW (axS)) jV))) func230 ntmps230 results230
@[go_sem]def ag1:sN:=⟨[],[],(zK::zA::zA::zK::zA::zK::lH (l8 (l8 (l8 (zA::zA::[]))))),[oA kW,oT jX.kr],none,none⟩
@[reducible] def Xz(X:(List kp)->jX->Option (Tf×Unit))(n:Nat):kL (Tf×Unit):=mU fW f63 n (aru fW [.tmp 4] (tY (Uh true kW) rW) (rsA 0 (fun(b:Tf)=>b.1.length) Fj) 1) (cl:=lY [(63,apr 0 true 1 (zh [0] (tY (Uh true kW) rW) (asA 0 (fun(b:Tf)=>b.1.length) (asT (kT jX.kr) Ho)) (tY (Uh true kW) rW) (rsA 0 (fun(b:Tf)=>b.1.length) Fj) (fun(b:Tf) a=>X b.1 a.1))),(120,nr (lz kW) lW mh (Kv n))]) (p4:=nR [([0,1,0,1,1],ag1)])
@[go_sem]abbrev ag2(v0:Int)(r0:List kp)(o1:jX)(c0:Nat):jT:=⟨(.lV 0 c0::qA::qA::.ptr 1 0::qA::.int .i64 v0::lM (mc (mc (mc (qA::qA::[]))))),[.lV true 1 (mp kS r0),.cells (jX.cells o1)],1,[]⟩
abbrev ag3:=Int->(List kp)->jX->Option (Tf×Unit)
abbrev atO(X:(List kp)->jX->Option (Tf×Unit))(n:Nat)(K:List Kt)(Z:ag3):Prop:=∀v0 r0 o1 c0,c0=r0.length->run (Xz X n) K (ag2 v0 r0 o1 c0)=Z v0 r0 o1
def Fm(X:(List kp)->jX->Option (Tf×Unit))(n:Nat):LB (atO X n) [0,1,0,1,1] [.pF 0,.cut [1,1,1],.at [1,1,1]]:=mB
def Br(X:(List kp)->jX->Option (Tf×Unit))(n:Nat):Nat->ag3:=sR ((Fm X n).1)
def ZY(X:(List kp)->jX->Option (Tf×Unit)){n:Nat}:Br X n (m+1)=(Fm X n).1 (Br X n m):=rfl
@[go_sem]def aoi(X:(List kp)->jX->Option (Tf×Unit))(n:Nat)(m:Nat):=ud (Fm X n) (Br X n) m
def XA(X:(List kp)->jX->Option (Tf×Unit))(n:Nat):{B:(List kp)->jX->Option (Tf×Unit) //∀(a0:(List kp))(a1:jX),run (Xz X n) [.at []] (ini ((asA 0 (fun(b:Tf)=>b.1.length) (asT (kT jX.kr) Ho)).enc (a0,()) (a1,())) 36 ((tY (Uh true kW) rW).enc (a0,())))=B a0 a1}:=mB
def yc:Nat->(List kp)->jX->Option (Tf×Unit)
 |0,_,_=>none
 |n+1,a0,a1=>(XA (yc n) n).1 a0 a1
def ag4:∀(n:Nat)(a0:(List kp))(a1:jX)(r:(Tf×Unit)),yc n a0 a1=some r->FnG fW 63 ((asA 0 (fun(b:Tf)=>b.1.length) (asT (kT jX.kr) Ho)).enc (a0,()) (a1,())) ((tY (Uh true kW) rW).enc (a0,())) (fun o H'=>o=.ret (sE ((rsA 0 (fun(b:Tf)=>b.1.length) Fj).enc r.1 r.2))/\H'=(tY (Uh true kW) rW).enc r.1)
 |0,_,_,_,h=>by cases h
 |n+1,a0,a1,r,h=>by
  have atP:=ag4 n;exact vh (M:=Xz (yc n) n) ⟨(jR (acu (oZ (fun b a r h=>(atP) b.1 a.1 r h))) (jR (lj (L4 n)) jU)),jV,oX _,pJ _,q7,q8,rR,rH⟩ func63 rfl rfl (by simp only[go_sem,ga,gb,fX,fY,gf,gh,gj,gk,gp,fZ,gi,gq]) ((tY (Uh true kW) rW).nb _ _) ntmps63 results63 (fun J hs=>Zl hs) (((XA (yc n) n).2 a0 a1).trans h)
def ajZ:sN:=⟨[],[],(zA::zA::zK::zK::zK::l8 (zA::zA::zK::ux (ux (l8 [])))),[oT Syntax.kr,oT Syntax.kr],none,none⟩
def aj0:sN:=⟨[],[],(zA::zA::zK::zK::zK::zA::zA::zK::zK::zK::zK::ux (ux (l8 (zA::[])))),[oT Syntax.kr,oT Syntax.kr,oT jZ.kr,oT jZ.kr],none,none⟩
def aj1:sN:=⟨[],[],(zA::zA::zK::zK::zK::zA::zA::zK::ux (ux (l8 (l8 [])))),[oT Syntax.kr,oT Syntax.kr],none,none⟩
@[reducible] def yd(X:Syntax->Syntax->Bool->Option Bool)(n:Nat):kL Bool:=mU fW f19 n (lR fW [.tmp 6] mh) (cl:=lY [(59,nr (lz kW) (lz kW) mh (K9 n))]) (cd:=yA [(19,oV (Qw (kT Syntax.kr) (kT Syntax.kr) mh mh X))]) (p4:=nR [([0,1,0,1,1,1],ajZ),([0,1,1,1,0,0,1,0,0,1,0,1,1],aj0),([0,1,0,1,1],aj1)]) (tI:=lS []) (tX:=lS [])
def axT(X:Syntax->Syntax->Bool->Option Bool)(n:Nat):aKF (yd X n) [0,0,0,1,0,0,1,0,1,1] [0,0,0,1,0,0,1,0,1,1,1] [0,0,0,1,0,0,1,1,1,0,0,1,0,0,1,0,1,1]:=⟨jO,jO,jO⟩
def axU(X:Syntax->Syntax->Bool->Option Bool)(n:Nat):vL (yd X n) [0,0,0,1,0,0,1,0,1,1] 1 12 3 12 4 12 10 12/\vL (yd X n) [0,0,0,1,0,0,1,0,1,1] 11 12 1 13 3 13 4 13/\vL (yd X n) [0,0,0,1,0,0,1,0,1,1] 6 13 8 13 9 13 10 13/\avI (yd X n) [0,0,0,1,0,0,1,0,1,1] 11 13 12 13 10 11:=⟨⟨jO,jO,jO,jO⟩,⟨jO,jO,jO,jO⟩,⟨jO,jO,jO,jO⟩,jO,jO,jO⟩
attribute [go_sem] axT axU ajZ aj0 aj1
abbrev aj2(v0:Bool)(v1:Int)(o0 o1:Syntax):jT:=⟨(qA::qA::.bool v0::.ptr 0 0::.ptr 1 0::mc (qA::qA::.int .i64 v1::uw (uw (mc [])))),[.cells (Syntax.cells o0),.cells (Syntax.cells o1)],0,[]⟩
abbrev Di:=Bool->Int->Syntax->Syntax->Option Bool
abbrev awg(X:Syntax->Syntax->Bool->Option Bool)(n:Nat)(K:List Kt)(Z:Di):Prop:=∀v0 v1 o0 o1,run (yd X n) K (aj2 v0 v1 o0 o1)=Z v0 v1 o0 o1
abbrev aj3(v0:Bool)(v1 v2:Int)(o0 o1:Syntax)(o2 o3:jZ):jT:=⟨(qA::qA::.bool v0::.ptr 0 0::.ptr 1 0::qA::qA::.int .i64 v1::.ptr 2 0::.ptr 3 0::.int .i64 v2::uw (uw (mc (qA::[])))),[.cells (Syntax.cells o0),.cells (Syntax.cells o1),.cells (jZ.cells o2),.cells (jZ.cells o3)],0,[]⟩
abbrev aj4(m3:Nat):List Kt:=[.pF 2,.pF 1,.cut [1,1,0,0,1,0,1,1],.at [1,1,0,0,1,0,1,1],.lp m3 [0,1,0,1,1],.pF 0,.cut [1,1,1],.at [1,1,1]]
abbrev aj5:=Bool->Int->Int->Syntax->Syntax->jZ->jZ->Option Bool
abbrev awh(X:Syntax->Syntax->Bool->Option Bool)(n:Nat)(K:List Kt)(Z:aj5):Prop:=∀v0 v1 v2 o0 o1 o2 o3,run (yd X n) K (aj3 v0 v1 v2 o0 o1 o2 o3)=Z v0 v1 v2 o0 o1 o2 o3
abbrev aj6(v0:Bool)(v1:Int)(o0 o1:Syntax):jT:=⟨(qA::qA::.bool v0::.ptr 0 0::.ptr 1 0::qA::qA::.int .i64 v1::uw (uw (mc (mc [])))),[.cells (Syntax.cells o0),.cells (Syntax.cells o1)],0,[]⟩
abbrev XB(X:Syntax->Syntax->Bool->Option Bool)(n:Nat)(K:List Kt)(Z:Di):Prop:=∀v0 v1 o0 o1,run (yd X n) K (aj6 v0 v1 o0 o1)=Z v0 v1 o0 o1
attribute [go_sem] aj2 aj3 aj4 aj6
def Ie(X:Syntax->Syntax->Bool->Option Bool)(n:Nat):LB (awg X n) [0,1,0,1,1,1] [.pF 4,.cut [1,1,1,1],.at [1,1,1,1]]:=mB
def If(X:Syntax->Syntax->Bool->Option Bool)(n:Nat):Nat->Di:=sR ((Ie X n).1)
def adt(X:Syntax->Syntax->Bool->Option Bool){n:Nat}:If X n (m+1)=(Ie X n).1 (If X n m):=rfl
@[go_sem]def ZZ(X:Syntax->Syntax->Bool->Option Bool)(n:Nat)(m:Nat):=ud (Ie X n) (If X n) m
def Ig(X:Syntax->Syntax->Bool->Option Bool)(n:Nat):LB2 (XB X n) [0,1,0,1,1] [.pF 0,.cut [1,1,1],.at [1,1,1]] (awh X n) [0,1,1,1,0,0,1,0,0,1,0,1,1] aj4:=mB
def NT(X:Syntax->Syntax->Bool->Option Bool)(n:Nat)(X3:Di):Nat->aj5:=sR ((Ig X n).1 X3)
def adu(X:Syntax->Syntax->Bool->Option Bool){n:Nat}(X3:Di):NT X n X3 (m+1)=(Ig X n).1 X3 (NT X n X3 m):=rfl
def aqe(X:Syntax->Syntax->Bool->Option Bool)(n:Nat){X3}(h3:XB X n (.lq m3 [0,1,0,1,1]::[.pF 0,.cut [1,1,1],.at [1,1,1]]) X3)(m:Nat):=aDx (Ig X n) h3 (NT X n X3) m
def Ih(X:Syntax->Syntax->Bool->Option Bool)(n:Nat):LB (XB X n) [0,1,0,1,1] [.pF 0,.cut [1,1,1],.at [1,1,1]]:=by
 apply gu;intro m X0 ih v0 v1 o0 o1;simp (config:={maxSteps:=100000000}) only[go_sem,ga,gb,fX,fY,gf,gh,gj,gk,gp,fZ,gi,gq,f19,gr,mixed,ZZ X n,aqe X n ih,ih];exact rfl
def AR(X:Syntax->Syntax->Bool->Option Bool)(n:Nat):Nat->Di:=sR ((Ih X n).1)
def adv(X:Syntax->Syntax->Bool->Option Bool){n:Nat}:AR X n (m+1)=(Ih X n).1 (AR X n m):=rfl
@[go_sem]def aqf(X:Syntax->Syntax->Bool->Option Bool)(n:Nat)(m:Nat):=ud (Ih X n) (AR X n) m
def abp(X:Syntax->Syntax->Bool->Option Bool)(n:Nat):SC3 (yd X n) (kT Syntax.kr) (kT Syntax.kr) mh 144:=mB
def vO:Nat->Syntax->Syntax->Bool->Option Bool
 |0,_,_,_=>none
 |n+1,a0,a1,a2=>(abp (vO n) n).1 a0 a1 a2
def aj7:∀n:Nat,apD fW 19 (kT Syntax.kr) (kT Syntax.kr) mh mh (vO n)
 |0=>fun _ _ _ _ h=>(by cases h)
 |n+1=>by
  have awi:=aj7 n;exact avJ (abp (vO n) n) (gd (jR (lj (aoa n)) jU) (k7 (MW (awi)) jV)) func19 ntmps19 results19
open Go.Proofs
@[reducible] def Dj:kL Bool:=mU fW f10 n (lR fW [.tmp 4] mh) (cl:=lY [(39,nr (lz kW) (tyF 96) (li .i64) (tw n))])
def rI:IO (Dj n) (lz kW) (tyF 96) 9:=mB
def sr:=fu fun n=>(rI n).1
def Cq:∀n:Nat,th fW 10 (lz kW) (tyF 96) mh (sr n):=vM fun n=>ug (rI n) (gd (jR (lj (EH n)) jU) jV) func10 ntmps10 results10
@[go_sem]def XC:sN:=⟨[],[],(zA::zK::zK::zA::zA::zK::lH (lH (l8 (l8 (zA::[]))))),[oT lh.kr],none,none⟩
@[reducible] def Z0(X:lh->Int->Option Bool)(n:Nat):kL Bool:=mU fW f254 n (lR fW [.tmp 4] mh) (cl:=lY [(253,nh (kT jX.kr) mh (RR n)),(254,nr (kT lh.kr) (li .i64) mh X)]) (p4:=nR [([0,1,0,1,1],XC)])
@[go_sem]abbrev XD(v0 v1:Int)(o0:lh):jT:=⟨(qA::.int .i64 v0::.ptr 0 0::qA::qA::.int .i64 v1::lM (lM (mc (mc (qA::[]))))),[.cells (lh.cells o0)],0,[]⟩
abbrev XE:=Int->Int->lh->Option Bool
abbrev aoj(X:lh->Int->Option Bool)(n:Nat)(K:List Kt)(Z:XE):Prop:=∀v0 v1 o0,run (Z0 X n) K (XD v0 v1 o0)=Z v0 v1 o0
def AS(X:lh->Int->Option Bool)(n:Nat):LB (aoj X n) [0,1,0,1,1] [.pF 0,.cut [1,1,1],.at [1,1,1]]:=mB
def AT(X:lh->Int->Option Bool)(n:Nat):Nat->XE:=sR ((AS X n).1)
def Sk(X:lh->Int->Option Bool){n:Nat}:AT X n (m+1)=(AS X n).1 (AT X n m):=rfl
@[go_sem]def ahW(X:lh->Int->Option Bool)(n:Nat)(m:Nat):=ud (AS X n) (AT X n) m
def NU(X:lh->Int->Option Bool)(n:Nat):IO (Z0 X n) (kT lh.kr) (li .i64) 47:=mB
def xn:Nat->lh->Int->Option Bool
 |0,_,_=>none
 |n+1,a0,a1=>(NU (xn n) n).1 a0 a1
def XF:∀n:Nat,th fW 254 (kT lh.kr) (li .i64) mh (xn n)
 |0=>fun _ _ _ h=>(by cases h)
 |n+1=>by
  have aok:=XF n;exact ug (NU (xn n) n) (gd (jR (lA (ajx n)) (jR (lj (aok)) jU)) jV) func254 ntmps254 results254
@[go_sem]def ang:sN:=⟨[],[],(zA::zA::zK::zK::zA::zK::lH (lH (lH (l8 (zA::zA::zA::[]))))),[oT jX.kr,oT jX.kr],none,none⟩
@[reducible] def afB(X:jX->jX->Option Bool)(n:Nat):kL Bool:=mU fW f22 n (lR fW [.tmp 4] mh) (cl:=lY [(62,nr (lz kE.row) (lz kE.row) mh (La n))]) (cd:=yA [(22,oV (nr (kT jX.kr) (kT jX.kr) mh X))]) (p4:=nR [([0,1,0,1,1],ang)]) (tI:=lS []) (tX:=lS [])
@[go_sem]def aAE(X:jX->jX->Option Bool)(n:Nat):qY (afB X n) [0,0,0,1,0,0,1,0,1,1]=true:=jO
@[go_sem]abbrev anh(v0:Int)(o0 o1:jX):jT:=⟨(qA::qA::.ptr 0 0::.ptr 1 0::qA::.int .i64 v0::lM (lM (lM (mc (qA::qA::qA::[]))))),[.cells (jX.cells o0),.cells (jX.cells o1)],0,[]⟩
abbrev ani:=Int->jX->jX->Option Bool
abbrev axV(X:jX->jX->Option Bool)(n:Nat)(K:List Kt)(Z:ani):Prop:=∀v0 o0 o1,run (afB X n) K (anh v0 o0 o1)=Z v0 o0 o1
def KG(X:jX->jX->Option Bool)(n:Nat):LB (axV X n) [0,1,0,1,1] [.pF 0,.cut [1,1,1],.at [1,1,1]]:=mB
def KH(X:jX->jX->Option Bool)(n:Nat):Nat->ani:=sR ((KG X n).1)
def ag5(X:jX->jX->Option Bool){n:Nat}:KH X n (m+1)=(KG X n).1 (KH X n m):=rfl
@[go_sem]def arX(X:jX->jX->Option Bool)(n:Nat)(m:Nat):=ud (KG X n) (KH X n) m
def afC(X:jX->jX->Option Bool)(n:Nat):IO (afB X n) (kT jX.kr) (kT jX.kr) 61:=mB
def EN:Nat->jX->jX->Option Bool
 |0,_,_=>none
 |n+1,a0,a1=>(afC (EN n) n).1 a0 a1
def abq:∀n:Nat,th fW 22 (kT jX.kr) (kT jX.kr) mh (EN n)
 |0=>fun _ _ _ h=>(by cases h)
 |n+1=>by
  have axW:=abq n;exact ug (afC (EN n) n) (gd (jR (lj (aoc n)) jU) (k7 (oQ (axW)) jV)) func22 ntmps22 results22
@[go_sem]def ag6:sN:=⟨[],[],(zA::zK::zA::zK::ux (lH (l8 (l8 (l8 []))))),[oT ky.kr],none,none⟩
@[reducible] def aj8:kL Int:=mU fW f256 n (lR fW [.tmp 2] (li .i64)) (cl:=lY [(288,nh (kT ky.kr) mh (ZG n))]) (p4:=nR [([0,1,0,1,1,1],ag6)])
@[go_sem]abbrev ag7(v0:Int)(o0:ky):jT:=⟨(qA::.ptr 0 0::qA::.int .i64 v0::uw (lM (mc (mc (mc []))))),[.cells (ky.cells o0)],0,[]⟩
abbrev ag8:=Int->ky->Option Int
abbrev atQ(K:List Kt)(Z:ag8):Prop:=∀v0 o0,run (aj8 n) K (ag7 v0 o0)=Z v0 o0
def Fo:LB (atQ n) [0,1,0,1,1,1] [.pF 0,.cut [1,1,1,1],.at [1,1,1,1]]:=mB
def Bs:Nat->ag8:=sR ((Fo n).1)
def Z1{n:Nat}:Bs n (m+1)=(Fo n).1 (Bs n m):=rfl
@[go_sem]def aol(m:Nat):=ud (Fo n) (Bs n) m
def XG:IT (aj8 n) (kT ky.kr) 96:=mB
def Wk:=fu fun n=>(XG n).1
def atS:∀n:Nat,tL fW 256 (kT ky.kr) (li .i64) (Wk n):=vD fun n=>uy (XG n) (gd (jR (lA (av9 n)) jU) jV) func256 ntmps256 results256
@[go_sem]def XH:sN:=⟨[],[],(zT (lz ky.row)::l8 (zT (lz kW)::zK::lH (lH (l8 (zA::[]))))),[],none,none⟩
@[reducible] def NV:kL Int:=mU fW f257 n (lR fW [.tmp 4] (li .i64)) (cl:=lY [(24,nr (lz ky.row) lW (LQ (kT Entry.kr) (li .i64)) (QH n)),(65,nh (kT ky.kr) (lz kW) (Hz n)),(162,nh lW mh (EI n))]) (cd:=yA [(64,oV (nr (lz kW) lW mh (IX n)))]) (p4:=nR [([0,1,0,1,1],XH)]) (tI:=lS []) (tX:=lS [])
@[go_sem]def aqg:qY (NV n) [0,1,1,0,0,1,0,0,1,0,1,1]=true:=jO
@[go_sem]abbrev XI(v0:List ky)(v1:List kp)(v2:Int):jT:=⟨(.kJ false 23 (mp ky.cells v0)::mc (.kJ false 1 (mp kS v1)::.int .i64 v2::lM (lM (mc (qA::[]))))),[],0,[]⟩
abbrev XJ:=(List ky)->(List kp)->Int->Option Int
abbrev aom(K:List Kt)(Z:XJ):Prop:=∀v0 v1 v2,run (NV n) K (XI v0 v1 v2)=Z v0 v1 v2
def AU:LB (aom n) [0,1,0,1,1] [.pF 0,.cut [1,1,1],.at [1,1,1]]:=mB
def AW:Nat->XJ:=sR ((AU n).1)
def Sl{n:Nat}:AW n (m+1)=(AU n).1 (AW n m):=rfl
@[go_sem]def ahX(m:Nat):=ud (AU n) (AW n) m
def NW:IO (NV n) (lz ky.row) (kT ky.kr) 44:=mB
def Lf:=fu fun n=>(NW n).1
def aon:∀n:Nat,th fW 257 (lz ky.row) (kT ky.kr) (li .i64) (Lf n):=vM fun n=>ug (NW n) (gd (jR (lj (abh n)) (jR (lA (M6 n)) (jR (lA (Rc n)) jU))) (k7 (oQ (V2 n)) jV)) func257 ntmps257 results257
def aj9:sN:=⟨[],[],(zA::zK::zK::zK::zK::zK::zK::l8 (l8 (zK::ux (lH (l8 (l8 (zA::zA::zA::[]))))))),[oT jX.kr],none,none⟩
def aka:sN:=⟨[],[],(zA::zK::zK::zK::zK::zK::zK::l8 (zA::zA::zK::ux (lH (l8 (l8 (l8 (zA::[]))))))),[oT jX.kr],none,none⟩
@[reducible] def Re(X:jX->Int->Int->Int->Int->Int->Option Int)(n:Nat):kL Int:=mU fW f100 n (lR fW [.tmp 12] (li .i64)) (cl:=lY [(161,nh (kT jX.kr) mh (QI n)),(162,nh lW mh (EI n)),(163,Qw (kT kE.kr) (li .i64) (li .i64) (li .i64) (ZH n))]) (cd:=yA [(100,oV (aFo (kT jX.kr) (li .i64) (li .i64) (li .i64) (li .i64) (li .i64) (li .i64) X)),(117,oV (nr (li .i64) (li .i64) (li .i64) (Ed n)))]) (p4:=nR [([0,1,0,1,1,1,1,1,1,1],aj9),([0,1,0,1,1,1,1],aka)]) (tI:=lS []) (tX:=lS [])
def axX(X:jX->Int->Int->Int->Int->Int->Option Int)(n:Nat):qY (Re X n) [0,0,0,1,0,0,1,0,1,1,1,1,1,1,1]=true:=jO
attribute [go_sem] axX aj9 aka
@[go_sem]abbrev akb(v0 v1 v2 v3 v4 v5:Int)(o0:jX):jT:=⟨(qA::.int .i64 v0::.int .i64 v1::.int .i64 v2::.int .i64 v3::.int .i64 v4::.ptr 0 0::mc (mc (.int .i64 v5::uw (lM (mc (mc (qA::qA::qA::[]))))))),[.cells (jX.cells o0)],0,[]⟩
abbrev NX:=Int->Int->Int->Int->Int->Int->jX->Option Int
abbrev awj(X:jX->Int->Int->Int->Int->Int->Option Int)(n:Nat)(K:List Kt)(Z:NX):Prop:=∀v0 v1 v2 v3 v4 v5 o0,run (Re X n) K (akb v0 v1 v2 v3 v4 v5 o0)=Z v0 v1 v2 v3 v4 v5 o0
@[go_sem]abbrev akc(v0 v1 v2 v3 v4 v5:Int)(o0:jX):jT:=⟨(qA::.int .i64 v0::.int .i64 v1::.int .i64 v2::.int .i64 v3::.int .i64 v4::.ptr 0 0::mc (qA::qA::.int .i64 v5::uw (lM (mc (mc (mc (qA::[]))))))),[.cells (jX.cells o0)],0,[]⟩
abbrev awk(X:jX->Int->Int->Int->Int->Int->Option Int)(n:Nat)(K:List Kt)(Z:NX):Prop:=∀v0 v1 v2 v3 v4 v5 o0,run (Re X n) K (akc v0 v1 v2 v3 v4 v5 o0)=Z v0 v1 v2 v3 v4 v5 o0
def AX(X:jX->Int->Int->Int->Int->Int->Option Int)(n:Nat):LB (awj X n) [0,1,0,1,1,1,1,1,1,1] zM:=mB
def wR(X:jX->Int->Int->Int->Int->Int->Option Int)(n:Nat):Nat->NX:=sR ((AX X n).1)
def I8(X:jX->Int->Int->Int->Int->Int->Option Int){n:Nat}:wR X n (m+1)=(AX X n).1 (wR X n m):=rfl
@[go_sem]def aqh(X:jX->Int->Int->Int->Int->Int->Option Int)(n:Nat)(m:Nat):=ud (AX X n) (wR X n) m
def AY(X:jX->Int->Int->Int->Int->Int->Option Int)(n:Nat):LB (awk X n) [0,1,0,1,1,1,1] [.pF 0,.cut [1,1,1,1,1],.at [1,1,1,1,1]]:=mB
def wS(X:jX->Int->Int->Int->Int->Int->Option Int)(n:Nat):Nat->NX:=sR ((AY X n).1)
def I9(X:jX->Int->Int->Int->Int->Int->Option Int){n:Nat}:wS X n (m+1)=(AY X n).1 (wS X n m):=rfl
@[go_sem]def aqi(X:jX->Int->Int->Int->Int->Int->Option Int)(n:Nat)(m:Nat):=ud (AY X n) (wS X n) m
def Rf(X:jX->Int->Int->Int->Int->Int->Option Int)(n:Nat):SC6 (Re X n) (kT jX.kr) (li .i64) (li .i64) (li .i64) (li .i64) (li .i64) 107:=mB
def qw:Nat->jX->Int->Int->Int->Int->Int->Option Int
 |0,_,_,_,_,_,_=>none
 |n+1,a0,a1,a2,a3,a4,a5=>(Rf (qw n) n).1 a0 a1 a2 a3 a4 a5
def akd:∀n:Nat,aQT fW 100 (kT jX.kr) (li .i64) (li .i64) (li .i64) (li .i64) (li .i64) (li .i64) (qw n)
 |0=>fun _ _ _ _ _ _ _ h=>(by cases h)
 |n+1=>by
  have awl:=akd n;exact aSa (Rf (qw n) n) (gd (jR (lA (axO n)) (jR (lA (Rc n)) (jR (IS (awc n)) jU))) (k7 (aJK (awl)) (k7 (oQ (WW n)) jV))) func100 ntmps100 results100
open Go.Proofs
@[go_sem]def XK:sN:=⟨[],[],(zA::zA::zK::zK::zA::zA::zA::zK::lH (lH (lH (zA::zA::zA::[])))),[oT j7.kr,oT jX.kr],none,none⟩
@[reducible] def NY(X:j7->jX->Option Int)(n:Nat):kL Int:=mU fW f306 n (lR fW [.tmp 4] (li .i64)) (cl:=lY [(24,nr (lz ky.row) lW (LQ (kT Entry.kr) (li .i64)) (QH n)),(64,nr (lz kW) lW mh (IX n)),(66,Qw (kT ky.kr) (li .i64) lW (kT Entry.kr) (RB n))]) (cd:=yA [(306,oV (nr (kT j7.kr) (kT jX.kr) (li .i64) X))]) (p4:=nR [([0,1,0,1,1],XK)]) (tI:=lS []) (tX:=lS [])
@[go_sem]def aqj(X:j7->jX->Option Int)(n:Nat):qY (NY X n) [0,0,0,1,0,0,1,0,1,1]=true:=jO
@[go_sem]abbrev XL(v0:Int)(o0:j7)(o1:jX):jT:=⟨(qA::qA::.ptr 0 0::.ptr 1 0::qA::qA::qA::.int .i64 v0::lM (lM (lM (qA::qA::qA::[])))),[.cells (j7.cells o0),.cells (jX.cells o1)],0,[]⟩
abbrev XM:=Int->j7->jX->Option Int
abbrev aoo(X:j7->jX->Option Int)(n:Nat)(K:List Kt)(Z:XM):Prop:=∀v0 o0 o1,run (NY X n) K (XL v0 o0 o1)=Z v0 o0 o1
def AZ(X:j7->jX->Option Int)(n:Nat):LB (aoo X n) [0,1,0,1,1] [.pF 0,.cut [1,1,1],.at [1,1,1]]:=mB
def xL(X:j7->jX->Option Int)(n:Nat):Nat->XM:=sR ((AZ X n).1)
def Sm(X:j7->jX->Option Int){n:Nat}:xL X n (m+1)=(AZ X n).1 (xL X n m):=rfl
@[go_sem]def ahY(X:j7->jX->Option Int)(n:Nat)(m:Nat):=ud (AZ X n) (xL X n) m
def N1(X:j7->jX->Option Int)(n:Nat):IO (NY X n) (kT j7.kr) (kT jX.kr) 59:=mB
def vi:Nat->j7->jX->Option Int
 |0,_,_=>none
 |n+1,a0,a1=>(N1 (vi n) n).1 a0 a1
def XN:∀n:Nat,th fW 306 (kT j7.kr) (kT jX.kr) (li .i64) (vi n)
 |0=>fun _ _ _ h=>(by cases h)
 |n+1=>by
  have aop:=XN n;exact ug (N1 (vi n) n) (gd (jR (lj (abh n)) (jR (lj (V2 n)) (jR (IS (aja n)) jU))) (k7 (oQ (aop)) jV)) func306 ntmps306 results306
@[reducible] def G7:kL Bool:=mU fW f98 n (lR fW [.tmp 4] mh) (cl:=lY [(160,nr (lz kE.row) (tyF 99) (li .i64) (vE n))])
def tz:IO (G7 n) (lz kE.row) (tyF 99) 9:=mB
def q5:=fu fun n=>(tz n).1
def F8:∀n:Nat,th fW 98 (lz kE.row) (tyF 99) mh (q5 n):=vM fun n=>ug (tz n) (gd (jR (lj (I3 n)) jU) jV) func98 ntmps98 results98
@[go_sem]def N2:sN:=⟨[],[],(zT (uO j4.kr)::l8 (zK::lH (l8 (l8 (l8 []))))),[],none,none⟩
@[reducible] def PQ:kL kp:=mU fW f108 n (lR fW [.tmp 4] lW) (cl:=lY [(79,nr (lz kW) lW mh (oH n)),(170,nh (li .i64) lW (strconv_Itoa n)),(171,nr (lz kW) lW mh (uZ n))]) (p4:=nR [([0,0,1,1],N2)])
@[go_sem]abbrev N3(v0:j4)(v1:kp):jT:=⟨(.pp (j4.cells v0)::mc (.str (sb v1)::lM (mc (mc (mc []))))),[],0,[]⟩
abbrev N4:=j4->kp->Option kp
abbrev afD(K:List Kt)(Z:N4):Prop:=∀v0 v1,run (PQ n) K (N3 v0 v1)=Z v0 v1
def wT:LB (afD n) [0,0,1,1] [.pF 0,.cut [1,1,1],.at [1,1,1]]:=mB
def su:Nat->N4:=sR ((wT n).1)
def KI{n:Nat}:su n (m+1)=(wT n).1 (su n m):=rfl
@[go_sem]def YX(m:Nat):=ud (wT n) (su n) m
def F9:IO (PQ n) (uO j4.kr) (li .i64) 34:=mB
def zt:=fu fun n=>(F9 n).1
def N5:∀n:Nat,th fW 108 (uO j4.kr) (li .i64) lW (zt n):=vM fun n=>ug (F9 n) (gd (jR (lj (pU n)) (jR (lA (K3 n)) (jR (lj (GN n)) jU))) jV) func108 ntmps108 results108
@[go_sem]abbrev Ja(F:Option ((Ta×Unit)×Unit))(b:Unit)(a:Unit):=F
@[go_sem]def QT(F:Option ((Ta×Unit)×Unit)):=Hp [] Bi kM (tg ogM Bi) (VY 0 kM) (Ja F)
@[reducible] def adw:kL ((Ta×Unit)×Unit):=mU fW f199 n (xg fW [.tmp 0] [.arg 0 []] [] 0 (tg ogM Bi) (VY 0 kM)) (cl:=lY [(241,nh lW (anV 274 (uO cS)) (Zu n)),(274,PH (Vk n))]) (js:=aIc [([0,1,0,1,1],[])])
@[go_sem]def aoq:lkM (adw n) [0,1,0,1,1]=nZ:=rfl
attribute [go_sem] zI
def adx:SX (adw n) kM Bi 9 Ja:=mC
def Ii:=fu fun n=>(adx n).1
def Z2:∀n:Nat,zD fW 199 kM Bi (tg ogM Bi) (VY 0 kM) (Ja (Ii n)):=WS fun n=>G6 (adx n) (gd (jR (lA (ajl n)) (jR (mY (afw n)) jU)) jV) func199 ntmps199 results199
@[go_sem]abbrev GX(F:jX->Int->Bool->Option (Tg×Unit))(b:TT)(a:(jX×Unit)):=F a.1 b.2.1.1 b.2.2.1.1
@[go_sem]def Z3(F:jX->Int->Bool->Option (Tg×Unit)):=Hp [.arg 0 [],.vC 0 3 [],.vC 0 4 []] lC (VY 0 (l1 (uO jX.kr) kM)) nn kM (GX F)
@[reducible] def aqk:kL (Tg×Unit):=mU fW f164 n (xg fW [] [] [0,1,2] 3 nn kM) (cl:=lY [(165,aCG (kT (cA kn.kr 5 13)) (QB n)),(166,JJ (rO n))]) (cut:=MJ [([1,1,1,1],[4])])
attribute [go_sem] xY
def N6:SX (aqk n) (VY 0 (l1 (uO jX.kr) kM)) lC 10 GX:=mC
def Lg:=fu fun n=>(N6 n).1
def aor:∀n:Nat,zD fW 164 (VY 0 (l1 (uO jX.kr) kM)) lC nn kM (GX (Lg n)):=WS fun n=>G6 (N6 n) (gd (jR (apm (apP n)) (jR (mY (RY n)) jU)) jV) func164 ntmps164 results164
@[reducible] def zS:kL Bool:=mU fW f172 n (lR fW [.tmp 4] mh) (cl:=lY [(225,nr (lz kD.row) (tyF 173) (li .i64) (qS n))])
def p6:IO (zS n) (lz kD.row) (tyF 173) 9:=mB
def oI:=fu fun n=>(p6 n).1
def zu:∀n:Nat,th fW 172 (lz kD.row) (tyF 173) mh (oI n):=vM fun n=>ug (p6 n) (gd (jR (lj (AO n)) jU) jV) func172 ntmps172 results172
open Go.Proofs
@[go_sem]def uB:=(l5 0 (l1 (kT jS.kr) (l1 (li .i64) (l1 (kT Syntax.kr) kM))))
@[go_sem]abbrev u6(F:jS->Int->Syntax->Tb->Option T11)(b:Tv)(a:(jS×(Int×(Syntax×Unit)))):=F a.1 a.2.1 a.2.2.1 b.2.1
@[go_sem]def B8(F:jS->Int->Syntax->Tb->Option T11):=Hp [.arg 0 [],.vC 0 0 []] kO uB kO (l1 mh kM) (u6 F)
@[go_sem]abbrev tv(F:Syntax->Tb->Option TO)(b:Tv)(a:(Syntax×Unit)):=F a.1 b.2.1
@[go_sem]def Wl(F:Syntax->Tb->Option TO):=Hp [.arg 0 [],.vC 0 0 []] kO (l5 0 (l1 (kT Syntax.kr) kM)) kO (l1 (li .i64) kM) (tv F)
structure nG where
 p7:jS->Int->Syntax->Tb->Option T11
 pV:Syntax->Tb->Option TO
open Go.Proofs
@[reducible] def B9(X:nG)(n:Nat):kL T11:=mU fW f298 n (xg fW [.tmp 8] [] [0,1] 2 kO (l1 mh kM)) (cl:=lY [(297,wP (yb n))]) (cd:=yA [(78,oV (nh (kT jS.kr) mh (FS n))),(140,oV (nh (kT jS.kr) mh (C6 n))),(285,oV (nr (kT jS.kr) (li .i64) (li .i64) (KA n)))]) (co:=VZ [(316,Jl [.arg 0 [],.vC 0 0 []] kO (l5 0 (l1 (kT Syntax.kr) kM)) kO (l1 (li .i64) kM) kO (l1 (li .i64) kM) (fun(b:Tv)(a:(Syntax×Unit))=>(X.pV a.1 b.2.1).map fun r=>(PR.ok r:PR TO TO)))]) (tI:=lS [316]) (tX:=lS [])
@[go_sem]def abr(X:nG)(n:Nat):an0 (B9 X n) [0,0,1,1] [0,1,1,1]:=⟨jO,jO⟩
@[go_sem]def abt(X:nG)(n:Nat):MV (B9 X n) [0,1,1,1] 4 5=true:=jO
def Ca(X:nG)(n:Nat):SX (B9 X n) uB kO 47 u6:=mC2
open Go.Proofs
@[go_sem]def Fp:sN:=⟨[],[],(zK::zA::zA::zK::zA::zK::lH (lH (l8 (l8 (zA::[]))))),[oC [zK],oM (kT jS.kr),oT Syntax.kr],none,none⟩
@[reducible] def GY(X:nG)(n:Nat):kL TO:=mU fW f316 n (xg fW [.tmp 4] [] [0,1] 2 kO (l1 (li .i64) kM)) (cl:=lY [(140,nh (kT jS.kr) mh (C6 n)),(285,nr (kT jS.kr) (li .i64) (li .i64) (KA n)),(297,wP (yb n)),(298,B8 X.p7)]) (p4:=nR [([0,1,1],Fp)])
@[go_sem]abbrev Fq(v0:Int)(r1:List (kp×jS))(o2:Syntax):jT:=⟨(.ptr 0 0::qA::qA::.ptr 2 0::qA::.int .i64 v0::lM (lM (mc (mc (qA::[]))))),[.cells [.map 1],.map (mp (Qy (kT jS.kr)) r1),.cells (Syntax.cells o2)],2,[]⟩
abbrev Fs:=Int->Tb->Syntax->Option TO
abbrev UA(X:nG)(n:Nat)(K:List Kt)(Z:Fs):Prop:=∀v0 r1 o2,run (GY X n) K (Fq v0 r1 o2)=Z v0 r1 o2
def yX(X:nG)(n:Nat):LB (UA X n) [0,1,1] [.pF 0]:=mB
def yY(X:nG)(n:Nat):Nat->Fs:=sR ((yX X n).1)
def arY(X:nG){n:Nat}:yY X n (m+1)=(yX X n).1 (yY X n m):=rfl
@[go_sem]def Pk(X:nG)(n:Nat)(m:Nat):=ud (yX X n) (yY X n) m
def zU(X:nG)(n:Nat):SX (GY X n) (l5 0 (l1 (kT Syntax.kr) kM)) kO 47 tv:=mC
open Go.Proofs
def nq:Nat->nG
 |0=>⟨Fu.z,Fu.z⟩
 |n+1=>⟨(Ca (nq n) n).1,(zU (nq n) n).1⟩
def p7:jS->Int->Syntax->Tb->Option T11:=(nq n).p7
def axY{n:Nat}:p7 (n+1)=(Ca (nq n) n).1:=rfl
def pV:Syntax->Tb->Option TO:=(nq n).pV
def auA{n:Nat}:pV (n+1)=(zU (nq n) n).1:=rfl
def awY{n:Nat}:(nq n).p7=p7 n/\(nq n).pV=pV n:=⟨rfl,rfl⟩
def A2:∀n:Nat,zD fW 298 uB kO kO (l1 mh kM) (u6 (nq n).p7)/\zD fW 316 (l5 0 (l1 (kT Syntax.kr) kM)) kO kO (l1 (li .i64) kM) (tv (nq n).pV)
 |0=>⟨fun _ _ _ h=>(by cases h),fun _ _ _ h=>(by cases h)⟩
 |n+1=>by
  obtain⟨YY,UB⟩:=A2 n
  exact⟨G6 (Ca (nq n) n) (gd (jR (mY (zR n)) jU) (k7 (nk (C5 n)) (k7 (nk (Bx n)) (k7 (oQ (I5 n)) jV))) (c:=(nS (avE (UB)) tK))) func298 ntmps298 results298,
   G6 (zU (nq n) n) (gd (jR (lA (Bx n)) (jR (lj (I5 n)) (jR (mY (zR n)) (jR (mY (YY)) jU)))) jV) func316 ntmps316 results316⟩
def YZ:zD fW 298 uB kO kO (l1 mh kM) (u6 (p7 n)):=(A2 n).1
def atT:zD fW 316 (l5 0 (l1 (kT Syntax.kr) kM)) kO kO (l1 (li .i64) kM) (tv (pV n)):=(A2 n).2
open Go.Proofs
@[reducible] def Lu:kL T16:=mU fW f263 n (aru fW [.tmp 3] (tY (AA cS) rW) (Ui mh Fj) 1) (cd:=yA [(79,oV (nr (lz kW) lW mh (oH n))),(264,oV (nh (kT ky.kr) (lz kW) (K5 n)))]) (tI:=lS []) (tX:=lS [])
@[go_sem]def aos:qY (Lu n) [0,1]=true:=jO
def Lv:{B:ky->kp->Option T16 //∀(a0:ky)(a1:kp),run (Lu n) [.at []] (ini ((asT (kT ky.kr) (YH 0 Ho)).enc (a1,()) (a0,())) 8 ((tY (AA cS) rW).enc (a1,())))=B a0 a1}:=mB
def Jb:=fu fun n=>(Lv n).1
def ami:∀(n:Nat)(a0:ky)(a1:kp)(r:T16),Jb n a0 a1=some r->FnG fW 263 ((asT (kT ky.kr) (YH 0 Ho)).enc (a1,()) (a0,())) ((tY (AA cS) rW).enc (a1,())) (fun o H'=>o=.ret (sE ((Ui mh Fj).enc r.1 r.2))/\H'=(tY (AA cS) rW).enc r.1)
 |0,_,_,_,h=>by cases h
 |n+1,a0,a1,r,h=>by
  exact vh (M:=Lu n) ⟨jU,(k7 (oQ (pU n)) (k7 (nk (an6 n)) jV)),oX _,pJ _,q7,q8,rR,rH⟩ func263 rfl rfl (by simp only[go_sem,ga,gb,fX,fY,gf,gh,gj,gk,gp,fZ,gi,gq]) ((tY (AA cS) rW).nb _ _) ntmps263 results263 (fun J hs=>Zl hs) (((Lv n).2 a0 a1).trans h)
@[go_sem]abbrev N7(F:jX->Ta->(List kp)->Option (Ti×Unit))(b:T12)(a:(jX×Unit)):=F a.1 b.2.2.2.1 b.2.2.2.2.1
@[go_sem]def ake(F:jX->Ta->(List kp)->Option (Ti×Unit)):=Hp [.arg 0 [],.vC 0 3 [],.vC 0 4 [],.vC 1 0 [],.vC 2 0 []] lu (VY 0 (l1 (uO jX.kr) kM)) mM kM (N7 F)
@[reducible] def awm:kL (Ti×Unit):=mU fW f164 n (xg fW [] [] [0,1,2,3,4] 5 mM kM) (cl:=lY [(165,aCG (kT (cA kn.kr 5 13)) (QB n)),(166,QJ (sI n))]) (cut:=MJ [([1,1,1,1],[6])])
attribute [go_sem] wI
def XO:SX (awm n) (VY 0 (l1 (uO jX.kr) kM)) lu 10 N7:=mC
def Wm:=fu fun n=>(XO n).1
def atU:∀n:Nat,zD fW 164 (VY 0 (l1 (uO jX.kr) kM)) lu mM kM (N7 (Wm n)):=WS fun n=>G6 (XO n) (gd (jR (apm (apP n)) (jR (mY (ZM n)) jU)) jV) func164 ntmps164 results164
@[go_sem]def Vr:sN:=⟨[],[],(zA::zK::lH (lH (l8 (l8 (zA::zA::zA::zK::l8 (l8 (zA::[]))))))),[oK],none,none⟩
@[go_sem]def Vs:sN:=⟨[],[],(zK::l8 (zA::zK::zA::zK::lH (lH (l8 (l8 (l8 (zA::zA::[]))))))),[oC [zA]],none,none⟩
@[reducible] def Lw:kL Int:=mU fW f242 n (lR fW [.tmp 4] (li .i64)) (cl:=lY [(276,nr lW (li .i32) (li .i64) (NP n)),(277,nh (li .i64) mh (strings_shouldUseASCIISet n))]) (p4:=nR [([0,1,0,1,1,1,1],Vr),([0,1,0,0,1,1,0,1,0,1,1,1],Vs)])
abbrev Vt(v0 iv0:kp)(ip0:Nat):jT:=⟨(qA::.str (sb v0)::lM (lM (mc (mc (qA::qA::qA::.ptr 0 0::mc (mc (qA::[]))))))),[.iter (sb iv0) ip0],0,[]⟩
abbrev Vu:=kp->kp->Nat->Option Int
abbrev amj(K:List Kt)(Z:Vu):Prop:=∀v0 iv0 ip0,run (Lw n) K (Vt v0 iv0 ip0)=Z v0 iv0 ip0
abbrev Vv(v0:kp)(v1:Int):jT:=⟨(.str (sb v0)::mc (qA::.ptr 0 0::qA::.int .i64 v1::lM (lM (mc (mc (mc (qA::qA::[]))))))),[.cells [qA]],0,[]⟩
abbrev Vw:List Kt:=[.pF 0,.cut [1,0,1,1,0,1,0,1,1,1],.at [1,0,1,1,0,1,0,1,1,1],.cut [1,1,1,1],.at [1,1,1,1]]
abbrev Vx:=kp->Int->Option Int
abbrev amk(K:List Kt)(Z:Vx):Prop:=∀v0 v1,run (Lw n) K (Vv v0 v1)=Z v0 v1
attribute [go_sem] Vt Vv Vw
def JM:LB (amj n) [0,1,0,1,1,1,1] [.pF 2,.cut [1,1,1,1,1],.at [1,1,1,1,1]]:=mB
def JN:Nat->Vu:=sR ((JM n).1)
def aBk{n:Nat}:JN n (m+1)=(JM n).1 (JN n m):=rfl
@[go_sem]def afE(m:Nat):=ud (JM n) (JN n) m
def JO:LB (amk n) [0,1,0,0,1,1,0,1,0,1,1,1] Vw:=mB
def JP:Nat->Vx:=sR ((JO n).1)
def aBl{n:Nat}:JP n (m+1)=(JO n).1 (JP n m):=rfl
@[go_sem]def afF(m:Nat):=ud (JO n) (JP n) m
def XP:{B:kp->kp->Option Int //∀(a0:kp)(a1:kp),run (Lw n) [.at []] (ini [lW.enc a0,lW.enc a1] 55)=B a0 a1}:=mB
def strings_IndexAny:=fu fun n=>(XP n).1
def Vy:∀(n:Nat)(a0:kp)(a1:kp)(r:Int),strings_IndexAny n a0 a1=some r->JE fW 242 [lW.enc a0,lW.enc a1] (fun v=>v=(li .i64).enc r)
 |0,_,_,_,h=>by cases h
 |n+1,a0,a1,r,h=>by
  exact okC (((XP n).2 a0 a1).trans h) (gd (jR (lj (Sd n)) (jR (lA (Ut n)) jU)) jV) func242 ⟨lW.nb 0 _,lW.nb 0 _,trivial⟩ ntmps242 results242
@[reducible] def afG:kL Bool:=mU fW f243 n (lR fW [.tmp 4] mh) (cl:=lY [(276,nr lW (li .i32) (li .i64) (NP n))])
def N8:IO (afG n) lW (li .i32) 9:=mB
def Sn:=fu fun n=>(N8 n).1
def ady:∀n:Nat,th fW 243 lW (li .i32) mh (Sn n):=vM fun n=>ug (N8 n) (gd (jR (lj (Sd n)) jU) jV) func243 ntmps243 results243
@[go_sem]def Ga:sN:=⟨[],[],(zK::l8 (zK::ux (lH (l8 (l8 (l8 [])))))),[oC [zK,zK,zK,zK,zK],oK,oK,oK],none,none⟩
@[reducible] def Ij:kL TH:=mU fW f201 n (xg fW [.tmp 2,.tmp 3,.tmp 4] [] [0,1,2,3] 4 ld oW) (cl:=lY [(193,nh (li .u8) (li .i64) (LW n)),(194,nh (li .u8) mh (Wf n))]) (p4:=nR [([0,0,0,0,0,0,1,1],Ga),([0,0,1,1],Ga)]) (tI:=lS []) (tX:=lS [])
@[go_sem]def akf:an0 (Ij n) [0,0,1,0,0,1,1,1,1] [0,1,1,1]:=⟨jO,jO⟩
@[go_sem]abbrev PS(v0:Int)(v1:kp)(v2:Int)(r1 r2 r3:List (kp×Bool)):jT:=⟨(.ptr 0 0::mc (.int .i64 v0::uw (lM (mc (mc (mc [])))))),[.cells [.str (sb v1),.int .i64 v2,.map 1,.map 2,.map 3],.map (mp Hq r1),.map (mp Hq r2),.map (mp Hq r3)],4,[]⟩
@[go_sem]abbrev PT(m2:Nat):List Kt:=[.pF 2,.cut [1,0,0,0,0,1,1],.at [1,0,0,0,0,1,1],.pF 1,.lp m2 [0,0,1,1],.pF 0,.cut [1,1,1],.at [1,1,1]]
abbrev Bc(K:List Kt)(Z:pM):Prop:=∀v0 v1 v2 r1 r2 r3,run (Ij n) K (PS v0 v1 v2 r1 r2 r3)=Z v0 v1 v2 r1 r2 r3
def Gb:LB2 (Bc n) [0,0,1,1] [.pF 0,.cut [1,1,1],.at [1,1,1]] (Bc n) [0,0,0,0,0,0,1,1] PT:=mB
def Gc(X2:pM):Nat->pM:=sR ((Gb n).1 X2)
def ay7{n:Nat}(X2:pM):Gc n X2 (m+1)=(Gb n).1 X2 (Gc n X2 m):=rfl
def abu{X2}(h2:Bc n (.lq m2 [0,0,1,1]::[.pF 0,.cut [1,1,1],.at [1,1,1]]) X2)(m:Nat):=aDx (Gb n) h2 (Gc n X2) m
def Gd:LB (Bc n) [0,0,1,1] [.pF 0,.cut [1,1,1],.at [1,1,1]]:=by
 apply gu;intro m X0 ih v0 v1 v2 r1 r2 r3;simp (config:={maxSteps:=100000000}) only[go_sem,ga,gb,fX,fY,gf,gh,gj,gk,gp,fZ,gi,gq,f201,gr,mixed,abu n ih,ih];exact rfl
def Ge:Nat->pM:=sR ((Gd n).1)
def ay8{n:Nat}:Ge n (m+1)=(Gd n).1 (Ge n m):=rfl
@[go_sem]def abv(m:Nat):=ud (Gd n) (Ge n) m
def So:SX (Ij n) (l5 0 kM) ld 98 pu:=mC
def XQ:=fu fun n=>(So n).1
def ahZ:∀n:Nat,zD fW 201 (l5 0 kM) ld ld oW (pu (XQ n)):=WS fun n=>G6 (So n) (gd (jR (lA (HK n)) (jR (lA (Ux n)) jU)) jV) func201 ntmps201 results201
@[go_sem]def Mb:sN:=⟨[],[],(zK::l8 (zK::ux (l8 (l8 (l8 (zA::zA::[])))))),[oC [zK,zK,zK,zK,zK],oK,oK,oK],none,none⟩
@[reducible] def EO:kL TH:=mU fW f202 n (xg fW [.tmp 2,.tmp 3,.tmp 4] [] [0,1,2,3] 4 ld oW) (cl:=lY [(193,nh (li .u8) (li .i64) (LW n)),(194,nh (li .u8) mh (Wf n))]) (p4:=nR [([0,0,1,1],Mb)]) (tI:=lS []) (tX:=lS [])
@[go_sem]def afH:aKF (EO n) [0,0,1,0,0,1,1,1] [0,0,1,1,1,0,0,1,1,1] [0,1,1,0,0,1,1,1]:=⟨jO,jO,jO⟩
@[go_sem]abbrev Mc(v0:Int)(v1:kp)(v2:Int)(r1 r2 r3:List (kp×Bool)):jT:=⟨(.ptr 0 0::mc (.int .i64 v0::uw (mc (mc (mc (qA::qA::[])))))),[.cells [.str (sb v1),.int .i64 v2,.map 1,.map 2,.map 3],.map (mp Hq r1),.map (mp Hq r2),.map (mp Hq r3)],4,[]⟩
abbrev adz(K:List Kt)(Z:pM):Prop:=∀v0 v1 v2 r1 r2 r3,run (EO n) K (Mc v0 v1 v2 r1 r2 r3)=Z v0 v1 v2 r1 r2 r3
def Dk:LB (adz n) [0,0,1,1] [.pF 0,.cut [1,1,1],.at [1,1,1]]:=mB
def Dl:Nat->pM:=sR ((Dk n).1)
def awZ{n:Nat}:Dl n (m+1)=(Dk n).1 (Dl n m):=rfl
@[go_sem]def XR(m:Nat):=ud (Dk n) (Dl n) m
def N9:SX (EO n) (l5 0 kM) ld 84 pu:=mC
def Sp:=fu fun n=>(N9 n).1
def adA:∀n:Nat,zD fW 202 (l5 0 kM) ld ld oW (pu (Sp n)):=WS fun n=>G6 (N9 n) (gd (jR (lA (HK n)) (jR (lA (Ux n)) jU)) jV) func202 ntmps202 results202
open Go.Proofs
@[go_sem]def qx:=(l1 (kT Syntax.kr) (l1 (li .i64) kM))
@[go_sem]abbrev qT(F:Int->(List Syntax)->Int->Int->Tb->Tb->Ta->Option Tq)(b:Tc)(a:(Int×Unit)):=F a.1 b.1.1 b.1.2.1 b.2.1.1 b.2.2.1 b.2.2.2.1 b.2.2.2.2.1
@[go_sem]def zV(F:Int->(List Syntax)->Int->Int->Tb->Tb->Ta->Option Tq):=xE true [.arg 0 [],.vC 0 0 [],.vC 1 0 [],.vC 1 1 [],.vC 1 2 []] ku (l5 0 (l1 (li .i64) kM)) ku qx ku (l1 (aaJ 312 aiP) kM) (qT F)
@[go_sem]def tD:=(l5 0 (l1 (kT jS.kr) (l1 (li .i64) (l1 (aON Syntax.row) (l1 (li .i64) kM)))))
@[go_sem]abbrev uk(F:jS->Int->(List Syntax)->Int->(List Syntax)->Int->Int->Tb->Tb->Ta->Option Tu)(b:Tc)(a:(jS×(Int×((List Syntax)×(Int×Unit))))):=F a.1 a.2.1 a.2.2.1 a.2.2.2.1 b.1.1 b.1.2.1 b.2.1.1 b.2.2.1 b.2.2.2.1 b.2.2.2.2.1
@[go_sem]def EP(F:jS->Int->(List Syntax)->Int->(List Syntax)->Int->Int->Tb->Tb->Ta->Option Tu):=xE true [.arg 0 [],.vC 0 0 [],.vC 1 0 [],.vC 1 1 [],.vC 1 2 []] ku tD ku (l1 (kT Syntax.kr) kM) ku (l1 (aaJ 312 aiP) kM) (uk F)
structure kK where
 qU:Int->(List Syntax)->Int->Int->Tb->Tb->Ta->Option Tq
 qy:Int->(List Syntax)->Int->Int->Tb->Tb->Ta->Option Tq
 qd:jS->Int->(List Syntax)->Int->(List Syntax)->Int->Int->Tb->Tb->Ta->Option Tu
open Go.Proofs
@[go_sem]def Md:sN:=⟨[],[],(zK::zK::zA::zA::zK::zA::zK::zK::lH (lH (lH (l8 (zA::zA::zA::[]))))),[oC [zK,zT (lz Syntax.row),zK],oC [zK,zK,zK,zK],oM (kT jS.kr),oM (kT jS.kr),oK,oK,oT Syntax.kr],none,none⟩
@[reducible] def Oa(X:kK)(n:Nat):kL Tq:=mU fW f252 n (qM fW [.cell 4 37,.tmp 5] [] [0,1,2,3,4] 5 ku qx) (cl:=lY [(284,B2 (ED n)),(285,nr (kT jS.kr) (li .i64) (li .i64) (KA n))]) (p4:=nR [([0,1,1],Md)]) (q6:=qN [] [0,1,2,3,4] 5 ku (l1 (aaJ 312 aiP) kM)) (cp:=AC [(283,zV X.qy),(286,EP X.qd)]) (wD:=lS [283,286])
@[go_sem]abbrev Me(v0 v1:Int)(v2:List Syntax)(v3 v4:Int)(r2 r3:List (kp×jS))(r4:List (kp×Bool))(o6:Syntax):jT:=⟨(.ptr 0 0::.int .i64 v0::qA::qA::.ptr 5 0::qA::.ptr 6 0::.int .i64 v1::lM (lM (lM (mc (qA::qA::qA::[]))))),[.cells [.ptr 1 0,.kJ false 8 (mp Syntax.cells v2),.int .i64 v3],.cells [.map 2,.map 3,.map 4,.int .i64 v4],.map (mp (Qy (kT jS.kr)) r2),.map (mp (Qy (kT jS.kr)) r3),.map (mp Hq r4),.cells [.int .i64 0,.str (sb []),.int .i64 0,.kJ true 0 [],.kJ true 0 [],.kJ true 0 [],.int .i64 0,.int .i64 0],.cells (Syntax.cells o6)],5,[]⟩
abbrev Mf:=Int->Int->(List Syntax)->Int->Int->Tb->Tb->Ta->Syntax->Option Tq
abbrev adB(X:kK)(n:Nat)(K:List Kt)(Z:Mf):Prop:=∀v0 v1 v2 v3 v4 r2 r3 r4 o6,run (Oa X n) K (Me v0 v1 v2 v3 v4 r2 r3 r4 o6)=Z v0 v1 v2 v3 v4 r2 r3 r4 o6
def Dm(X:kK)(n:Nat):LB (adB X n) [0,1,1] [.pF 0]:=mB2
def Dn(X:kK)(n:Nat):Nat->Mf:=sR ((Dm X n).1)
def aw0(X:kK){n:Nat}:Dn X n (m+1)=(Dm X n).1 (Dn X n m):=rfl
@[go_sem]def XS(X:kK)(n:Nat)(m:Nat):=ud (Dm X n) (Dn X n) m
def EQ(X:kK)(n:Nat):SX (Oa X n) (l5 0 (l1 (li .i64) kM)) ku 63 qT:=mC2
open Go.Proofs
@[reducible] def mO(X:kK)(n:Nat):kL Tq:=mU fW f283 n (qM fW [.cell 4 37,.tmp 5] [] [0,1,2,3,4] 5 ku qx) (cl:=lY [(140,nh (kT jS.kr) mh (C6 n))]) (q6:=qN [] [0,1,2,3,4] 5 ku (l1 (aaJ 312 aiP) kM)) (co:=VZ [(286,Jl [.arg 0 [],.vC 0 0 [],.vC 1 0 [],.vC 1 1 [],.vC 1 2 []] ku tD ku (l1 (kT Syntax.kr) kM) ku (l1 (aaJ 312 aiP) kM) (uk X.qd))]) (cp:=AC [(286,EP X.qd)]) (wD:=lS [286]) (tI:=lS [286]) (tX:=lS [])
def aSR(X:kK)(n:Nat):aF3 (mO X n) [0,0,1] [0,0,1,1,1,0,0,1,1,1,1,1] [0,1,1] [0,1,1,1,1]:=⟨jO,jO,jO,jO⟩
def aSS(X:kK)(n:Nat):vL (mO X n) [0,0,1,1,1,0,0,1,1,1,1,1] 1 4 3 4 1 7 3 7/\MV (mO X n) [0,0,1,1,1,0,0,1,1,1,1,1] 4 7=true/\vL (mO X n) [0,1,1] 3 11 7 11 8 11 9 11/\MV (mO X n) [0,1,1] 10 11=true/\vL (mO X n) [0,1,1,1,1] 3 14 6 14 8 14 9 14/\MV (mO X n) [0,1,1,1,1] 13 14=true:=⟨⟨jO,jO,jO,jO⟩,jO,⟨jO,jO,jO,jO⟩,jO,⟨jO,jO,jO,jO⟩,jO⟩
def aST(X:kK)(n:Nat):Pj (mO X n) [0,0,1,1,1,0,0,1,1,1,1,1] 4 5=false/\Pj (mO X n) [0,0,1,1,1,0,0,1,1,1,1,1] 4 6=false/\Pj (mO X n) [0,0,1,1,1,0,0,1,1,1,1,1] 4 7=true/\Pj (mO X n) [0,0,1,1,1,0,0,1,1,1,1,1] 4 8=true/\aaE (mO X n) [0,0,1,1,1,0,0,1,1,1,1,1] 4=false:=⟨jO,jO,jO,jO,jO⟩
attribute [go_sem] aSR aSS aST
def Bn(X:kK)(n:Nat):SX (mO X n) (l5 0 (l1 (li .i64) kM)) ku 83 qT:=mC2
open Go.Proofs
def Mg:sN:=⟨[],[],(l8 (zK::l8 (zA::zK::zK::l8 (zA::zA::zK::ux (l8 (zK::zK::zK::l8 (l8 (zA::zA::zA::[])))))))),[oC [zK,zT (lz Syntax.row),zK],oC [zK,zK,zK,zK],oM (kT jS.kr),oM (kT jS.kr),oK,oD,oK,oD,oA Syntax.row,oC [zK,zK,zK,zK,zK,zT (lz Syntax.row),zK,zK]],none,none⟩
def Mh:sN:=⟨[],[],(l8 (zK::l8 (zA::zK::zK::l8 (zA::zA::zK::ux (l8 (zL Syntax.row::zK::zK::l8 (l8 (zA::zA::zA::[])))))))),[oC [zK,zT (lz Syntax.row),zK],oC [zK,zK,zK,zK],oM (kT jS.kr),oM (kT jS.kr),oK,oD,oK,oC [zK,zK,zK,zK,zK,zT (lz Syntax.row),zK,zK]],(some 87),none⟩
def Mi:sN:=⟨[],[],(zK::zA::zK::zK::zK::zA::zK::zA::zA::zA::zK::zK::l8 (l8 (l8 (zT (lz kW)::zK::zK::ux (l8 (l8 (zA::zA::[]))))))),[oC [zK,zT (lz Syntax.row),zK],oC [zK,zK,zK,zK],oM (kT jS.kr),oM (kT jS.kr),oK,oT jS.kr,oK,oD,oA Syntax.row],none,none⟩
def Mj:sN:=⟨[],[],(zK::zA::zK::zL Syntax.row::zK::zA::zK::zA::zA::zA::zK::zK::l8 (l8 (l8 (zT (lz kW)::zK::zK::ux (l8 (l8 (zA::zA::[]))))))),[oC [zK,zT (lz Syntax.row),zK],oC [zK,zK,zK,zK],oM (kT jS.kr),oM (kT jS.kr),oK,oT jS.kr,oK],(some 3),none⟩
@[reducible] def ul(X:kK)(n:Nat):kL Tu:=mU fW f286 n (qM fW [.cell 10 37] [] [0,1,2,3,4] 5 ku (l1 (kT Syntax.kr) kM)) (cl:=lY [(284,B2 (ED n)),(285,nr (kT jS.kr) (li .i64) (li .i64) (KA n))]) (p4:=nR [([0,1,0,1,1],Mj),([0,1,0,1,1],Mi),([0,1,0,1,1,1,1],Mh),([0,1,0,1,1,1,1],Mg)]) (q6:=qN [] [0,1,2,3,4] 5 ku (l1 (aaJ 312 aiP) kM)) (cp:=AC [(252,zV X.qU)]) (wD:=lS [252]) (tI:=lS []) (tX:=lS [])
def afI(X:kK)(n:Nat):qY (ul X n) [0,1,1,1,0,0,1,1,0,0,1,0,1,1]=true:=jO
attribute [go_sem] afI Mg Mh Mi Mj
abbrev Mk(v0 v1 v2 v3:Int)(v4:List Syntax)(v5 v6:Int)(r2 r3:List (kp×jS))(r4:List (kp×Bool))(r8:List Syntax)(v11:Int)(v12:kp)(v13:List Syntax)(v14 v15:Int)(c8:Nat):jT:=⟨(mc (.int .i64 v0::mc (qA::.ptr 6 0::.int .i64 v1::mc (qA::qA::.ptr 9 0::uw (mc (.lV 8 c8::.int .i64 v2::.int .i64 v3::mc (mc (qA::qA::qA::[])))))))),[.cells [.ptr 1 0,.kJ false 8 (mp Syntax.cells v4),.int .i64 v5],.cells [.map 2,.map 3,.map 4,.int .i64 v6],.map (mp (Qy (kT jS.kr)) r2),.map (mp (Qy (kT jS.kr)) r3),.map (mp Hq r4),.vz,.cells [.int .i64 0,.str (sb []),.int .i64 0,.kJ true 0 [],.kJ true 0 [],.kJ true 0 [],.int .i64 0,.int .i64 0],.vz,.lV true 8 (mp Syntax.cells r8),.cells [.int .i64 v11,.str (sb v12),.int .i64 0,.kJ true 0 [],.kJ true 0 [],.kJ false 8 (mp Syntax.cells v13),.int .i64 v14,.int .i64 v15]],5,[]⟩
abbrev Ml:=Int->Int->Int->Int->(List Syntax)->Int->Int->Tb->Tb->Ta->(List Syntax)->Int->kp->(List Syntax)->Int->Int->Option Tu
abbrev adC(X:kK)(n:Nat)(K:List Kt)(Z:Ml):Prop:=∀v0 v1 v2 v3 v4 v5 v6 r2 r3 r4 r8 v11 v12 v13 v14 v15 c8,c8=r8.length->run (ul X n) K (Mk v0 v1 v2 v3 v4 v5 v6 r2 r3 r4 r8 v11 v12 v13 v14 v15 c8)=Z v0 v1 v2 v3 v4 v5 v6 r2 r3 r4 r8 v11 v12 v13 v14 v15
abbrev Mm(v0 v1:Int)(v2:List Syntax)(v3 v4:Int)(v5:List Syntax)(v6 v7:Int)(r2 r3:List (kp×jS))(r4:List (kp×Bool))(v11:Int)(v12:kp)(v13:List Syntax)(v14 v15:Int):jT:=⟨(mc (.int .i64 v0::mc (qA::.ptr 6 0::.int .i64 v1::mc (qA::qA::.ptr 7 0::uw (mc (.kJ true 8 (mp Syntax.cells v2)::.int .i64 v3::.int .i64 v4::mc (mc (qA::qA::qA::[])))))))),[.cells [.ptr 1 0,.kJ false 8 (mp Syntax.cells v5),.int .i64 v6],.cells [.map 2,.map 3,.map 4,.int .i64 v7],.map (mp (Qy (kT jS.kr)) r2),.map (mp (Qy (kT jS.kr)) r3),.map (mp Hq r4),.vz,.cells [.int .i64 0,.str (sb []),.int .i64 0,.kJ true 0 [],.kJ true 0 [],.kJ true 0 [],.int .i64 0,.int .i64 0],.cells [.int .i64 v11,.str (sb v12),.int .i64 0,.kJ true 0 [],.kJ true 0 [],.kJ false 8 (mp Syntax.cells v13),.int .i64 v14,.int .i64 v15]],5,[]⟩
abbrev Mn:=Int->Int->(List Syntax)->Int->Int->(List Syntax)->Int->Int->Tb->Tb->Ta->Int->kp->(List Syntax)->Int->Int->Option Tu
abbrev adD(X:kK)(n:Nat)(K:List Kt)(Z:Mn):Prop:=∀v0 v1 v2 v3 v4 v5 v6 v7 r2 r3 r4 v11 v12 v13 v14 v15,run (ul X n) K (Mm v0 v1 v2 v3 v4 v5 v6 v7 r2 r3 r4 v11 v12 v13 v14 v15)=Z v0 v1 v2 v3 v4 v5 v6 v7 r2 r3 r4 v11 v12 v13 v14 v15
abbrev Mo(v0 v1 v2:Int)(v3:List kp)(v4 v5:Int)(v6:List Syntax)(v7 v8:Int)(r2 r3:List (kp×jS))(r4:List (kp×Bool))(o5:jS)(r8:List Syntax)(c8:Nat):jT:=⟨(.ptr 0 0::qA::.int .i64 v0::.lV 8 c8::.int .i64 v1::qA::.ptr 5 0::qA::qA::qA::.ptr 6 0::.int .i64 v2::mc (mc (mc (.kJ false 1 (mp kS v3)::.int .i64 v4::.int .i64 v5::uw (mc (mc (qA::qA::[]))))))),[.cells [.ptr 1 0,.kJ false 8 (mp Syntax.cells v6),.int .i64 v7],.cells [.map 2,.map 3,.map 4,.int .i64 v8],.map (mp (Qy (kT jS.kr)) r2),.map (mp (Qy (kT jS.kr)) r3),.map (mp Hq r4),.cells (jS.cells o5),.cells [.int .i64 0,.str (sb []),.int .i64 0,.kJ true 0 [],.kJ true 0 [],.kJ true 0 [],.int .i64 0,.int .i64 0],.vz,.lV true 8 (mp Syntax.cells r8)],5,[]⟩
abbrev Mp:=Int->Int->Int->(List kp)->Int->Int->(List Syntax)->Int->Int->Tb->Tb->Ta->jS->(List Syntax)->Option Tu
abbrev adE(X:kK)(n:Nat)(K:List Kt)(Z:Mp):Prop:=∀v0 v1 v2 v3 v4 v5 v6 v7 v8 r2 r3 r4 o5 r8 c8,c8=r8.length->run (ul X n) K (Mo v0 v1 v2 v3 v4 v5 v6 v7 v8 r2 r3 r4 o5 r8 c8)=Z v0 v1 v2 v3 v4 v5 v6 v7 v8 r2 r3 r4 o5 r8
abbrev Mq(v0:Int)(v1:List Syntax)(v2 v3:Int)(v4:List kp)(v5 v6:Int)(v7:List Syntax)(v8 v9:Int)(r2 r3:List (kp×jS))(r4:List (kp×Bool))(o5:jS):jT:=⟨(.ptr 0 0::qA::.int .i64 v0::.kJ true 8 (mp Syntax.cells v1)::.int .i64 v2::qA::.ptr 5 0::qA::qA::qA::.ptr 6 0::.int .i64 v3::mc (mc (mc (.kJ false 1 (mp kS v4)::.int .i64 v5::.int .i64 v6::uw (mc (mc (qA::qA::[]))))))),[.cells [.ptr 1 0,.kJ false 8 (mp Syntax.cells v7),.int .i64 v8],.cells [.map 2,.map 3,.map 4,.int .i64 v9],.map (mp (Qy (kT jS.kr)) r2),.map (mp (Qy (kT jS.kr)) r3),.map (mp Hq r4),.cells (jS.cells o5),.cells [.int .i64 0,.str (sb []),.int .i64 0,.kJ true 0 [],.kJ true 0 [],.kJ true 0 [],.int .i64 0,.int .i64 0]],5,[]⟩
abbrev yR:=Int->(List Syntax)->Int->Int->(List kp)->Int->Int->(List Syntax)->Int->Int->Tb->Tb->Ta->jS->Option Tu
abbrev yS(X:kK)(n:Nat)(K:List Kt)(Z:yR):Prop:=∀v0 v1 v2 v3 v4 v5 v6 v7 v8 v9 r2 r3 r4 o5,run (ul X n) K (Mq v0 v1 v2 v3 v4 v5 v6 v7 v8 v9 r2 r3 r4 o5)=Z v0 v1 v2 v3 v4 v5 v6 v7 v8 v9 r2 r3 r4 o5
attribute [go_sem] Mk Mm Mo Mq
def Do(X:kK)(n:Nat):LB (adC X n) [0,1,0,1,1,1,1] [.pF 2,.cut [1,1,1,1,1],.at [1,1,1,1,1]]:=mB2
def Dp(X:kK)(n:Nat):Nat->Ml:=sR ((Do X n).1)
def aw1(X:kK){n:Nat}:Dp X n (m+1)=(Do X n).1 (Dp X n m):=rfl
@[go_sem]def XT(X:kK)(n:Nat)(m:Nat):=ud (Do X n) (Dp X n) m
def Dq(X:kK)(n:Nat):LB (adD X n) [0,1,0,1,1,1,1] [.pF 2,.cut [1,1,1,1,1],.at [1,1,1,1,1]]:=mB2
def Dr(X:kK)(n:Nat):Nat->Mn:=sR ((Dq X n).1)
def aw2(X:kK){n:Nat}:Dr X n (m+1)=(Dq X n).1 (Dr X n m):=rfl
@[go_sem]def XU(X:kK)(n:Nat)(m:Nat):=ud (Dq X n) (Dr X n) m
def Ds(X:kK)(n:Nat):LB (adE X n) [0,1,0,1,1] [.pF 0,.cut [1,1,1],.at [1,1,1]]:=mB2
def Dt(X:kK)(n:Nat):Nat->Mp:=sR ((Ds X n).1)
def aw3(X:kK){n:Nat}:Dt X n (m+1)=(Ds X n).1 (Dt X n m):=rfl
@[go_sem]def XV(X:kK)(n:Nat)(m:Nat):=ud (Ds X n) (Dt X n) m
def Du(X:kK)(n:Nat):{B:Nat->yR->yR //∀m X0,yS X n (.lq m [0,1,0,1,1]::[.pF 0,.cut [1,1,1],.at [1,1,1]]) X0->yS X n (.at [0,0,1,0,1,1]::.lp m [0,1,0,1,1]::[.pF 0,.cut [1,1,1],.at [1,1,1]]) (B m X0)}:=mB2
def Dv(X:kK)(n:Nat):Nat->yR:=lpM fun m=>(Du X n).1 m
def aw4(X:kK){n:Nat}:Dv X n (m+1)=(Du X n).1 m (Dv X n m):=rfl
@[go_sem]def XW(X:kK)(n:Nat)(m:Nat):yS X n (.lq m [0,1,0,1,1]::[.pF 0,.cut [1,1,1],.at [1,1,1]]) (Dv X n m):=
 aKv (G:=fun m Z=>yS X n (.lq m [0,1,0,1,1]::[.pF 0,.cut [1,1,1],.at [1,1,1]]) Z) (fun _ _ _ _ _ _ _ _ _ _ _ _ _ _=>LO) (fun m _ ih v0 v1 v2 v3 v4 v5 v6 v7 v8 v9 r2 r3 r4 o5=>Ec.trans ((Du X n).2 _ _ ih v0 v1 v2 v3 v4 v5 v6 v7 v8 v9 r2 r3 r4 o5)) m
def ER(X:kK)(n:Nat):SX (ul X n) tD ku 101 uk:=mC2
open Go.Proofs
def lU:Nat->kK
 |0=>⟨Fu.z,Fu.z,Fu.z⟩
 |n+1=>⟨(EQ (lU n) n).1,(Bn (lU n) n).1,(ER (lU n) n).1⟩
def qU:Int->(List Syntax)->Int->Int->Tb->Tb->Ta->Option Tq:=(lU n).qU
def aAF{n:Nat}:qU (n+1)=(EQ (lU n) n).1:=rfl
def qy:Int->(List Syntax)->Int->Int->Tb->Tb->Ta->Option Tq:=(lU n).qy
def aw5{n:Nat}:qy (n+1)=(Bn (lU n) n).1:=rfl
def qd:jS->Int->(List Syntax)->Int->(List Syntax)->Int->Int->Tb->Tb->Ta->Option Tu:=(lU n).qd
def aAG{n:Nat}:qd (n+1)=(ER (lU n) n).1:=rfl
def ay9{n:Nat}:(lU n).qU=qU n/\(lU n).qy=qy n/\(lU n).qd=qd n:=⟨rfl,rfl,rfl⟩
def ye:∀n:Nat,tG fW 252 (l5 0 (l1 (li .i64) kM)) ku true ku qx ku (l1 (aaJ 312 aiP) kM) (qT (lU n).qU)/\tG fW 283 (l5 0 (l1 (li .i64) kM)) ku true ku qx ku (l1 (aaJ 312 aiP) kM) (qT (lU n).qy)/\tG fW 286 tD ku true ku (l1 (kT Syntax.kr) kM) ku (l1 (aaJ 312 aiP) kM) (uk (lU n).qd)
 |0=>⟨fun _ _ _ h=>(by cases h),fun _ _ _ h=>(by cases h),fun _ _ _ h=>(by cases h)⟩
 |n+1=>by
  obtain⟨adF,XX,Dw⟩:=ye n
  exact⟨Et (EQ (lU n) n) (gd (jR (mY (Jq n)) (jR (lj (I5 n)) jU)) jV (p:=(kz (lc (XX)) (kz (lc (Dw)) l7)))) func252 ntmps252 results252,
   Et (Bn (lU n) n) (gd (jR (lA (Bx n)) jU) jV (p:=(kz (lc (Dw)) l7)) (c:=(nS (AB (Dw)) tK))) func283 ntmps283 results283,
   Et (ER (lU n) n) (gd (jR (mY (Jq n)) (jR (lj (I5 n)) jU)) jV (p:=(kz (lc (adF)) l7))) func286 ntmps286 results286⟩
def adG:tG fW 252 (l5 0 (l1 (li .i64) kM)) ku true ku qx ku (l1 (aaJ 312 aiP) kM) (qT (qU n)):=(ye n).1
def awn:tG fW 283 (l5 0 (l1 (li .i64) kM)) ku true ku qx ku (l1 (aaJ 312 aiP) kM) (qT (qy n)):=(ye n).2.1
def aza:tG fW 286 tD ku true ku (l1 (kT Syntax.kr) kM) ku (l1 (aaJ 312 aiP) kM) (uk (qd n)):=(ye n).2.2
end Go.Abs
end
