/- A part of the proof: what the functions compute. -/
import Derived.Test.YtpdbjkgnmjnebaaGreatDoorDataA
import Derived.Test.YtpdbjkgnmjnebaaGreatDoorExtA
import Derived.Test.YtpdbjkgnmjnebaaGreatDoorWalkA
import Derived.Test.YtpdbjkgnmjnebaaGreatDoorWalkC
import Derived.Test.YtpdbjkgnmjnebaaGreatDoorWalkD
import Derived.Test.YtpdbjkgnmjnebaaGreatDoorWalkB
set_option linter.all false
open Go.Proofs.Tryz renaming prog→gQ
open Go.Abs.AV renaming any→qA
noncomputable section
open Go.Proofs.Tryz
namespace Go.Abs
open Go.Proofs
attribute [go_sem] f16 f5
set_option maxRecDepth 100000
set_option maxHeartbeats 4000000
@[reducible] def afP(n:Nat):kK (kj×Int):=nh gQ f27 n (l1 gQ [.tmp 4,.tmp 5] (Qr mo (lr .i64))) (cl:=l6 [(13,nP mo (lA jR.row) (ty3 (kZ Syntax.kv) (lr .i64) (lr .i64)) (aqq n)),(69,nq (lA jR.row) mw (afM n)),(71,oa (qE n)),(72,JH (My n))]) (cd:=Bp [(55,pR (nq (lA jR.row) (lA kW) (Ak n))),(70,pR (nP (lA kW) (kZ Syntax.kv) (lr .i64) (nN n)))]) (uz:=l2 []) (uC:=l2 [])
@[go_sem]def arE(n:Nat):so (afP n) [0,0,1,1]=true:=jN
def afQ(n:Nat):Ll (afP n) (lA jR.row) (kZ Syntax.kv) 47:=by
 apply Subtype.mk;intro a0 a1;simp (config:={maxSteps:=100000000}) only[go_sem,Nat.reduceAdd,Nat.reduceSub,Nat.reduceLeDiff,Nat.reduceEqDiff,Nat.reduceBEq,Nat.reduceMul,Nat.reduceLT,Int.reduceLE,Int.reduceLT,Int.reduceToNat,Int.reduceBEq,Int.reduceEq,f27,Option.getD_some,mixed,Value.oneCell',Bool.and_self,eq_self,jM];exact rfl
def aaW:=fu fun n=>(afQ n).1
def acZ:∀n:Nat,uu gQ 27 (lA jR.row) (kZ Syntax.kv) (Qr mo (lr .i64)) (aaW n):=yu fun n=>we (afQ n) (gd (jQ (lw (auc n)) (jQ (lB (amr n)) (jQ (mV (aew n)) (jQ (mV (fun b a r h=>(XF n) b.1.1 b.1.2.1 b.2.1 r h)) jT)))) (lC (nu (Jc n)) (lC (qk (N9 n)) jU))) func27 ntmps27 results27
open Go.Proofs
@[reducible] def QL(n:Nat):kK Bool:=nh gQ f16 n (l1 gQ [.tmp 0] mw) (cl:=l6 [(17,ao2 (kZ kH.kv) (lA kW) (lA kW) (kZ jW.kv) (Qr (kZ Syntax.kv) (lr .i64)) (Oy n)),(27,nP (lA jR.row) (kZ Syntax.kv) (Qr mo (lr .i64)) (aaW n))]) (cd:=Bp [(27,pR (nP (lA jR.row) (kZ Syntax.kv) (Qr mo (lr .i64)) (aaW n))),(51,pR (nq (lr .i64) (kZ jW.kv) (akF n))),(52,pR (nq mo (kZ Syntax.kv) (Z5 n))),(53,pR (nP (kZ Syntax.kv) (kZ Syntax.kv) (kZ Syntax.kv) (Z6 n))),(54,pR (ao2 (kZ Syntax.kv) (kZ Syntax.kv) (uL (cF 53)) (uL (cF 52)) (kZ Syntax.kv) (akP n)))]) (cut:=Mh [([1,1,1,1,1,1,1,1,1,1],[4,3])]) (uz:=l2 []) (uC:=l2 [])
@[go_sem]def avO(n:Nat):aF9 (QL n) [0,1,1,1] [0,1,1,1,1,1,1,1,1,1,1] [0,1,1,1,1,1,1,1,1,1,1,1] [0,1,1,1,1,1,1,1,1,1,1,1,1]:=⟨jN,jN,jN,jN⟩
@[go_sem]def avP(n:Nat):auY (QL n) [0,1,1,1] 0 10 9 10/\xR (QL n) [0,1,1,1,1,1,1,1,1,1,1,1,1] 0 11 2 11 6 11 10 11:=⟨⟨jN,jN⟩,jN,jN,jN,jN⟩
def alp(n:Nat):SC0 (QL n) 125:=mB
def Sf:=fu fun n=>(alp n).1
def aud:∀n:Nat,aGa gQ 16 mw (Sf n):=aMX fun n=>aMW (alp n) (gd (jQ (arP (afO n)) (jQ (lw (acZ n)) jT)) (lC (qk (acZ n)) (lC (nu (api n)) (lC (nu (abI n)) (lC (qk (abJ n)) (lC (am6 (apo n)) jU)))))) func16 ntmps16 results16
open Go.Proofs
@[go_sem]def PH:ua:=⟨[],[],(zA::zK::lH (lH (lH (l7 (zA::zT (lA kW)::zK::zK::l7 (l7 (l7 (zA::zA::zA::[])))))))),[oT ky.kv],none,none⟩
@[reducible] def Sg(n:Nat):kK Bool:=nh gQ f5 n (l1 gQ [.tmp 2] mw) (cl:=l6 [(15,nq (kZ ky.kv) mw (KK n)),(16,aAd mw (Sf n)),(17,ao2 (kZ kH.kv) (lA kW) (lA kW) (kZ jW.kv) (Qr (kZ Syntax.kv) (lr .i64)) (Oy n)),(20,nq (kZ jW.kv) mw (Aa n)),(21,Zv (kZ Syntax.kv) (lA kW) (lA kW) (Qr (kZ jW.kv) mw) (nV n)),(22,nP (kZ jW.kv) (kZ jW.kv) mw (Ca n)),(23,nq (kZ jW.kv) (lA kW) (Vp n)),(24,nP (lA kz.row) mo (Qr (kZ Entry.kv) (lr .i64)) (KT n))]) (qj:=oz [([0,1,0,1,1,1,1,1,1],PH)])
@[go_sem]abbrev PI(v0:List kj)(v1 v2:Int)(o0:ky):jS:=⟨(qA::.ptr 0 0::lK (lK (lK (mm (qA::.kF false 1 (mp kX v0)::.int .i64 v1::.int .i64 v2::mm (mm (mm (qA::qA::qA::[])))))))),[.cells (ky.cells o0)],0,[]⟩
abbrev PJ:=(List kj)->Int->Int->ky->Option Bool
abbrev agE(n:Nat)(K:List Kt)(Z:PJ):Prop:=∀v0 v1 v2 o0,run (Sg n) K (PI v0 v1 v2 o0)=Z v0 v1 v2 o0
def xA(n:Nat):LB (agE n) [0,1,0,1,1,1,1,1,1] Bh:=mB
def xB(n:Nat):Nat->PJ:=ui ((xA n).1)
def Mf{n:Nat}{m:Nat}:xB n (m+1)=(xA n).1 (xB n m):=rfl
@[go_sem]def aaX(n:Nat)(m:Nat):=vi (xA n) (xB n) m
def If(n:Nat):Jx (Sg n) (kZ ky.kv) 73:=mB
def ET:=fu fun n=>(If n).1
def ay7:∀n:Nat,uj gQ 5 (kZ ky.kv) mw (ET n):=ww fun n=>uU (If n) (gd (jQ (lB (ams n)) (jQ (am5 (aud n)) (jQ (arP (afO n)) (jQ (lB (atq n)) (jQ (Qs (ak1 n)) (jQ (lw (QE n)) (jQ (lB (ark n)) (jQ (lw (Qz n)) jT)))))))) jU) func5 ntmps5 results5
end Go.Abs
end
