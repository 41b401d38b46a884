/- A part of the proof: what the functions compute. -/
import Derived.Test.YtpdbjkgnmjnebaaGreatDoorDataA
import Derived.Test.YtpdbjkgnmjnebaaGreatDoorWalkA
import Derived.Test.YtpdbjkgnmjnebaaGreatDoorWalkB
import Derived.Test.YtpdbjkgnmjnebaaGreatDoorWalkC
import Derived.Test.YtpdbjkgnmjnebaaGreatDoorCoreD
import Derived.Test.YtpdbjkgnmjnebaaGreatDoorExtA
set_option linter.all false
open Go.Proofs.Tryz renaming prog→gY
open Nat renaming reduceLeDiff→gZ,reduceEqDiff→hJ,reduceAdd→ia,reduceSub→ib,reduceBEq→ic,reduceMul→ig,reduceLT→ij
open Option renaming getD_some→hO
open Int renaming reduceToNat→hU,reduceBEq→ii,reduceLE→il,reduceLT→iq,reduceEq→ir
open Subtype renaming mk→iv
open Go.Abs.AV renaming any→qA
noncomputable section
open Go.Proofs.Tryz
namespace Go.Abs
variable {op:BinOp}{m:Nat}{P:Program}{t:TypeId}{x:adF}{J:k9}
variable (n:Nat)
open Go.Proofs
attribute [go_sem] f87 f92 f156 f211 f250 f282 f304 f319 f320 f329 f334 f338 f347 f348 f89 f70 f129 f57 f17 f13 f16 f6
set_option maxRecDepth 100000
set_option maxHeartbeats 4000000
@[reducible] def Gz(X:lm)(n:Nat):mg Td:=qj gY f87 n (tO gY [.cell 4 37] [] [0] 1 kY (nu (nh Syntax.lU) lX)) (cl:=oN [(88,DP [0] (xo (CK kZ.lU) vI) (WK 0 MJ) (xo (CK kZ.lU) vI) (V0 oa KQ) (fun(b:Te) a=>(nV n) b.1)),(150,DP [0] (xo (CK kZ.lU) vI) (WK 0 MJ) (xo (CK kZ.lU) vI) (V0 (nh Syntax.lU) KQ) (fun(b:Te) a=>(DW n) b.1)),(153,DP [0] (xo (CK kZ.lU) vI) (WK 0 (asT oa MJ)) (xo (CK kZ.lU) vI) (V0 p8 KQ) (fun(b:Te) a=>(oB n) b.1 a.1))]) (ua:=tP [] [0] 1 kY lr) (cp:=DR [(44,pP X.mz),(149,qM (tY n)),(151,rM (qn n))]) (zV:=oR [44,149,151]) (AI:=oR []) (AK:=oR [])
@[go_sem]def aiO(X:lm)(n:Nat):yB (Gz X n) [0,1,1,1,1,1,1,1,1,1]=true:=kX
@[go_sem]def aiP(X:lm)(n:Nat):DE (Gz X n) [0,1,1,1,1,1,1,1,1,1] 0 7 1 7 2 7 0 9/\DE (Gz X n) [0,1,1,1,1,1,1,1,1,1] 1 9 2 9 5 9 7 9:=⟨⟨kX,kX,kX,kX⟩,kX,kX,kX,kX⟩
def GA(X:lm)(n:Nat):SX (Gz X n) (nC 0 (nu (oe .i64) lX)) kY 48 sJ:=Ea
open Go.Proofs
@[reducible] def xR(X:lm)(n:Nat):mg Td:=qj gY f92 n (tO gY [.cell 4 37] [] [0] 1 kY (nu (nh Syntax.lU) lX)) (cl:=oN [(153,DP [0] (xo (CK kZ.lU) vI) (WK 0 (asT oa MJ)) (xo (CK kZ.lU) vI) (V0 p8 KQ) (fun(b:Te) a=>(oB n) b.1 a.1)),(155,q6 (nA mJ) (nh Syntax.lU) (nA lD.row) (L6 n)),(157,DP [0] (xo (CK kZ.lU) vI) (WK 0 (asT (oe .i64) MJ)) (xo (CK kZ.lU) vI) (V0 (nA mJ) KQ) (fun(b:Te) a=>(Ef n) b.1 a.1))]) (cd:=KO [(152,tV (aio (nh Syntax.lU) (nA lD.row) (nh Syntax.lU) (nh Syntax.lU) (Ot n)))]) (ua:=tP [] [0] 1 kY lr) (co:=Vc [(44,K3 [.arg 0 []] kY (nC 0 lX) kY (nu (nh Syntax.lU) lX) kY lr (mD X.mz))]) (cp:=DR [(156,pP X.uB)]) (zV:=oR [156]) (AI:=oR [44]) (AK:=oR [])
def afW(X:lm)(n:Nat):yB (xR X n) [0,1,1,1,1,1,1]=true:=kX
def afX(X:lm)(n:Nat):atS (xR X n) [0,1,1,1,1,1,1] 1 7 5 7:=⟨kX,kX⟩
def afY(X:lm)(n:Nat):QU (xR X n) [0,1,1,1,1,1,1] 5 6=true/\QU (xR X n) [0,1,1,1,1,1,1] 5 7=true/\aaa (xR X n) [0,1,1,1,1,1,1] 5=false:=⟨kX,kX,kX⟩
attribute [go_sem] afW afX afY
def Eo(X:lm)(n:Nat):SX (xR X n) (nC 0 (nu (oe .i64) lX)) kY 55 sJ:=Ea
open Go.Proofs
@[go_sem]def WC:Ce:=⟨[(3,8,true)],[],(zK::zA::zK::zK::Ip (py (py (py [])))),[oT kZ.lU,oK,oA Syntax.row],none,none⟩
@[reducible] def Yo(X:lm)(n:Nat):mg Td:=qj gY f156 n (tO gY [.cell 2 37] [] [0] 1 kY (nu (nh Syntax.lU) lX)) (cl:=oN [(209,HJ (tV (rB (xM kZ.lU) p8 (Am n)))),(210,HJ (tV (rB (xM kZ.lU) p8 (B0 n)))),(212,q6 (nA k7.row) (nA Syntax.row) (ty3 (nh Syntax.lU) (oe .i64) (oe .i64)) (HA n))]) (vc:=tK [([0,0,1,1],WC)]) (ua:=tP [] [0] 1 kY lr) (cp:=DR [(82,nP (pO n)),(93,u6 (q4 n)),(148,nP (uK n)),(211,pP X.s6)]) (zV:=oR [82,93,148,211])
@[go_sem]abbrev WD(o0:kZ)(r2:List Syntax)(c2:Nat):k9:=⟨(.ptr 0 0::qA::.ptr 1 0::.nW 2 c2::Io (pM (pM (pM [])))),[.cells (kZ.cells o0),.cells [.int .i64 0,.str (sb []),.int .i64 0,.mj true 0 [],.mj true 0 [],.mj true 0 [],.int .i64 0,.int .i64 0],.nW true 8 (mp Syntax.cells r2)],1,[]⟩
abbrev WE:=kZ->(List Syntax)->Option Td
abbrev aiQ(X:lm)(n:Nat)(K:List Kt)(Z:WE):Prop:=∀o0 r2 c2,c2=r2.length->run (Yo X n) K (WD o0 r2 c2)=Z o0 r2
def GB(X:lm)(n:Nat):LB (aiQ X n) [0,0,1,1] [.wF 0,.cut [1,1,1],.at [1,1,1]]:=JT
def C1(X:lm)(n:Nat):Nat->WE:=C4 ((GB X n).1)
def afZ(X:lm){n:Nat}:C1 X n (m+1)=(GB X n).1 (C1 X n m):=rfl
@[go_sem]def aew(X:lm)(n:Nat)(m:Nat):=EV (GB X n) (C1 X n) m
def Je(X:lm)(n:Nat):SX (Yo X n) (nC 0 lX) kY 80 mD:=Ea
open Go.Proofs
@[reducible] def ahB(X:lm)(n:Nat):mg Td:=qj gY f211 n (tO gY [.cell 2 37] [] [0] 1 kY (nu (nh Syntax.lU) lX)) (cl:=oN [(84,HJ (tV (rB (xM kZ.lU) (oe .i64) (uc n)))),(88,DP [0] (xo (CK kZ.lU) vI) (WK 0 MJ) (xo (CK kZ.lU) vI) (V0 oa KQ) (fun(b:Te) a=>(nV n) b.1)),(205,HJ (tV (rB (xM kZ.lU) (oe .i64) (uE n)))),(209,HJ (tV (rB (xM kZ.lU) p8 (Am n))))]) (ua:=tP [] [0] 1 kY lr) (cp:=DR [(250,pP X.uF)]) (zV:=oR [250])
def Fv(X:lm)(n:Nat):SX (ahB X n) (nC 0 lX) kY 25 mD:=Ea
open Go.Proofs
@[go_sem]def UV:Ce:=⟨[],[],(zK::zA::zK::zK::zK::oZ (py (zA::zA::zA::[]))),[oT kZ.lU,oK,oT Syntax.lU],none,none⟩
@[reducible] def WF(X:lm)(n:Nat):mg Td:=qj gY f250 n (tO gY [.cell 2 37] [] [0] 1 kY (nu (nh Syntax.lU) lX)) (cl:=oN [(210,HJ (tV (rB (xM kZ.lU) p8 (B0 n))))]) (vc:=tK [([0,1,0,1,1],UV)]) (ua:=tP [] [0] 1 kY lr) (cp:=DR [(82,nP (pO n)),(282,pP X.s7)]) (zV:=oR [82,282])
@[go_sem]abbrev UW(v0:Int)(o0:kZ)(o2:Syntax):k9:=⟨(.ptr 0 0::qA::.ptr 1 0::.ptr 2 0::.int .i64 v0::pg (pM (qA::qA::qA::[]))),[.cells (kZ.cells o0),.cells [.int .i64 0,.str (sb []),.int .i64 0,.mj true 0 [],.mj true 0 [],.mj true 0 [],.int .i64 0,.int .i64 0],.cells (Syntax.cells o2)],1,[]⟩
abbrev zi:=Int->kZ->Syntax->Option Td
abbrev ahC(X:lm)(n:Nat)(K:List Kt)(Z:zi):Prop:=∀v0 o0 o2,run (WF X n) K (UW v0 o0 o2)=Z v0 o0 o2
def Fw(X:lm)(n:Nat):LB (ahC X n) [0,1,0,1,1] [.wF 0,.cut [1,1,1],.at [1,1,1]]:=JT
def Cb(X:lm)(n:Nat):Nat->zi:=C4 ((Fw X n).1)
def aex(X:lm){n:Nat}:Cb X n (m+1)=(Fw X n).1 (Cb X n m):=rfl
@[go_sem]def acR(X:lm)(n:Nat)(m:Nat):=EV (Fw X n) (Cb X n) m
def GC(X:lm)(n:Nat):SX (WF X n) (nC 0 lX) kY 28 mD:=Ea
open Go.Proofs
def RJ:Ce:=⟨[],[],(zK::zA::zK::zK::zK::oZ (oZ (py []))),[oT kZ.lU,oK,oT Syntax.lU],none,none⟩
@[reducible] def Fx(X:lm)(n:Nat):mg Td:=qj gY f282 n (tO gY [.cell 2 37] [] [0] 1 kY (nu (nh Syntax.lU) lX)) (cl:=oN [(88,DP [0] (xo (CK kZ.lU) vI) (WK 0 MJ) (xo (CK kZ.lU) vI) (V0 oa KQ) (fun(b:Te) a=>(nV n) b.1)),(91,HJ (tV (q6 (xM kZ.lU) oa p8 (qZ n))))]) (vc:=tK [([0,1,0,1,1],RJ)]) (ua:=tP [] [0] 1 kY lr) (co:=Vc [(205,aeV (tV (rB (xM kZ.lU) (oe .i64) (uE n))))]) (cp:=DR [(82,nP (pO n)),(304,pP X.tD)]) (zV:=oR [82,304]) (AI:=oR [205]) (AK:=oR [])
def ahD(X:lm)(n:Nat):yB (Fx X n) [1,1,1,0,0,1,0,0,1,0,1,1]=true:=kX
def ahE(X:lm)(n:Nat):aB1 (Fx X n) [1,1,1,0,0,1,0,0,1,0,1,1] 1 10 4 10 8 10:=⟨kX,kX,kX⟩
attribute [go_sem] ahD ahE RJ
@[go_sem]abbrev RL(v0:Int)(o0:kZ)(o2:Syntax):k9:=⟨(.ptr 0 0::qA::.ptr 1 0::.ptr 2 0::.int .i64 v0::pg (pg (pM []))),[.cells (kZ.cells o0),.cells [.int .i64 0,.str (sb []),.int .i64 0,.mj true 0 [],.mj true 0 [],.mj true 0 [],.int .i64 0,.int .i64 0],.cells (Syntax.cells o2)],1,[]⟩
abbrev af0(X:lm)(n:Nat)(K:List Kt)(Z:zi):Prop:=∀v0 o0 o2,run (Fx X n) K (RL v0 o0 o2)=Z v0 o0 o2
def Ep(X:lm)(n:Nat):LB (af0 X n) [0,1,0,1,1] [.wF 0,.cut [1,1,1],.at [1,1,1]]:=JT
def Bo(X:lm)(n:Nat):Nat->zi:=C4 ((Ep X n).1)
def acS(X:lm){n:Nat}:Bo X n (m+1)=(Ep X n).1 (Bo X n m):=rfl
@[go_sem]def abc(X:lm)(n:Nat)(m:Nat):=EV (Ep X n) (Bo X n) m
def Fy(X:lm)(n:Nat):SX (Fx X n) (nC 0 lX) kY 41 mD:=Ea
open Go.Proofs
@[reducible] def af1(X:lm)(n:Nat):mg Td:=qj gY f304 n (tO gY [.cell 2 37] [] [0] 1 kY (nu (nh Syntax.lU) lX)) (cl:=oN [(84,HJ (tV (rB (xM kZ.lU) (oe .i64) (uc n)))),(153,DP [0] (xo (CK kZ.lU) vI) (WK 0 (asT oa MJ)) (xo (CK kZ.lU) vI) (V0 p8 KQ) (fun(b:Te) a=>(oB n) b.1 a.1)),(205,HJ (tV (rB (xM kZ.lU) (oe .i64) (uE n))))]) (ua:=tP [] [0] 1 kY lr) (cp:=DR [(319,QH X.tZ),(320,B8 X.vb)]) (zV:=oR [319,320])
def Er(X:lm)(n:Nat):SX (af1 X n) (nC 0 lX) kY 24 mD:=Ea
open Go.Proofs
def OV:Ce:=⟨[],[],(zK::zA::zA::zK::zK::zA::zK::zK::zK::Ip (oZ (py (py (zA::zA::zA::[]))))),[oT kZ.lU,oT Syntax.lU,oK,oD,oA Syntax.row,oT Syntax.lU],none,none⟩
def OW:Ce:=⟨[],[],(zK::zA::zA::zK::zK::zA::zK::Ip (oZ (py (py (py (zA::[])))))),[oT kZ.lU,oT Syntax.lU,oK,oD,oA Syntax.row],none,none⟩
@[reducible] def oJ(X:lm)(n:Nat):mg Td:=qj gY f319 n (tO gY [.cell 4 37] [] [0] 1 kY (nu (nh Syntax.lU) lX)) (cl:=oN [(153,DP [0] (xo (CK kZ.lU) vI) (WK 0 (asT oa MJ)) (xo (CK kZ.lU) vI) (V0 p8 KQ) (fun(b:Te) a=>(oB n) b.1 a.1)),(205,HJ (tV (rB (xM kZ.lU) (oe .i64) (uE n))))]) (vc:=tK [([0,1,0,1,1,1,1,1,1,1,1],OV),([0,0,1,1,1,1,1],OW)]) (ua:=tP [] [0] 1 kY lr) (co:=Vc [(44,K3 [.arg 0 []] kY (nC 0 lX) kY (nu (nh Syntax.lU) lX) kY lr (mD X.mz)),(91,aeV (tV (q6 (xM kZ.lU) oa p8 (qZ n)))),(93,K3 [.arg 0 []] kY (nC 0 (nu p8 lX)) kY lX kY lr (uZ (q4 n))),(205,aeV (tV (rB (xM kZ.lU) (oe .i64) (uE n))))]) (cp:=DR [(44,pP X.mz),(82,nP (pO n)),(151,rM (qn n))]) (zV:=oR [44,82,151]) (AI:=oR [44,91,93,205]) (AK:=oR [])
def aey(X:lm)(n:Nat):aHr (oJ X n) [0,0,1,0,0,1,0,1,1,1,1,1,1,1,1] [0,0,1,1,1,0,0,1,1] [0,1,1,1]:=⟨kX,kX,kX⟩
def aez(X:lm)(n:Nat):DE (oJ X n) [0,0,1,0,0,1,0,1,1,1,1,1,1,1,1] 2 16 3 16 4 16 8 16/\atS (oJ X n) [0,0,1,0,0,1,0,1,1,1,1,1,1,1,1] 10 16 14 16/\DE (oJ X n) [0,0,1,1,1,0,0,1,1] 2 5 0 7 2 7 5 7/\R3 (oJ X n) [0,1,1,1] 6 7=true:=⟨⟨kX,kX,kX,kX⟩,⟨kX,kX⟩,⟨kX,kX,kX,kX⟩,kX⟩
def aeA(X:lm)(n:Nat):QU (oJ X n) [0,0,1,1,1,0,0,1,1] 2 3=true/\QU (oJ X n) [0,0,1,1,1,0,0,1,1] 2 4=false/\QU (oJ X n) [0,0,1,1,1,0,0,1,1] 2 5=true/\QU (oJ X n) [0,0,1,1,1,0,0,1,1] 2 6=true/\QU (oJ X n) [0,0,1,1,1,0,0,1,1] 2 7=true/\aaa (oJ X n) [0,0,1,1,1,0,0,1,1] 2=false/\aaa (oJ X n) [0,1,1,1] 7=true:=⟨kX,kX,kX,kX,kX,kX,kX⟩
attribute [go_sem] aey aez aeA OV OW
abbrev OX(v0:Int)(o0:kZ)(o1:Syntax)(r4:List Syntax)(o5:Syntax)(c4:Nat):k9:=⟨(.ptr 0 0::qA::qA::.ptr 1 0::.ptr 2 0::qA::.nW 4 c4::.ptr 5 0::.int .i64 v0::Io (pg (pM (pM (qA::qA::qA::[]))))),[.cells (kZ.cells o0),.cells (Syntax.cells o1),.cells [.int .i64 0,.str (sb []),.int .i64 0,.mj true 0 [],.mj true 0 [],.mj true 0 [],.int .i64 0,.int .i64 0],.zU,.nW true 8 (mp Syntax.cells r4),.cells (Syntax.cells o5)],1,[]⟩
abbrev OY:List Kt:=[.wF 3,.cut [1,1,1,1,1,1,1,1,1],.at [1,1,1,1,1,1,1,1,1]]
abbrev OZ:=Int->kZ->Syntax->(List Syntax)->Syntax->Option Td
abbrev acT(X:lm)(n:Nat)(K:List Kt)(Z:OZ):Prop:=∀v0 o0 o1 r4 o5 c4,c4=r4.length->run (oJ X n) K (OX v0 o0 o1 r4 o5 c4)=Z v0 o0 o1 r4 o5
abbrev aPf(o0:kZ)(o1:Syntax)(r4:List Syntax)(c4:Nat):k9:=⟨(.ptr 0 0::qA::qA::.ptr 1 0::.ptr 2 0::qA::.nW 4 c4::Io (pg (pM (pM (pM (qA::[])))))),[.cells (kZ.cells o0),.cells (Syntax.cells o1),.cells [.int .i64 0,.str (sb []),.int .i64 0,.mj true 0 [],.mj true 0 [],.mj true 0 [],.int .i64 0,.int .i64 0],.zU,.nW true 8 (mp Syntax.cells r4)],1,[]⟩
abbrev aPg:=kZ->Syntax->(List Syntax)->Option Td
abbrev acU(X:lm)(n:Nat)(K:List Kt)(Z:aPg):Prop:=∀o0 o1 r4 c4,c4=r4.length->run (oJ X n) K (aPf o0 o1 r4 c4)=Z o0 o1 r4
attribute [go_sem] OX OY aPf
def zj(X:lm)(n:Nat):LB (acT X n) [0,1,0,1,1,1,1,1,1,1,1] OY:=JT
def zk(X:lm)(n:Nat):Nat->OZ:=C4 ((zj X n).1)
def Ms(X:lm){n:Nat}:zk X n (m+1)=(zj X n).1 (zk X n m):=rfl
@[go_sem]def Yp(X:lm)(n:Nat)(m:Nat):=EV (zj X n) (zk X n) m
def CC(X:lm)(n:Nat):LB (acU X n) [0,0,1,1,1,1,1] [.wF 1,.cut [1,1,1,1,1,1],.at [1,1,1,1,1,1]]:=JT
def zl(X:lm)(n:Nat):Nat->aPg:=C4 ((CC X n).1)
def aOV(X:lm){n:Nat}:zl X n (m+1)=(CC X n).1 (zl X n m):=rfl
@[go_sem]def Yq(X:lm)(n:Nat)(m:Nat):=EV (CC X n) (zl X n) m
def Dw(X:lm)(n:Nat):SX (oJ X n) (nC 0 (nu (nh Syntax.lU) lX)) kY 100 Ay:=Ea
open Go.Proofs
@[reducible] def ahF(X:lm)(n:Nat):mg Th:=qj gY f320 n (tO gY [] [] [0,1] 2 me lX) (cl:=oN [(85,HJ (tV (aio (xM kZ.lU) (oe .i64) oa p8 (xd n)))),(88,DP [0] (xo (CK kZ.lU) vI) (WK 0 MJ) (xo (CK kZ.lU) vI) (V0 oa KQ) (fun(b:Te) a=>(nV n) b.1)),(94,HJ (tV (rB (xM kZ.lU) (nh mG.lU) (oh n)))),(153,DP [0] (xo (CK kZ.lU) vI) (WK 0 (asT oa MJ)) (xo (CK kZ.lU) vI) (V0 p8 KQ) (fun(b:Te) a=>(oB n) b.1 a.1))]) (ua:=tP [] [0,1] 2 me lr) (cp:=DR [(148,nP (uK n)),(151,rM (qn n)),(325,Qw (Fp n)),(326,qM (D0 n)),(327,Dj (uL n)),(328,Kd (KM n)),(329,HC X.sr)]) (zV:=oR [148,151,325,326,327,328,329])
def Fz(X:lm)(n:Nat):SX (ahF X n) (nC 0 (nC 1 lX)) me 135 rO:=Ea
open Go.Proofs
@[go_sem]def Np:Ce:=⟨[(3,8,true)],[],(zK::zA::zA::zK::oZ (py (zA::zA::[]))),[oT kZ.lU,oA Syntax.row],none,none⟩
@[reducible] def aPh(X:lm)(n:Nat):mg TQ:=qj gY f329 n (tO gY [.tmp 2] [] [0] 1 kY (nu (nA Syntax.row) lX)) (cl:=oN [(91,HJ (tV (q6 (xM kZ.lU) oa p8 (qZ n)))),(153,DP [0] (xo (CK kZ.lU) vI) (WK 0 (asT oa MJ)) (xo (CK kZ.lU) vI) (V0 p8 KQ) (fun(b:Te) a=>(oB n) b.1 a.1))]) (vc:=tK [([0,0,1,1],Np)]) (ua:=tP [] [0] 1 kY lr) (cp:=DR [(82,nP (pO n)),(334,pP X.qU)]) (zV:=oR [82,334])
@[go_sem]abbrev Nq(o0:kZ)(r1:List Syntax)(c1:Nat):k9:=⟨(.ptr 0 0::qA::qA::.nW 1 c1::pg (pM (qA::qA::[]))),[.cells (kZ.cells o0),.nW true 8 (mp Syntax.cells r1)],1,[]⟩
abbrev Nr:=kZ->(List Syntax)->Option TQ
abbrev abd(X:lm)(n:Nat)(K:List Kt)(Z:Nr):Prop:=∀o0 r1 c1,c1=r1.length->run (aPh X n) K (Nq o0 r1 c1)=Z o0 r1
def BT(X:lm)(n:Nat):LB (abd X n) [0,0,1,1] [.wF 0,.cut [1,1,1],.at [1,1,1]]:=JT
def ye(X:lm)(n:Nat):Nat->Nr:=C4 ((BT X n).1)
def Yr(X:lm){n:Nat}:ye X n (m+1)=(BT X n).1 (ye X n m):=rfl
@[go_sem]def aO7(X:lm)(n:Nat)(m:Nat):=EV (BT X n) (ye X n) m
def CD(X:lm)(n:Nat):SX (aPh X n) (nC 0 lX) kY 26 zh:=Ea
open Go.Proofs
@[go_sem]def Ia:Ce:=⟨[],[],(zK::zA::zK::zK::zK::oZ (py (py (zA::[])))),[oT kZ.lU,oK,oT Syntax.lU],none,none⟩
@[reducible] def JK(X:lm)(n:Nat):mg Td:=qj gY f334 n (tO gY [.cell 2 37] [] [0] 1 kY (nu (nh Syntax.lU) lX)) (cl:=oN [(153,DP [0] (xo (CK kZ.lU) vI) (WK 0 (asT oa MJ)) (xo (CK kZ.lU) vI) (V0 p8 KQ) (fun(b:Te) a=>(oB n) b.1 a.1))]) (vc:=tK [([0,1,0,1,1],Ia)]) (ua:=tP [] [0] 1 kY lr) (cp:=DR [(82,nP (pO n)),(338,pP X.nF)]) (zV:=oR [82,338])
@[go_sem]abbrev Ib(v0:Int)(o0:kZ)(o2:Syntax):k9:=⟨(.ptr 0 0::qA::.ptr 1 0::.ptr 2 0::.int .i64 v0::pg (pM (pM (qA::[])))),[.cells (kZ.cells o0),.cells [.int .i64 0,.str (sb []),.int .i64 0,.mj true 0 [],.mj true 0 [],.mj true 0 [],.int .i64 0,.int .i64 0],.cells (Syntax.cells o2)],1,[]⟩
abbrev UX(X:lm)(n:Nat)(K:List Kt)(Z:zi):Prop:=∀v0 o0 o2,run (JK X n) K (Ib v0 o0 o2)=Z v0 o0 o2
def xK(X:lm)(n:Nat):LB (UX X n) [0,1,0,1,1] [.wF 0,.cut [1,1,1],.at [1,1,1]]:=JT
def uO(X:lm)(n:Nat):Nat->zi:=C4 ((xK X n).1)
def QY(X:lm){n:Nat}:uO X n (m+1)=(xK X n).1 (uO X n m):=rfl
@[go_sem]def QI(X:lm)(n:Nat)(m:Nat):=EV (xK X n) (uO X n) m
def yu(X:lm)(n:Nat):SX (JK X n) (nC 0 lX) kY 30 mD:=Ea
open Go.Proofs
@[reducible] def sO(X:lm)(n:Nat):mg Td:=qj gY f338 n (apY (Xm [(346,Q7 [.arg 0 [],.yj 0 0 []] mY (nC 0 lX) mY lX (fun(b:(Unit×T6))(a:Unit)=>(xw n) b.2.1.1))]) (tO gY [.cell 2 37] [] [0] 1 kY (nu (nh Syntax.lU) lX)) (tP [] [0] 1 kY lr)) (cl:=oN [(91,HJ (tV (q6 (xM kZ.lU) oa p8 (qZ n)))),(205,HJ (tV (rB (xM kZ.lU) (oe .i64) (uE n))))]) (ua:=apZ (Xm [(346,Q7 [.arg 0 [],.yj 0 0 []] mY (nC 0 lX) mY lX (fun(b:(Unit×T6))(a:Unit)=>(xw n) b.2.1.1))]) (tO gY [.cell 2 37] [] [0] 1 kY (nu (nh Syntax.lU) lX)) (tP [] [0] 1 kY lr)) (co:=Vc [(82,K3 [.arg 0 []] kY (nC 0 (nu (oe .i64) lX)) kY lX kY lr (sM (pO n))),(84,aeV (tV (rB (xM kZ.lU) (oe .i64) (uc n)))),(93,K3 [.arg 0 []] kY (nC 0 (nu p8 lX)) kY lX kY lr (uZ (q4 n))),(94,aeV (tV (rB (xM kZ.lU) (nh mG.lU) (oh n))))]) (cp:=DR [(347,B8 X.tE),(348,B8 X.uu)]) (zV:=oR [347,348]) (AI:=oR [82,84,93,94]) (AK:=oR [])
def aeB(X:lm)(n:Nat):aHr (sO X n) [0,1] [0,1,1,0,1,1,1,1,1] [0,1,1,1,1]:=⟨kX,kX,kX⟩
def aeC(X:lm)(n:Nat):aB1 (sO X n) [0,1] 0 7 3 7 6 7/\DE (sO X n) [0,1,1,0,1,1,1,1,1] 3 6 0 9 3 9 6 9/\DE (sO X n) [0,1,1,1,1] 0 3 0 8 3 8 5 8/\DE (sO X n) [0,1,1,1,1] 0 11 3 11 5 11 8 11/\R3 (sO X n) [0,1,1,1,1] 10 11=true:=⟨⟨kX,kX,kX⟩,⟨kX,kX,kX,kX⟩,⟨kX,kX,kX,kX⟩,⟨kX,kX,kX,kX⟩,kX⟩
def aeD(X:lm)(n:Nat):aaa (sO X n) [0,1] 7=true/\aaa (sO X n) [0,1,1,0,1,1,1,1,1] 9=true:=⟨kX,kX⟩
attribute [go_sem] aeB aeC aeD
def Az(X:lm)(n:Nat):SX (sO X n) (nC 0 lX) kY 54 mD:=Ea
open Go.Proofs
@[reducible] def af2(X:lm)(n:Nat):mg Th:=qj gY f347 n (tO gY [] [] [0,1] 2 me lX) (ua:=tP [] [0,1] 2 me lr) (cp:=DR [(151,rM (qn n)),(329,HC X.sr)]) (zV:=oR [151,329])
def Es(X:lm)(n:Nat):SX (af2 X n) (nC 0 (nC 1 lX)) me 17 rO:=Ea
open Go.Proofs
def QJ:Ce:=⟨[],[],(zK::zK::Ip (Ip (py (py (py (zA::zA::zA::[])))))),[oT kZ.lU,oC [zK,zK,zK,zK,zT (nA ld.row),zT (nA Syntax.row),zK,zK],oA mJ],none,none⟩
@[reducible] def vU(X:lm)(n:Nat):mg Th:=qj gY f348 n (tO gY [] [] [0,1] 2 me lX) (cl:=oN [(88,DP [0] (xo (CK kZ.lU) vI) (WK 0 MJ) (xo (CK kZ.lU) vI) (V0 oa KQ) (fun(b:Te) a=>(nV n) b.1)),(94,HJ (tV (rB (xM kZ.lU) (nh mG.lU) (oh n))))]) (vc:=tK [([0,1,1,0,1,1,1,1,1,1,1,1,1,1,1,1,1,0,1],QJ)]) (ua:=tP [] [0,1] 2 me lr) (co:=Vc [(82,K3 [.arg 0 []] kY (nC 0 (nu (oe .i64) lX)) kY lX kY lr (sM (pO n))),(88,K3 [.arg 0 []] kY (nC 0 lX) kY (nu oa lX) kY (nu oa lX) (fun(b:T6)(a:Unit)=>((aOF n) b.1.1).map fun r=>(PR.ok r:PR TK TK)))]) (cp:=DR [(44,pP X.mz),(148,nP (uK n)),(149,qM (tY n)),(326,qM (D0 n)),(338,pP X.nF),(340,qM (vG n)),(347,B8 X.tE),(352,Mq (Cw n))]) (zV:=oR [44,148,149,326,338,340,347,352]) (AI:=oR [82,88]) (AK:=oR [])
def af3(X:lm)(n:Nat):an1 (vU X n) [0,0,1,0,0,1,1,0,1,1,1,1,1,1,1,1,1,1,1,1,1,0,1] [1,0,1,0,0,1,1,0,1,1,1,1,1,1,1,1,1,1,1,1,1,0,1]:=⟨kX,kX⟩
def af4(X:lm)(n:Nat):atS (vU X n) [0,0,1,0,0,1,1,0,1,1,1,1,1,1,1,1,1,1,1,1,1,0,1] 6 8 7 8/\DE (vU X n) [1,0,1,0,0,1,1,0,1,1,1,1,1,1,1,1,1,1,1,1,1,0,1] 4 10 8 10 4 13 8 13/\R3 (vU X n) [1,0,1,0,0,1,1,0,1,1,1,1,1,1,1,1,1,1,1,1,1,0,1] 10 13=true:=⟨⟨kX,kX⟩,⟨kX,kX,kX,kX⟩,kX⟩
def af5(X:lm)(n:Nat):aaa (vU X n) [0,0,1,0,0,1,1,0,1,1,1,1,1,1,1,1,1,1,1,1,1,0,1] 8=true:=kX
attribute [go_sem] af3 af4 af5 QJ
@[go_sem]abbrev QK(o0:kZ)(v1:Int)(v2:lH)(v3:Int)(v4:List ld)(v5:List Syntax)(v6 v7:Int)(r2:List lH)(c2:Nat):k9:=⟨(.ptr 0 0::.ptr 1 0::Io (Io (pM (pM (pM (qA::qA::qA::[])))))),[.cells (kZ.cells o0),.cells [.int .i64 v1,.str (sb v2),.int .i64 v3,.nW 2 c2,.mj false 2 (mp ld.cells v4),.mj false 8 (mp Syntax.cells v5),.int .i64 v6,.int .i64 v7],.nW true 1 (mp mS r2)],2,[]⟩
abbrev QL:=kZ->Int->lH->Int->Tj->(List Syntax)->Int->Int->(List lH)->Option Th
abbrev aeE(X:lm)(n:Nat)(K:List Kt)(Z:QL):Prop:=∀o0 v1 v2 v3 v4 v5 v6 v7 r2 c2,c2=r2.length->run (vU X n) K (QK o0 v1 v2 v3 v4 v5 v6 v7 r2 c2)=Z o0 v1 v2 v3 v4 v5 v6 v7 r2
def Dx(X:lm)(n:Nat):LB (aeE X n) [0,1,1,0,1,1,1,1,1,1,1,1,1,1,1,1,1,0,1] [.wF 1,.wF 0]:=JT
def AA(X:lm)(n:Nat):Nat->QL:=C4 ((Dx X n).1)
def abe(X:lm){n:Nat}:AA X n (m+1)=(Dx X n).1 (AA X n m):=rfl
@[go_sem]def aOW(X:lm)(n:Nat)(m:Nat):=EV (Dx X n) (AA X n) m
def Et(X:lm)(n:Nat):SX (vU X n) (nC 0 (nC 1 lX)) me 145 rO:=Ea
open Go.Proofs
@[reducible] def wC(X:lm)(n:Nat):mg Td:=qj gY f89 n (tO gY [.cell 8 37] [] [0] 1 kY (nu (nh Syntax.lU) lX)) (cd:=KO [(152,tV (aio (nh Syntax.lU) (nA lD.row) (nh Syntax.lU) (nh Syntax.lU) (Ot n)))]) (ua:=tP [] [0] 1 kY lr) (co:=Vc [(44,K3 [.arg 0 []] kY (nC 0 lX) kY (nu (nh Syntax.lU) lX) kY lr (mD X.mz))]) (cp:=DR [(151,rM (qn n))]) (zV:=oR [151]) (AI:=oR [44]) (AK:=oR [])
def acV(X:lm)(n:Nat):yB (wC X n) [0,1,1]=true:=kX
def acW(X:lm)(n:Nat):atS (wC X n) [0,1,1] 0 5 3 5:=⟨kX,kX⟩
def acX(X:lm)(n:Nat):QU (wC X n) [0,1,1] 3 4=true/\QU (wC X n) [0,1,1] 3 5=true/\aaa (wC X n) [0,1,1] 3=false:=⟨kX,kX,kX⟩
attribute [go_sem] acV acW acX
def CE(X:lm)(n:Nat):SX (wC X n) vH kY 19 wB:=Ea
open Go.Proofs
def lc:Nat->lm
 |0=>⟨Fu.z,Fu.z,Fu.z,Fu.z,Fu.z,Fu.z,Fu.z,Fu.z,Fu.z,Fu.z,Fu.z,Fu.z,Fu.z,Fu.z,Fu.z,Fu.z,Fu.z,Fu.z⟩
 |n+1=>⟨(B9 (lc n) n).1,(Gy (lc n) n).1,(Dv (lc n) n).1,(GA (lc n) n).1,(Eo (lc n) n).1,(Je (lc n) n).1,(Fv (lc n) n).1,(GC (lc n) n).1,(Fy (lc n) n).1,(Er (lc n) n).1,(Dw (lc n) n).1,(Fz (lc n) n).1,(CD (lc n) n).1,(yu (lc n) n).1,(Az (lc n) n).1,(Es (lc n) n).1,(Et (lc n) n).1,(CE (lc n) n).1⟩
def mz:kZ->Option Td:=(lc n).mz
def UY{n:Nat}:mz (n+1)=(B9 (lc n) n).1:=rfl
def wi:Int->kZ->Option Td:=(lc n).wi
def aiR{n:Nat}:wi (n+1)=(Gy (lc n) n).1:=rfl
def sW:lH->lH->kZ->Option Tx:=(lc n).sW
def aeF{n:Nat}:sW (n+1)=(Dv (lc n) n).1:=rfl
def wj:Int->kZ->Option Td:=(lc n).wj
def aiS{n:Nat}:wj (n+1)=(GA (lc n) n).1:=rfl
def ut:Int->kZ->Option Td:=(lc n).ut
def af6{n:Nat}:ut (n+1)=(Eo (lc n) n).1:=rfl
def uB:kZ->Option Td:=(lc n).uB
def akj{n:Nat}:uB (n+1)=(Je (lc n) n).1:=rfl
def s6:kZ->Option Td:=(lc n).s6
def ahG{n:Nat}:s6 (n+1)=(Fv (lc n) n).1:=rfl
def uF:kZ->Option Td:=(lc n).uF
def aiT{n:Nat}:uF (n+1)=(GC (lc n) n).1:=rfl
def s7:kZ->Option Td:=(lc n).s7
def ahH{n:Nat}:s7 (n+1)=(Fy (lc n) n).1:=rfl
def tD:kZ->Option Td:=(lc n).tD
def af7{n:Nat}:tD (n+1)=(Er (lc n) n).1:=rfl
def tZ:Syntax->kZ->Option Td:=(lc n).tZ
def aeG{n:Nat}:tZ (n+1)=(Dw (lc n) n).1:=rfl
def vb:kZ->Syntax->Option Th:=(lc n).vb
def ahI{n:Nat}:vb (n+1)=(Fz (lc n) n).1:=rfl
def sr:kZ->Option TQ:=(lc n).sr
def acY{n:Nat}:sr (n+1)=(CD (lc n) n).1:=rfl
def qU:kZ->Option Td:=(lc n).qU
def VN{n:Nat}:qU (n+1)=(yu (lc n) n).1:=rfl
def nF:kZ->Option Td:=(lc n).nF
def QM{n:Nat}:nF (n+1)=(Az (lc n) n).1:=rfl
def tE:kZ->Syntax->Option Th:=(lc n).tE
def af8{n:Nat}:tE (n+1)=(Es (lc n) n).1:=rfl
def uu:kZ->Syntax->Option Th:=(lc n).uu
def af9{n:Nat}:uu (n+1)=(Et (lc n) n).1:=rfl
def th:Syntax->TF->lH->kZ->Option Td:=(lc n).th
def acZ{n:Nat}:th (n+1)=(CE (lc n) n).1:=rfl
def mc{n:Nat}:(lc n).mz=mz n/\(lc n).wi=wi n/\(lc n).sW=sW n/\(lc n).wj=wj n/\(lc n).ut=ut n/\(lc n).uB=uB n/\(lc n).s6=s6 n/\(lc n).uF=uF n/\(lc n).s7=s7 n/\(lc n).tD=tD n/\(lc n).tZ=tZ n/\(lc n).vb=vb n/\(lc n).sr=sr n/\(lc n).qU=qU n/\(lc n).nF=nF n/\(lc n).tE=tE n/\(lc n).uu=uu n/\(lc n).th=th n:=⟨rfl,rfl,rfl,rfl,rfl,rfl,rfl,rfl,rfl,rfl,rfl,rfl,rfl,rfl,rfl,rfl,rfl,rfl⟩
def nv:∀n:Nat,wE gY 44 (nC 0 lX) kY true kY (nu (nh Syntax.lU) lX) kY lr (mD (lc n).mz)/\wE gY 86 (nC 0 (nu (oe .i64) lX)) kY true kY (nu (nh Syntax.lU) lX) kY lr (sJ (lc n).wi)/\wE gY 90 (nC 0 (nu oa (nu oa lX))) kY true kY (nu (nA lD.row) lX) kY lr (xk (lc n).sW)/\wE gY 87 (nC 0 (nu (oe .i64) lX)) kY true kY (nu (nh Syntax.lU) lX) kY lr (sJ (lc n).wj)/\wE gY 92 (nC 0 (nu (oe .i64) lX)) kY true kY (nu (nh Syntax.lU) lX) kY lr (sJ (lc n).ut)/\wE gY 156 (nC 0 lX) kY true kY (nu (nh Syntax.lU) lX) kY lr (mD (lc n).uB)/\wE gY 211 (nC 0 lX) kY true kY (nu (nh Syntax.lU) lX) kY lr (mD (lc n).s6)/\wE gY 250 (nC 0 lX) kY true kY (nu (nh Syntax.lU) lX) kY lr (mD (lc n).uF)/\wE gY 282 (nC 0 lX) kY true kY (nu (nh Syntax.lU) lX) kY lr (mD (lc n).s7)/\wE gY 304 (nC 0 lX) kY true kY (nu (nh Syntax.lU) lX) kY lr (mD (lc n).tD)/\wE gY 319 (nC 0 (nu (nh Syntax.lU) lX)) kY true kY (nu (nh Syntax.lU) lX) kY lr (Ay (lc n).tZ)/\wE gY 320 (nC 0 (nC 1 lX)) me true me lX me lr (rO (lc n).vb)/\wE gY 329 (nC 0 lX) kY true kY (nu (nA Syntax.row) lX) kY lr (zh (lc n).sr)/\wE gY 334 (nC 0 lX) kY true kY (nu (nh Syntax.lU) lX) kY lr (mD (lc n).qU)/\wE gY 338 (nC 0 lX) kY true kY (nu (nh Syntax.lU) lX) kY lr (mD (lc n).nF)/\wE gY 347 (nC 0 (nC 1 lX)) me true me lX me lr (rO (lc n).tE)/\wE gY 348 (nC 0 (nC 1 lX)) me true me lX me lr (rO (lc n).uu)/\wE gY 89 vH kY true kY (nu (nh Syntax.lU) lX) kY lr (wB (lc n).th)
 |0=>⟨fun _ _ _ h=>(by cases h),fun _ _ _ h=>(by cases h),fun _ _ _ h=>(by cases h),fun _ _ _ h=>(by cases h),fun _ _ _ h=>(by cases h),fun _ _ _ h=>(by cases h),fun _ _ _ h=>(by cases h),fun _ _ _ h=>(by cases h),fun _ _ _ h=>(by cases h),fun _ _ _ h=>(by cases h),fun _ _ _ h=>(by cases h),fun _ _ _ h=>(by cases h),fun _ _ _ h=>(by cases h),fun _ _ _ h=>(by cases h),fun _ _ _ h=>(by cases h),fun _ _ _ h=>(by cases h),fun _ _ _ h=>(by cases h),fun _ _ _ h=>(by cases h)⟩
 |n+1=>by
  obtain⟨ur,ahJ,aPi,ahK,aeH,aiU,aga,ahL,agb,aeI,ac0,agc,Ns,UZ,aPj,QN,aeJ,abf⟩:=nv n
  exact⟨aID (awF fun u=>abE asp (fun _ _ _ _=>rfl) (kX) (fun b a r h=>(XI n) b.2.1.1 r h u)) (B9 (lc n) n) (gd (k8 (s9 (p4 (xN n))) (k8 (s9 (abA (CV n))) (k8 (rR (fun b a r h=>(nZ n) b.1 r h)) (k8 (s9 (vg (r9 n))) li)))) lj (p:=(lQ (mo (ahJ)) (lQ (mo (ahK)) (lQ (mo (aeH)) nE)))) (c:=(qc (DQ (pV n)) (qc (DQ (abf)) (qc (DQ (aPi)) vK))))) func44 ntmps44 results44,
   Iq (Gy (lc n) n) (gd (k8 (rR (fun b a r h=>(nZ n) b.1 r h)) (k8 (s9 (vg (r9 n))) (k8 (rR (fun b a r h=>(Rk n) b.1 r h)) (k8 (akV (XZ n)) li)))) lj (p:=(lQ (mo (ur)) (lQ (mo (pV n)) (lQ (mo (aPi)) (lQ (mo (xD n)) (lQ (mo (so n)) nE))))))) func86 ntmps86 results86,
   Iq (Dv (lc n) n) (gd (k8 (rR (fun b a r h=>(nZ n) b.1 r h)) (k8 (s9 (p4 (Dh n))) (k8 (ni (afa n)) li))) lj (p:=(lQ (mo (ur)) (lQ (mo (pV n)) (lQ (mo (xD n)) (lQ (mo (so n)) nE)))))) func90 ntmps90 results90,
   Iq (GA (lc n) n) (gd (k8 (rR (fun b a r h=>(nZ n) b.1 r h)) (k8 (rR (fun b a r h=>(Rk n) b.1 r h)) (k8 (rR (fun b a r h=>(pJ n) b.1 a.1 r h)) li))) lj (p:=(lQ (mo (ur)) (lQ (mo (xD n)) (lQ (mo (so n)) nE))))) func87 ntmps87 results87,
   Iq (Eo (lc n) n) (gd (k8 (rR (fun b a r h=>(pJ n) b.1 a.1 r h)) (k8 (ni (afa n)) (k8 (rR (fun b a r h=>(aaJ n) b.1 a.1 r h)) li))) (ot (abA (XZ n)) lj) (p:=(lQ (mo (aiU)) nE)) (c:=(qc (DQ (ur)) vK))) func92 ntmps92 results92,
   Iq (Je (lc n) n) (gd (k8 (s9 (p4 (Mj n))) (k8 (s9 (p4 (Om n))) (k8 (ni (alE n)) li))) lj (p:=(lQ (mo (pV n)) (lQ (mo (si n)) (lQ (mo (yW n)) (lQ (mo (aga)) nE)))))) func156 ntmps156 results156,
   Iq (Fv (lc n) n) (gd (k8 (s9 (p4 (xN n))) (k8 (rR (fun b a r h=>(nZ n) b.1 r h)) (k8 (s9 (p4 (wK n))) (k8 (s9 (p4 (Mj n))) li)))) lj (p:=(lQ (mo (ahL)) nE))) func211 ntmps211 results211,
   Iq (GC (lc n) n) (gd (k8 (s9 (p4 (Om n))) li) lj (p:=(lQ (mo (pV n)) (lQ (mo (agb)) nE)))) func250 ntmps250 results250,
   Iq (Fy (lc n) n) (gd (k8 (rR (fun b a r h=>(nZ n) b.1 r h)) (k8 (s9 (vg (r9 n))) li)) lj (p:=(lQ (mo (pV n)) (lQ (mo (aeI)) nE))) (c:=(qc (Ub (p4 (wK n))) vK))) func282 ntmps282 results282,
   Iq (Er (lc n) n) (gd (k8 (s9 (p4 (xN n))) (k8 (rR (fun b a r h=>(pJ n) b.1 a.1 r h)) (k8 (s9 (p4 (wK n))) li))) lj (p:=(lQ (mo (ac0)) (lQ (mo (agc)) nE)))) func304 ntmps304 results304,
   Iq (Dw (lc n) n) (gd (k8 (rR (fun b a r h=>(pJ n) b.1 a.1 r h)) (k8 (s9 (p4 (wK n))) li)) lj (p:=(lQ (mo (ur)) (lQ (mo (pV n)) (lQ (mo (so n)) nE)))) (c:=(qc (DQ (ur)) (qc (Ub (vg (r9 n))) (qc (DQ (si n)) (qc (Ub (p4 (wK n))) vK)))))) func319 ntmps319 results319,
   Iq (Fz (lc n) n) (gd (k8 (s9 (abA (CV n))) (k8 (rR (fun b a r h=>(nZ n) b.1 r h)) (k8 (s9 (p4 (oH n))) (k8 (rR (fun b a r h=>(pJ n) b.1 a.1 r h)) li)))) lj (p:=(lQ (mo (yW n)) (lQ (mo (so n)) (lQ (mo (acE n)) (lQ (mo (Rt n)) (lQ (mo (Hu n)) (lQ (mo (ahs n)) (lQ (mo (Ns)) nE))))))))) func320 ntmps320 results320,
   Iq (CD (lc n) n) (gd (k8 (s9 (vg (r9 n))) (k8 (rR (fun b a r h=>(pJ n) b.1 a.1 r h)) li)) lj (p:=(lQ (mo (pV n)) (lQ (mo (UZ)) nE)))) func329 ntmps329 results329,
   Iq (yu (lc n) n) (gd (k8 (rR (fun b a r h=>(pJ n) b.1 a.1 r h)) li) lj (p:=(lQ (mo (pV n)) (lQ (mo (aPj)) nE)))) func334 ntmps334 results334,
   aID (awF fun u=>abE asp (fun _ _ _ _=>rfl) (kX) (fun b a r h=>(Vr n) b.2.1.1 r h u)) (Az (lc n) n) (gd (k8 (s9 (vg (r9 n))) (k8 (s9 (p4 (wK n))) li)) lj (p:=(lQ (mo (QN)) (lQ (mo (aeJ)) nE))) (c:=(qc (DQ (pV n)) (qc (Ub (p4 (xN n))) (qc (DQ (si n)) (qc (Ub (p4 (oH n))) vK)))))) func338 ntmps338 results338,
   Iq (Es (lc n) n) (gd li lj (p:=(lQ (mo (so n)) (lQ (mo (Ns)) nE)))) func347 ntmps347 results347,
   Iq (Et (lc n) n) (gd (k8 (rR (fun b a r h=>(nZ n) b.1 r h)) (k8 (s9 (p4 (oH n))) li)) lj (p:=(lQ (mo (ur)) (lQ (mo (yW n)) (lQ (mo (xD n)) (lQ (mo (Rt n)) (lQ (mo (aPj)) (lQ (mo (KK n)) (lQ (mo (QN)) (lQ (mo (Ye n)) nE))))))))) (c:=(qc (DQ (pV n)) (qc (ak6 (aaH n)) vK)))) func348 ntmps348 results348,
   Iq (CE (lc n) n) (gd li (ot (abA (XZ n)) lj) (p:=(lQ (mo (so n)) nE)) (c:=(qc (DQ (ur)) vK))) func89 ntmps89 results89⟩
def agd:wE gY 44 (nC 0 lX) kY true kY (nu (nh Syntax.lU) lX) kY lr (mD (mz n)):=(nv n).1
def awZ:wE gY 86 (nC 0 (nu (oe .i64) lX)) kY true kY (nu (nh Syntax.lU) lX) kY lr (sJ (wi n)):=(nv n).2.1
def asx:wE gY 90 (nC 0 (nu oa (nu oa lX))) kY true kY (nu (nA lD.row) lX) kY lr (xk (sW n)):=(nv n).2.2.1
def aw0:wE gY 87 (nC 0 (nu (oe .i64) lX)) kY true kY (nu (nh Syntax.lU) lX) kY lr (sJ (wj n)):=(nv n).2.2.2.1
def aue:wE gY 92 (nC 0 (nu (oe .i64) lX)) kY true kY (nu (nh Syntax.lU) lX) kY lr (sJ (ut n)):=(nv n).2.2.2.2.1
def axL:wE gY 156 (nC 0 lX) kY true kY (nu (nh Syntax.lU) lX) kY lr (mD (uB n)):=(nv n).2.2.2.2.2.1
def auH:wE gY 211 (nC 0 lX) kY true kY (nu (nh Syntax.lU) lX) kY lr (mD (s6 n)):=(nv n).2.2.2.2.2.2.1
def aw1:wE gY 250 (nC 0 lX) kY true kY (nu (nh Syntax.lU) lX) kY lr (mD (uF n)):=(nv n).2.2.2.2.2.2.2.1
def auI:wE gY 282 (nC 0 lX) kY true kY (nu (nh Syntax.lU) lX) kY lr (mD (s7 n)):=(nv n).2.2.2.2.2.2.2.2.1
def auf:wE gY 304 (nC 0 lX) kY true kY (nu (nh Syntax.lU) lX) kY lr (mD (tD n)):=(nv n).2.2.2.2.2.2.2.2.2.1
def asy:wE gY 319 (nC 0 (nu (nh Syntax.lU) lX)) kY true kY (nu (nh Syntax.lU) lX) kY lr (Ay (tZ n)):=(nv n).2.2.2.2.2.2.2.2.2.2.1
def auJ:wE gY 320 (nC 0 (nC 1 lX)) me true me lX me lr (rO (vb n)):=(nv n).2.2.2.2.2.2.2.2.2.2.2.1
def arB:wE gY 329 (nC 0 lX) kY true kY (nu (nA Syntax.row) lX) kY lr (zh (sr n)):=(nv n).2.2.2.2.2.2.2.2.2.2.2.2.1
def anA:wE gY 334 (nC 0 lX) kY true kY (nu (nh Syntax.lU) lX) kY lr (mD (qU n)):=(nv n).2.2.2.2.2.2.2.2.2.2.2.2.2.1
def asz:wE gY 338 (nC 0 lX) kY true kY (nu (nh Syntax.lU) lX) kY lr (mD (nF n)):=(nv n).2.2.2.2.2.2.2.2.2.2.2.2.2.2.1
def aug:wE gY 347 (nC 0 (nC 1 lX)) me true me lX me lr (rO (tE n)):=(nv n).2.2.2.2.2.2.2.2.2.2.2.2.2.2.2.1
def auh:wE gY 348 (nC 0 (nC 1 lX)) me true me lX me lr (rO (uu n)):=(nv n).2.2.2.2.2.2.2.2.2.2.2.2.2.2.2.2.1
def arC:wE gY 89 vH kY true kY (nu (nh Syntax.lU) lX) kY lr (wB (th n)):=(nv n).2.2.2.2.2.2.2.2.2.2.2.2.2.2.2.2.2
open Go.Proofs
structure lG where
 pG:(List lH)->Syntax->Option Int
 nk:(List Syntax)->(List lH)->Option Int
 q8:(List lH)->Syntax->Option Int
 mQ:(List Syntax)->(List lH)->Option Int
open Go.Proofs
@[reducible] def QZ(X:lG)(n:Nat):mg Int:=qj gY f70 n (pR gY [.tmp 4] (oe .i64)) (cl:=oN [(124,rB (nh Syntax.lU) p8 (P0 n)),(125,q6 (nA mJ) (nA ld.row) (oe .i64) (A5 n)),(126,q6 (nA mJ) oa p8 (su n)),(127,rB (oe .i64) p8 (FG n)),(128,q6 (nA mJ) oa p8 (wh n)),(129,R7 (q6 (nA Syntax.row) (ala 70 (nA mJ)) (oe .i64) X.mQ) (q6 (nA Syntax.row) (ala 130 (nA mJ)) (oe .i64) X.nk))])
def wH(X:lG)(n:Nat):Vd (QZ X n) (nA mJ) (nh Syntax.lU) 62:=mB
open Go.Proofs
@[go_sem]def Bp:Ce:=⟨[],[],(zA::zT (ala 130 (nA mJ))::py (zA::zA::zT (nA Syntax.row)::zK::zK::py (py (zA::zA::[])))),[],none,none⟩
@[reducible] def BD(X:lG)(n:Nat):mg Int:=qj gY f129 n (pR gY [.tmp 4] (oe .i64)) (cl:=oN [(130,q6 (nA mJ) (nh Syntax.lU) (oe .i64) X.q8)]) (vc:=tK [([0,1,0,1],Bp)])
@[go_sem]abbrev Bq(v0:List lH)(v1:List Syntax)(v2 v3:Int):k9:=⟨(qA::.func (.func 130) [.mj false 1 (mp mS v0)] []::pM (qA::qA::.mj false 8 (mp Syntax.cells v1)::.int .i64 v2::.int .i64 v3::pM (pM (qA::qA::[])))),[],0,[]⟩
abbrev tj:=(List lH)->(List Syntax)->Int->Int->Option Int
abbrev Kf(X:lG)(n:Nat)(K:List Kt)(Z:tj):Prop:=∀v0 v1 v2 v3,run (BD X n) K (Bq v0 v1 v2 v3)=Z v0 v1 v2 v3
def rq(X:lG)(n:Nat):LB (Kf X n) [0,1,0,1] [.wF 0,.cut [1,1],.at [1,1]]:=mB
def rz(X:lG)(n:Nat):Nat->tj:=C4 ((rq X n).1)
def AB(X:lG){n:Nat}:rz X n (m+1)=(rq X n).1 (rz X n m):=rfl
@[go_sem]def HU(X:lG)(n:Nat)(m:Nat):=EV (rq X n) (rz X n) m
def tI(X:lG)(n:Nat):Vd (BD X n) (nA Syntax.row) (ala 130 (nA mJ)) 21:=mB
open Go.Proofs
def aKb(op:BinOp)(x y:AV):Option AV:=akr op x y
def aCc{x y:Operand}:akr op (J.ev x) (J.ev y)=aKb op (J.ev x) (J.ev y):=rfl
def aEH:aKb .neq (adG x) (.uS .nilFunc)=none:=by cases x<;>rfl
def aHI{x y:AV}:aKb op x y=akr op x y:=rfl
def aKc(P:Program)(op:BinOp)(t:TypeId)(x y:AV):Option yO:=adf P op t x y
def aCd{x y:Operand}:adf P op t (J.ev x) (J.ev y)=aKc P op t (J.ev x) (J.ev y):=rfl
def aEI:aKc P .neq t (adG x) (.uS .nilFunc)=if aAX P t then some {val:=.bool x.isSome} else none:=by cases x<;>rfl
def aHJ{x y:AV}:aKc P op t x y=adf P op t x y:=rfl
attribute [go_sem high] aEH aEI
attribute [go_sem low] aHI aHJ
def xL:Ce:=⟨[],[],(zT (nA mJ)::zA::zA::zK::zA::zK::Ip (oZ (oZ (oZ (py (py (py (zA::zA::[])))))))),[oT Syntax.lU,oT lC.lU],none,none⟩
def Ic:Ce:=⟨[],[],(zT (nA mJ)::zA::zA::zK::zA::zK::zK::zK::zK::Ip (oZ (oZ (oZ (py (py (zA::zA::zA::[]))))))),[oT Syntax.lU,oT lC.lU],none,none⟩
def Ie:Ce:=⟨[],[],(zT (nA mJ)::zA::zA::zK::zA::zK::zK::zK::Ip (oZ (oZ (oZ (py (py (py []))))))),[oT Syntax.lU,oT lC.lU],none,none⟩
@[reducible] def mq(X:lG)(n:Nat):mg Int:=qj gY f130 n (pR gY [.tmp 4] (oe .i64)) (cl:=oN [(10,uN (qi n)),(129,R7 (q6 (nA Syntax.row) (ala 70 (nA mJ)) (oe .i64) X.mQ) (q6 (nA Syntax.row) (ala 130 (nA mJ)) (oe .i64) X.nk)),(183,q6 (nA mJ) oa (ty2 (nh lC.lU) p8) (Cn n)),(184,rB (nh Syntax.lU) p8 (CS n))]) (cut:=tK [([1,1,1,1,1,1,1,1],xL),([1,1,1,1,1,1,1],xL),([1,1,1,1,1],xL),([1,1,1,1],Ic),([1,1,1],Ie)])
attribute [go_sem] xL Ic Ie
@[go_sem]abbrev rP(v0:List lH)(o0:Syntax)(o1:lC):k9:=⟨(.mj false 1 (mp mS v0)::qA::qA::.ptr 0 0::qA::.ptr 1 0::Io (pg (pg (pg (pM (pM (pM (qA::qA::[])))))))),[.cells (Syntax.cells o0),.cells (lC.cells o1)],0,[]⟩
def yw(X:lG)(n:Nat):{B:(List lH)->Syntax->lC->Option Int //∀(v0:List lH)(o0:Syntax)(o1:lC),run (mq X n) [.at [1,1,1,1,1,1,1,1]] (rP v0 o0 o1)=B v0 o0 o1}:=by
 apply iv;intro v0 o0 o1;simp (config:={maxSteps:=100000000}) only[go_sem,ia,ib,gZ,hJ,ic,ig,ij,il,iq,hU,ii,ir,f130,hO,mixed,↓akg,↓aeo,↓aCc,↓aCd];exact rfl
def JL(X:lG)(n:Nat)(J:k9):Option Int:=run (mq X n) [.at [1,1,1,1,1,1,1,1]] J
def uC(X:lG)(n:Nat):run (mq X n) [.cut [1,1,1,1,1,1,1,1],.at [1,1,1,1,1,1,1,1]] J=((mq X n).cut [1,1,1,1,1,1,1,1] J).bind (JL X n):=WJ
def ug(X:lG)(n:Nat):∀(v0:List lH)(o0:Syntax)(o1:lC),JL X n (rP v0 o0 o1)=(yw X n).1 v0 o0 o1:=(yw X n).2
def vB(X:lG)(n:Nat):{B:(List lH)->Syntax->lC->Option Int //∀(v0:List lH)(o0:Syntax)(o1:lC),run (mq X n) [.at [1,1,1,1,1,1,1]] (rP v0 o0 o1)=B v0 o0 o1}:=by
 apply iv;intro v0 o0 o1;simp (config:={maxSteps:=100000000}) only[go_sem,ia,ib,gZ,hJ,ic,ig,ij,il,iq,hU,ii,ir,f130,hO,mixed,↓akg,↓aeo,↓aCc,↓aCd,↓uC X n,ug X n];exact rfl
def JM(X:lG)(n:Nat)(J:k9):Option Int:=run (mq X n) [.at [1,1,1,1,1,1,1]] J
def xl(X:lG)(n:Nat):run (mq X n) [.cut [1,1,1,1,1,1,1],.at [1,1,1,1,1,1,1]] J=((mq X n).cut [1,1,1,1,1,1,1] J).bind (JM X n):=WJ
def wI(X:lG)(n:Nat):∀(v0:List lH)(o0:Syntax)(o1:lC),JM X n (rP v0 o0 o1)=(vB X n).1 v0 o0 o1:=(vB X n).2
def yx(X:lG)(n:Nat):{B:(List lH)->Syntax->lC->Option Int //∀(v0:List lH)(o0:Syntax)(o1:lC),run (mq X n) [.at [1,1,1,1,1]] (rP v0 o0 o1)=B v0 o0 o1}:=by
 apply iv;intro v0 o0 o1;simp (config:={maxSteps:=100000000}) only[go_sem,ia,ib,gZ,hJ,ic,ig,ij,il,iq,hU,ii,ir,f130,hO,mixed,↓akg,↓aeo,↓aCc,↓aCd,↓uC X n,ug X n,↓xl X n,wI X n];exact rfl
def JN(X:lG)(n:Nat)(J:k9):Option Int:=run (mq X n) [.at [1,1,1,1,1]] J
def By(X:lG)(n:Nat):run (mq X n) [.cut [1,1,1,1,1],.at [1,1,1,1,1]] J=((mq X n).cut [1,1,1,1,1] J).bind (JN X n):=WJ
def AY(X:lG)(n:Nat):∀(v0:List lH)(o0:Syntax)(o1:lC),JN X n (rP v0 o0 o1)=(yx X n).1 v0 o0 o1:=(yx X n).2
@[go_sem]abbrev Cc(v0:List lH)(v1 v2 v3:Bool)(o0:Syntax)(o1:lC):k9:=⟨(.mj false 1 (mp mS v0)::qA::qA::.ptr 0 0::qA::.ptr 1 0::.bool v1::.bool v2::.bool v3::Io (pg (pg (pg (pM (pM (qA::qA::qA::[]))))))),[.cells (Syntax.cells o0),.cells (lC.cells o1)],0,[]⟩
def yy(X:lG)(n:Nat):{B:(List lH)->Bool->Bool->Bool->Syntax->lC->Option Int //∀(v0:List lH)(v1 v2 v3:Bool)(o0:Syntax)(o1:lC),run (mq X n) [.at [1,1,1,1]] (Cc v0 v1 v2 v3 o0 o1)=B v0 v1 v2 v3 o0 o1}:=by
 apply iv;intro v0 v1 v2 v3 o0 o1;simp (config:={maxSteps:=100000000}) only[go_sem,ia,ib,gZ,hJ,ic,ig,ij,il,iq,hU,ii,ir,f130,hO,mixed,↓akg,↓aeo,↓aCc,↓aCd,↓uC X n,ug X n,↓xl X n,wI X n,↓By X n,AY X n];exact rfl
def JO(X:lG)(n:Nat)(J:k9):Option Int:=run (mq X n) [.at [1,1,1,1]] J
def HF(X:lG)(n:Nat):run (mq X n) [.cut [1,1,1,1],.at [1,1,1,1]] J=((mq X n).cut [1,1,1,1] J).bind (JO X n):=WJ
def F1(X:lG)(n:Nat):∀(v0:List lH)(v1 v2 v3:Bool)(o0:Syntax)(o1:lC),JO X n (Cc v0 v1 v2 v3 o0 o1)=(yy X n).1 v0 v1 v2 v3 o0 o1:=(yy X n).2
@[go_sem]abbrev Cd(v0:List lH)(v1 v2:Bool)(o0:Syntax)(o1:lC):k9:=⟨(.mj false 1 (mp mS v0)::qA::qA::.ptr 0 0::qA::.ptr 1 0::.bool v1::.bool v2::Io (pg (pg (pg (pM (pM (pM []))))))),[.cells (Syntax.cells o0),.cells (lC.cells o1)],0,[]⟩
def yz(X:lG)(n:Nat):{B:(List lH)->Bool->Bool->Syntax->lC->Option Int //∀(v0:List lH)(v1 v2:Bool)(o0:Syntax)(o1:lC),run (mq X n) [.at [1,1,1]] (Cd v0 v1 v2 o0 o1)=B v0 v1 v2 o0 o1}:=by
 apply iv;intro v0 v1 v2 o0 o1;simp (config:={maxSteps:=100000000}) only[go_sem,ia,ib,gZ,hJ,ic,ig,ij,il,iq,hU,ii,ir,f130,hO,mixed,↓akg,↓aeo,↓aCc,↓aCd,↓uC X n,ug X n,↓xl X n,wI X n,↓By X n,AY X n,↓HF X n,F1 X n];exact rfl
def JP(X:lG)(n:Nat)(J:k9):Option Int:=run (mq X n) [.at [1,1,1]] J
def Su(X:lG)(n:Nat):run (mq X n) [.cut [1,1,1],.at [1,1,1]] J=((mq X n).cut [1,1,1] J).bind (JP X n):=WJ
def Q0(X:lG)(n:Nat):∀(v0:List lH)(v1 v2:Bool)(o0:Syntax)(o1:lC),JP X n (Cd v0 v1 v2 o0 o1)=(yz X n).1 v0 v1 v2 o0 o1:=(yz X n).2
def zI(X:lG)(n:Nat):Vd (mq X n) (nA mJ) (nh Syntax.lU) 132:=by
 apply iv;intro a0 a1;simp (config:={maxSteps:=100000000}) only[go_sem,ia,ib,gZ,hJ,ic,ig,ij,il,iq,hU,ii,ir,f130,hO,mixed,↓akg,↓aeo,↓aCc,↓aCd,↓uC X n,ug X n,↓xl X n,wI X n,↓By X n,AY X n,↓HF X n,F1 X n,↓Su X n,Q0 X n];exact rfl
open Go.Proofs
@[go_sem]def zm:Ce:=⟨[],[],(zA::zT (ala 70 (nA mJ))::py (zA::zA::zT (nA Syntax.row)::zK::zK::py (py (zA::zA::[])))),[],none,none⟩
@[reducible] def zR(X:lG)(n:Nat):mg Int:=qj gY f129 n (pR gY [.tmp 4] (oe .i64)) (cl:=oN [(70,q6 (nA mJ) (nh Syntax.lU) (oe .i64) X.pG)]) (vc:=tK [([0,1,0,1],zm)])
@[go_sem]abbrev zn(v0:List lH)(v1:List Syntax)(v2 v3:Int):k9:=⟨(qA::.func (.func 70) [.mj false 1 (mp mS v0)] []::pM (qA::qA::.mj false 8 (mp Syntax.cells v1)::.int .i64 v2::.int .i64 v3::pM (pM (qA::qA::[])))),[],0,[]⟩
abbrev HG(X:lG)(n:Nat)(K:List Kt)(Z:tj):Prop:=∀v0 v1 v2 v3,run (zR X n) K (zn v0 v1 v2 v3)=Z v0 v1 v2 v3
def qB(X:lG)(n:Nat):LB (HG X n) [0,1,0,1] [.wF 0,.cut [1,1],.at [1,1]]:=mB
def qC(X:lG)(n:Nat):Nat->tj:=C4 ((qB X n).1)
def yf(X:lG){n:Nat}:qC X n (m+1)=(qB X n).1 (qC X n m):=rfl
@[go_sem]def FA(X:lG)(n:Nat)(m:Nat):=EV (qB X n) (qC X n) m
def sF(X:lG)(n:Nat):Vd (zR X n) (nA Syntax.row) (ala 70 (nA mJ)) 21:=mB
open Go.Proofs
def lJ:Nat->lG
 |0=>⟨Fu.z,Fu.z,Fu.z,Fu.z⟩
 |n+1=>⟨(wH (lJ n) n).1,(tI (lJ n) n).1,(zI (lJ n) n).1,(sF (lJ n) n).1⟩
def pG:(List lH)->Syntax->Option Int:=(lJ n).pG
def Q1{n:Nat}:pG (n+1)=(wH (lJ n) n).1:=rfl
def nk:(List Syntax)->(List lH)->Option Int:=(lJ n).nk
def KP{n:Nat}:nk (n+1)=(tI (lJ n) n).1:=rfl
def q8:(List lH)->Syntax->Option Int:=(lJ n).q8
def aO8{n:Nat}:q8 (n+1)=(zI (lJ n) n).1:=rfl
def mQ:(List Syntax)->(List lH)->Option Int:=(lJ n).mQ
def HV{n:Nat}:mQ (n+1)=(sF (lJ n) n).1:=rfl
def pF{n:Nat}:(lJ n).pG=pG n/\(lJ n).nk=nk n/\(lJ n).q8=q8 n/\(lJ n).mQ=mQ n:=⟨rfl,rfl,rfl,rfl⟩
def tG:∀n:Nat,AW gY 70 (nA mJ) (nh Syntax.lU) (oe .i64) (lJ n).pG/\AW gY 129 (nA Syntax.row) (ala 130 (nA mJ)) (oe .i64) (lJ n).nk/\AW gY 130 (nA mJ) (nh Syntax.lU) (oe .i64) (lJ n).q8/\AW gY 129 (nA Syntax.row) (ala 70 (nA mJ)) (oe .i64) (lJ n).mQ
 |0=>⟨fun _ _ _ h=>(by cases h),fun _ _ _ h=>(by cases h),fun _ _ _ h=>(by cases h),fun _ _ _ h=>(by cases h)⟩
 |n+1=>by
  obtain⟨QO,Br,VO,zr⟩:=tG n
  exact⟨CN (wH (lJ n) n) (gd (k8 (oX (alp n)) (k8 (ni (VM n)) (k8 (ni (wG n)) (k8 (oX (Se n)) (k8 (ni (Hy n)) (k8 (R8 (ni (zr)) (ni (Br))) li)))))) lj) func70 ntmps70 results70,
   CN (tI (lJ n) n) (gd (k8 (ni (VO)) li) lj) func129 ntmps129 results129,
   CN (zI (lJ n) n) (⟨(k8 (nJ (BS n)) (k8 (R8 (ni (zr)) (ni (Br))) (k8 (ni (XK n)) (k8 (oX (adT n)) li)))),lj,qW _,qW _,uh,ui,uG,uw⟩) func130 ntmps130 results130,
   CN (sF (lJ n) n) (gd (k8 (ni (QO)) li) lj) func129 ntmps129 results129⟩
def QP:AW gY 70 (nA mJ) (nh Syntax.lU) (oe .i64) (pG n):=(tG n).1
def age:AW gY 129 (nA Syntax.row) (ala 130 (nA mJ)) (oe .i64) (nk n):=(tG n).2.1
def aoB:AW gY 130 (nA mJ) (nh Syntax.lU) (oe .i64) (q8 n):=(tG n).2.2.1
def ac1:AW gY 129 (nA Syntax.row) (ala 70 (nA mJ)) (oe .i64) (mQ n):=(tG n).2.2.2
open Go.Proofs
def RM:Ce:=⟨[],[(3,5,8)],(zT (xM lA.lU)::zA::zK::zA::zK::zA::zK::zA::zA::zA::zK::zK::zA::zA::zK::Ip (Ip (oZ (oZ (py (py (py (zA::zA::[])))))))),[oT lO.lU,oK,oD,oC [zK,zK,zK,zK,zK,zK,zK,zK],oA ld.row,oA Syntax.row],none,none⟩
def RN:Ce:=⟨[],[(3,4,2)],(zT (xM lA.lU)::zA::zK::zA::zK::zA::zK::zA::zA::zA::zK::zK::zK::Ip (Ip (oZ (oZ (oZ []))))),[oT lO.lU,oK,oD,oC [zK,zK,zK,zK,zK,zK,zK,zK],oA ld.row],none,none⟩
@[reducible] def zt(X:lA->lO->Int->Option (Syntax×Int))(n:Nat):mg (Syntax×Int):=qj gY f57 n (pR gY [.cell 6 37,.tmp 7] (ty2 (nh Syntax.lU) (oe .i64))) (cl:=oN [(57,aio (xM lA.lU) (nh lO.lU) (oe .i64) (ty2 (nh Syntax.lU) (oe .i64)) X),(104,rB (nh lO.lU) (ty2 (nh lO.lU) (nA lO.row)) (ae4 n)),(105,rB (oe .i64) (oe .i64) (ai5 n)),(106,aio (xM lA.lU) (oe .i64) (oe .i64) (ty2 oa (oe .i64)) (Ql n)),(108,q6 (xM lA.lU) (oe .i64) oa (ME n)),(109,q6 (nh lO.lU) (oe .i64) p8 (anx n)),(110,q6 (xM lA.lU) (nh nD.lU) (ty2 (nh ld.lU) (oe .i64)) (Ws n))]) (cd:=KO [(107,tV (q6 (xM lA.lU) oa (oe .i64) (Qs n)))]) (vc:=tK [([0,1,0,1,1,1,1,1,1],RM),([0,1,0,1,1,1,1,1],RN)]) (AI:=oR []) (AK:=oR [])
def ahM(X:lA->lO->Int->Option (Syntax×Int))(n:Nat):yB (zt X n) [0,1,1,1,0,1,0,1,1,1,1]=true:=kX
def ahN(X:lA->lO->Int->Option (Syntax×Int))(n:Nat):DE (zt X n) [0,1,1,1,0,1,0,1,1,1,1] 1 7 4 7 1 9 4 9/\R3 (zt X n) [0,1,1,1,0,1,0,1,1,1,1] 7 9=true:=⟨⟨kX,kX,kX,kX⟩,kX⟩
attribute [go_sem] ahM ahN RM RN
abbrev RO(v0:lA)(v1 v2 v3:Int)(o0:lO)(v5:Int)(v6:lH)(v7:Int)(r4:List ld)(r5:List Syntax)(c4:Nat)(c5:Nat):k9:=⟨(.pp (lA.cells v0)::qA::.int .i64 v1::qA::.ptr 0 0::qA::.ptr 1 0::qA::qA::qA::.ptr 3 0::.int .i64 v2::qA::qA::.int .i64 v3::Io (Io (pg (pg (pM (pM (pM (qA::qA::[])))))))),[.cells (lO.cells o0),.cells [.int .i64 0,.str (sb []),.int .i64 0,.mj true 0 [],.mj true 0 [],.mj true 0 [],.int .i64 0,.int .i64 0],.zU,.cells [.int .i64 v5,.str (sb v6),.int .i64 v7,.mj true 0 [],.nW 4 c4,.nW 5 c5,.int .i64 0,.int .i64 0],.nW true 2 (mp ld.cells r4),.nW true 8 (mp Syntax.cells r5)],0,[]⟩
abbrev RP:List Kt:=[.wF 3,.cut [1,1,1,1,1,1,1],.at [1,1,1,1,1,1,1]]
abbrev RQ:=lA->Int->Int->Int->lO->Int->lH->Int->Tj->(List Syntax)->Option (Syntax×Int)
abbrev agf(X:lA->lO->Int->Option (Syntax×Int))(n:Nat)(K:List Kt)(Z:RQ):Prop:=∀v0 v1 v2 v3 o0 v5 v6 v7 r4 r5 c4 c5,c4=r4.length->c5=r5.length->run (zt X n) K (RO v0 v1 v2 v3 o0 v5 v6 v7 r4 r5 c4 c5)=Z v0 v1 v2 v3 o0 v5 v6 v7 r4 r5
abbrev RR(v0:lA)(v1 v2 v3:Int)(o0:lO)(v5:Int)(v6:lH)(v7:Int)(r4:List ld)(c4:Nat):k9:=⟨(.pp (lA.cells v0)::qA::.int .i64 v1::qA::.ptr 0 0::qA::.ptr 1 0::qA::qA::qA::.ptr 3 0::.int .i64 v2::.int .i64 v3::Io (Io (pg (pg (pg []))))),[.cells (lO.cells o0),.cells [.int .i64 0,.str (sb []),.int .i64 0,.mj true 0 [],.mj true 0 [],.mj true 0 [],.int .i64 0,.int .i64 0],.zU,.cells [.int .i64 v5,.str (sb v6),.int .i64 v7,.mj true 0 [],.nW 4 c4,.mj true 0 [],.int .i64 0,.int .i64 0],.nW true 2 (mp ld.cells r4)],0,[]⟩
abbrev RS:=lA->Int->Int->Int->lO->Int->lH->Int->Tj->Option (Syntax×Int)
abbrev agh(X:lA->lO->Int->Option (Syntax×Int))(n:Nat)(K:List Kt)(Z:RS):Prop:=∀v0 v1 v2 v3 o0 v5 v6 v7 r4 c4,c4=r4.length->run (zt X n) K (RR v0 v1 v2 v3 o0 v5 v6 v7 r4 c4)=Z v0 v1 v2 v3 o0 v5 v6 v7 r4
attribute [go_sem] RO RP RR
def Kg(X:lA->lO->Int->Option (Syntax×Int))(n:Nat):LB (agf X n) [0,1,0,1,1,1,1,1,1] RP:=mB
def Kh(X:lA->lO->Int->Option (Syntax×Int))(n:Nat):Nat->RQ:=C4 ((Kg X n).1)
def asB(X:lA->lO->Int->Option (Syntax×Int)){n:Nat}:Kh X n (m+1)=(Kg X n).1 (Kh X n m):=rfl
@[go_sem]def abg(X:lA->lO->Int->Option (Syntax×Int))(n:Nat)(m:Nat):=EV (Kg X n) (Kh X n) m
def Ki(X:lA->lO->Int->Option (Syntax×Int))(n:Nat):LB (agh X n) [0,1,0,1,1,1,1,1] [.wF 1,.cut [1,1,1,1,1,1],.at [1,1,1,1,1,1]]:=mB
def Kj(X:lA->lO->Int->Option (Syntax×Int))(n:Nat):Nat->RS:=C4 ((Ki X n).1)
def asC(X:lA->lO->Int->Option (Syntax×Int)){n:Nat}:Kj X n (m+1)=(Ki X n).1 (Kj X n m):=rfl
@[go_sem]def abh(X:lA->lO->Int->Option (Syntax×Int))(n:Nat)(m:Nat):=EV (Ki X n) (Kj X n) m
def aOH(X:lA->lO->Int->Option (Syntax×Int))(n:Nat):SC3 (zt X n) (xM lA.lU) (nh lO.lU) (oe .i64) 189:=mB
def Jf:Nat->lA->lO->Int->Option (Syntax×Int)
 |0,_,_,_=>none
 |n+1,a0,a1,a2=>(aOH (Jf n) n).1 a0 a1 a2
def RT:∀n:Nat,awJ gY 57 (xM lA.lU) (nh lO.lU) (oe .i64) (ty2 (nh Syntax.lU) (oe .i64)) (Jf n)
 |0=>fun _ _ _ _ h=>(by cases h)
 |n+1=>by
  have agi:=RT n;exact aEz (aOH (Jf n) n) (gd (k8 (akV (agi)) (k8 (oX (aj2 n)) (k8 (oX (amA n)) (k8 (akV (YX n)) (k8 (ni (P4 n)) (k8 (ni (aqd n)) (k8 (ni (aem n)) li))))))) (ot (vg (aOS n)) lj)) func57 ntmps57 results57
open Go.Proofs
@[reducible] def ahO:mg (Syntax×Int):=qj gY f17 n (pR gY [.cell 8 37,.tmp 9] (ty2 (nh Syntax.lU) (oe .i64))) (cl:=oN [(57,aio (xM lA.lU) (nh lO.lU) (oe .i64) (ty2 (nh Syntax.lU) (oe .i64)) (Jf n))]) (cd:=KO [(55,tV (rB (nA k7.row) (nA mJ) (Bu n))),(56,tV (rB (nh lO.lU) (nA mJ) (anz n)))]) (cut:=aPo [([1,1],[3])]) (AI:=oR []) (AK:=oR [])
@[go_sem]def aqj:yB (ahO n) [0,1]=true:=kX
def ahP:SC4 (ahO n) (nh mm.lU) (nA mJ) (nA mJ) (nh lO.lU) 26:=mB
def alG:=fu fun n=>(ahP n).1
def aoC:∀n:Nat,aEy gY 17 (nh mm.lU) (nA mJ) (nA mJ) (nh lO.lU) (ty2 (nh Syntax.lU) (oe .i64)) (alG n):=aMd fun n=>aMc (ahP n) (gd (k8 (akV (RT n)) li) (ot (p4 (My n)) (ot (p4 (aqe n)) lj))) func17 ntmps17 results17
@[reducible] def ajw:mg TX:=qj gY f13 n (aHg (Xm [(41,Q7 [.arg 0 [],.arg 1 [],.arg 2 []] lS (nC 0 (nC 1 (nC 2 lX))) lS lX (fun(b:Tk)(a:Unit)=>(G6 n) b.1.1 b.2.1.1 b.2.2.1.1))]) (Xm [(41,Q7 [.arg 0 [],.arg 1 [],.arg 2 []] lS AE lS lX (fun(b:Tk)(a:T9)=>(DG n) a.1 b.1.1 b.2.1.1 b.2.2.1.1))]) gY [.cell 4 37,.cell 5 3,.cell 6 28] (ty3 (nh Syntax.lU) (oe .i64) (oe .i64))) (ua:=aAn (Xm [(41,Q7 [.arg 0 [],.arg 1 [],.arg 2 []] lS (nC 0 (nC 1 (nC 2 lX))) lS lX (fun(b:Tk)(a:Unit)=>(G6 n) b.1.1 b.2.1.1 b.2.2.1.1))]) (Xm [(41,Q7 [.arg 0 [],.arg 1 [],.arg 2 []] lS AE lS lX (fun(b:Tk)(a:T9)=>(DG n) a.1 b.1.1 b.2.1.1 b.2.2.1.1))]) gY [.cell 4 37,.cell 5 3,.cell 6 28] (ty3 (nh Syntax.lU) (oe .i64) (oe .i64))) (cp:=DR [(43,Yh (Sq n)),(44,pP (mz n)),(45,Qe (Ff n))]) (zV:=oR [43,44,45])
def abi:{B:lH->(List k7)->Option TX //∀(a0:lH)(a1:(List k7)),run (ajw n) [.at []] (ini [oa.enc a0,(nA k7.row).enc a1] 23)=B a0 a1}:=JT
def ZZ:=fu fun n=>(abi n).1
def aqk:∀(n:Nat)(a0:lH)(a1:(List k7))(r:TX),ZZ n a0 a1=some r->N6 gY 13 [oa.enc a0,(nA k7.row).enc a1] (fun v=>v=(ty3 (nh Syntax.lU) (oe .i64) (oe .i64)).enc r)
 |0,_,_,_,h=>by cases h
 |n+1,a0,a1,r,h=>by
  exact awt (M:=ajw n) (t:=(ty3 (nh Syntax.lU) (oe .i64) (oe .i64))) (cr:=(Xm [(41,Q7 [.arg 0 [],.arg 1 [],.arg 2 []] lS (nC 0 (nC 1 (nC 2 lX))) lS lX (fun(b:Tk)(a:Unit)=>(G6 n) b.1.1 b.2.1.1 b.2.2.1.1))])) (cp:=(Xm [(41,Q7 [.arg 0 [],.arg 1 [],.arg 2 []] lS AE lS lX (fun(b:Tk)(a:T9)=>(DG n) a.1 b.1.1 b.2.1.1 b.2.2.1.1))])) ⟨li,lj,qW _,rX _,uh,ui,(lQ (mo (aiL n)) (lQ (mo (agd n)) (lQ (mo (acs n)) nE))),uw⟩ (Pq (abE amk (fun _ _ _ _=>rfl) (kX) (fun b a r h=>(aiw n) b.1.1 b.2.1.1 b.2.2.1.1 r h)) Ua) (Pq (abE aml (fun _ _ _ _=>rfl) (kX) (fun b a r h=>(aiB n) a.1 b.1.1 b.2.1.1 b.2.2.1.1 r h)) Ua) func13 rfl rfl ⟨oa.nb 0 _,(nA k7.row).nb 0 _,trivial⟩ ntmps13 results13 rfl rfl (((abi n).2 a0 a1).trans h)
open Go.Proofs
@[reducible] def afr:mg (lH×Int):=qj gY f27 n (pR gY [.tmp 4,.tmp 5] (ty2 oa (oe .i64))) (cl:=oN [(13,q6 oa (nA k7.row) (ty3 (nh Syntax.lU) (oe .i64) (oe .i64)) (ZZ n)),(69,rB (nA k7.row) p8 (NF n)),(71,pm (nH n)),(72,MU (Ir n))]) (cd:=KO [(55,tV (rB (nA k7.row) (nA mJ) (Bu n))),(70,tV (q6 (nA mJ) (nh Syntax.lU) (oe .i64) (pG n)))]) (AI:=oR []) (AK:=oR [])
@[go_sem]def aoD:yB (afr n) [0,0,1,1]=true:=kX
def VP:Vd (afr n) (nA k7.row) (nh Syntax.lU) 47:=by
 apply iv;intro a0 a1;simp (config:={maxSteps:=100000000}) only[go_sem,ia,ib,gZ,hJ,ic,ig,ij,il,iq,hU,ii,ir,f27,hO,mixed,Value.oneCell',Bool.and_self,eq_self,kW];exact rfl
def JV:=fu fun n=>(VP n).1
def Sv:∀n:Nat,AW gY 27 (nA k7.row) (nh Syntax.lU) (ty2 oa (oe .i64)) (JV n):=EW fun n=>CN (VP n) (gd (k8 (ni (aqk n)) (k8 (oX (aki n)) (k8 (nJ (aet n)) (k8 (nJ (fun b a r h=>(YC n) b.1.1 b.1.2.1 b.2.1 r h)) li)))) (ot (p4 (My n)) (ot (vg (QP n)) lj))) func27 ntmps27 results27
open Go.Proofs
@[reducible] def SM:mg Bool:=qj gY f16 n (pR gY [.tmp 0] p8) (cl:=oN [(17,ayO (nh mm.lU) (nA mJ) (nA mJ) (nh lO.lU) (ty2 (nh Syntax.lU) (oe .i64)) (alG n)),(27,q6 (nA k7.row) (nh Syntax.lU) (ty2 oa (oe .i64)) (JV n))]) (cd:=KO [(27,tV (q6 (nA k7.row) (nh Syntax.lU) (ty2 oa (oe .i64)) (JV n))),(51,tV (rB (oe .i64) (nh lO.lU) (ai7 n))),(52,tV (rB oa (nh Syntax.lU) (aaD n))),(53,tV (q6 (nh Syntax.lU) (nh Syntax.lU) (nh Syntax.lU) (aaE n))),(54,tV (ayO (nh Syntax.lU) (nh Syntax.lU) (xM (cF 53)) (xM (cF 52)) (nh Syntax.lU) (ajd n)))]) (cut:=aPo [([1,1,1,1,1,1,1,1,1,1],[4,3])]) (AI:=oR []) (AK:=oR [])
@[go_sem]def arD:aEx (SM n) [0,1,1,1] [0,1,1,1,1,1,1,1,1,1,1] [0,1,1,1,1,1,1,1,1,1,1,1] [0,1,1,1,1,1,1,1,1,1,1,1,1]:=⟨kX,kX,kX,kX⟩
@[go_sem]def arE:atS (SM n) [0,1,1,1] 0 10 9 10/\DE (SM n) [0,1,1,1,1,1,1,1,1,1,1,1,1] 0 11 2 11 6 11 10 11:=⟨⟨kX,kX⟩,kX,kX,kX,kX⟩
def ajx:SC0 (SM n) 125:=mB
def aOI:=fu fun n=>(ajx n).1
def aql:∀n:Nat,aB3 gY 16 p8 (aOI n):=aJ3 fun n=>aJ2 (ajx n) (gd (k8 (aGw (aoC n)) (k8 (ni (Sv n)) li)) (ot (vg (Sv n)) (ot (p4 (amG n)) (ot (p4 (abQ n)) (ot (vg (abR n)) (ot (aDA (amL n)) lj)))))) func16 ntmps16 results16
open Go.Proofs
@[reducible] def aeK:mg Bool:=qj gY f6 n (pR gY [.tmp 6] p8) (cl:=oN [(16,avQ p8 (aOI n)),(25,rB (nA k7.row) p8 (ZT n)),(26,q6 (nh Syntax.lU) (oe .i64) p8 (ahj n)),(27,q6 (nA k7.row) (nh Syntax.lU) (ty2 oa (oe .i64)) (JV n)),(28,q6 (nh Syntax.lU) (oe .i64) (nh Syntax.lU) (La n))])
def Jg:SC3 (aeK n) (nA k7.row) (nh Syntax.lU) (oe .u8) 46:=mB
def FB:=fu fun n=>(Jg n).1
def asD:∀n:Nat,awJ gY 6 (nA k7.row) (nh Syntax.lU) (oe .u8) p8 (FB n):=aHs fun n=>aEz (Jg n) (gd (k8 (akU (aql n)) (k8 (oX (aqg n)) (k8 (ni (aqf n)) (k8 (ni (Sv n)) (k8 (ni (ajb n)) li))))) lj) func6 ntmps6 results6
end Go.Abs
end
