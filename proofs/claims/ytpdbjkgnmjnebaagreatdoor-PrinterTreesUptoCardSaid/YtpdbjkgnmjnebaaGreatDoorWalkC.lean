/- A part of the proof: what the functions compute. -/
import Derived.Test.YtpdbjkgnmjnebaaGreatDoorDataA
import Derived.Test.YtpdbjkgnmjnebaaGreatDoorWalkA
import Derived.Test.YtpdbjkgnmjnebaaGreatDoorWalkB
import Derived.Test.YtpdbjkgnmjnebaaGreatDoorExtA
set_option linter.all false
open Go.Proofs.Tryz renaming prog→gv
open Nat renaming reduceLeDiff→gw,reduceEqDiff→gx,reduceAdd→gz,reduceSub→gA,reduceBEq→gB,reduceMul→gC,reduceLT→gF
open Int renaming reduceToNat→gy,reduceBEq→gD,reduceLE→gG,reduceLT→gH,reduceEq→gI
open Option renaming getD_some→gE
open Go.Abs.AV renaming any→qA
noncomputable section
open Go.Proofs.Tryz
namespace Go.Abs
variable {m:Nat}
variable (n:Nat)
open Go.Proofs
attribute [go_sem] f148 f91 f155 f152 f209 f114 f176 f175 f179 f23 f48 f214 f287 f50 f307 f49 f182 f109 f292 f56 f268 f235 f204 f203 f82 f93 f154 f153 f174 f113 f115 f67 f158 f255 f289 f126 f262 f139 f151 f149 f327 f340 f326 f45 f112 f116 f74 f290 f168 f221 f76 f147 f335 f330 f339 f58 f30 f258 f106 f110 f169 f222
set_option maxRecDepth 100000
set_option maxHeartbeats 4000000
@[go_sem]abbrev p8(F:Int->jQ->Option TA)(b:T6)(a:(Int×Unit)):=F a.1 b.1.1
@[go_sem]def mi(F:Int->jQ->Option TA):=xE true [.arg 0 []] jP (l5 0 (l1 (li .i64) kM)) jP kM jP j3 (p8 F)
@[reducible] def afJ:kL TA:=mU gv f148 n (qM gv [] [] [0] 1 jP kM) (cl:=lY [(84,D5 (oV (nh (uO jQ.kr) (li .i64) (vG n))))]) (q6:=qN [] [0] 1 jP j3)
def Ob:SX (afJ n) (l5 0 (l1 (li .i64) kM)) jP 9 p8:=mC2
def vP:=fu fun n=>(Ob n).1
def vQ:∀n:Nat,tG gv 148 (l5 0 (l1 (li .i64) kM)) jP true jP kM jP j3 (p8 (vP n)):=ae9 fun n=>Et (Ob n) (gd (jR (qp (nk (uP n))) jU) jV) func148 ntmps148 results148
@[reducible] def afK:kL Bool:=mU gv f91 n (lR gv [.tmp 4] mh) (cl:=lY [(85,Qw (uO jQ.kr) (li .i64) lW mh (An n))])
def Oc:IO (afK n) (uO jQ.kr) lW 8:=mB
def qe:=fu fun n=>(Oc n).1
def pP:∀n:Nat,th gv 91 (uO jQ.kr) lW mh (qe n):=vM fun n=>ug (Oc n) (gd (jR (IS (zr n)) jU) jV) func91 ntmps91 results91
@[go_sem]def ag9:sN:=⟨[(5,9,true)],[],(zA::zA::zA::zK::zA::zK::zA::zA::zT (lz kW)::zK::zK::l8 (l8 (l8 []))),[oT Syntax.kr,oA ke.row],none,none⟩
@[reducible] def akg:kL TG:=mU gv f155 n (lR gv [.tmp 4] (lz ke.row)) (cl:=lY [(208,nh (kT Syntax.kr) (kT Syntax.kr) (Rd n))]) (p4:=nR [([0,1,0,1,1],ag9)])
@[go_sem]abbrev aha(v0:List kp)(v1 v2:Int)(o0:Syntax)(r1:List ke)(c1:Nat):jT:=⟨(qA::qA::qA::.ptr 0 0::qA::.lV 1 c1::qA::qA::.kJ false 1 (mp kS v0)::.int .i64 v1::.int .i64 v2::mc (mc (mc []))),[.cells (Syntax.cells o0),.lV true 9 (mp ke.cells r1)],0,[]⟩
abbrev ahb:=(List kp)->Int->Int->Syntax->TG->Option TG
abbrev atV(K:List Kt)(Z:ahb):Prop:=∀v0 v1 v2 o0 r1 c1,c1=r1.length->run (akg n) K (aha v0 v1 v2 o0 r1 c1)=Z v0 v1 v2 o0 r1
def UC:LB (atV n) [0,1,0,1,1] [.pF 0,.cut [1,1,1],.at [1,1,1]]:=mB
def UD:Nat->ahb:=sR ((UC n).1)
def aHf{n:Nat}:UD n (m+1)=(UC n).1 (UD n m):=rfl
@[go_sem]def aot(m:Nat):=ud (UC n) (UD n) m
def akh:IO (akg n) (lz kW) (kT Syntax.kr) 23:=mB
def afL:=fu fun n=>(akh n).1
def ahc:∀n:Nat,th gv 155 (lz kW) (kT Syntax.kr) (lz ke.row) (afL n):=vM fun n=>ug (akh n) (gd (jR (lA (adh n)) jU) jV) func155 ntmps155 results155
@[reducible] def anj:kL Syntax:=mU gv f152 n (lR gv [.cell 6 37] (kT Syntax.kr)) (cl:=lY [(206,nh (lz ke.row) (anV 246 (uO (cL ke.row))) (PE n)),(246,Js (L6 n))]) (js:=aIc [([0,1,0,1],[])])
@[go_sem]def atW:lkM (anj n) [0,1,0,1]=qc:=rfl
attribute [go_sem] EC
def ank:SC3 (anj n) (kT Syntax.kr) (lz ke.row) (kT Syntax.kr) 29:=mB
def Z4:=fu fun n=>(ank n).1
def XY:∀n:Nat,apD gv 152 (kT Syntax.kr) (lz ke.row) (kT Syntax.kr) (kT Syntax.kr) (Z4 n):=aF4 fun n=>avJ (ank n) (gd (jR (lA (aa7 n)) (jR (mY (Xw n)) jU)) jV) func152 ntmps152 results152
@[reducible] def KJ:kL Bool:=mU gv f209 n (lR gv [.tmp 2] mh) (cl:=lY [(94,nh (uO jQ.kr) (kT lD.kr) (ny n))]) (cd:=yA [(79,oV (nr (lz kW) lW mh (oH n)))]) (tI:=lS []) (tX:=lS [])
@[go_sem]def abw:qY (KJ n) [0,1,1]=true:=jO
def KK:IT (KJ n) (uO jQ.kr) 25:=mB
def ES:=fu fun n=>(KK n).1
def Jv:∀n:Nat,tL gv 209 (uO jQ.kr) mh (ES n):=vD fun n=>uy (KK n) (gd (jR (lA (mP n)) jU) (k7 (oQ (pU n)) jV)) func209 ntmps209 results209
@[go_sem]def Sq:sN:=⟨[],[],(zA::zA::zK::zA::zA::zK::lH (l8 (l8 []))),[oT j9.kr],none,none⟩
@[reducible] def Vz:kL kp:=mU gv f114 n (lR gv [.tmp 4] lW) (cl:=lY [(120,nr (lz kW) lW mh (Kv n)),(177,nh (li .i64) lW (FT n)),(178,nh (lz jS.row) (lz kW) (KE n))]) (p4:=nR [([0,0,1,1],Sq)])
@[go_sem]abbrev Ss(v0:kp)(o0:j9):jT:=⟨(qA::qA::.ptr 0 0::qA::qA::.str (sb v0)::lM (mc (mc []))),[.cells (j9.cells o0)],0,[]⟩
abbrev St:=kp->j9->Option kp
abbrev aki(K:List Kt)(Z:St):Prop:=∀v0 o0,run (Vz n) K (Ss v0 o0)=Z v0 o0
def yq:LB (aki n) [0,0,1,1] [.pF 0,.cut [1,1,1],.at [1,1,1]]:=mB
def tT:Nat->St:=sR ((yq n).1)
def Od{n:Nat}:tT n (m+1)=(yq n).1 (tT n m):=rfl
@[go_sem]def adH(m:Nat):=ud (yq n) (tT n) m
def JQ:IO (Vz n) (kT j9.kr) (li .i64) 30:=mB
def BJ:=fu fun n=>(JQ n).1
def Su:∀n:Nat,th gv 114 (kT j9.kr) (li .i64) lW (BJ n):=vM fun n=>ug (JQ n) (gd (jR (lj (L4 n)) (jR (lA (acX n)) (jR (lA (adr n)) jU))) jV) func114 ntmps114 results114
open Go.Proofs
@[reducible] def aql:kL Bool:=mU gv f176 n (lR gv [.tmp 4] mh) (cl:=lY [(120,nr (lz kW) lW mh (Kv n)),(162,nh lW mh (EI n)),(178,nh (lz jS.row) (lz kW) (KE n)),(228,nh lW mh (Rb n))])
def Oe:IO (aql n) (lz jS.row) lW 23:=mB
def Ft:=fu fun n=>(Oe n).1
def XZ:∀n:Nat,th gv 176 (lz jS.row) lW mh (Ft n):=vM fun n=>ug (Oe n) (gd (jR (lj (L4 n)) (jR (lA (Rc n)) (jR (lA (adr n)) (jR (lA (arN n)) jU)))) jV) func176 ntmps176 results176
@[go_sem]def adI:sN:=⟨[],[],(zA::zK::zK::l8 (zA::zK::zK::lH (lH (lH (l8 (zA::zA::[])))))),[oT kI.kr],none,none⟩
@[go_sem]def adJ:sN:=⟨[],[],(zA::zK::zK::zA::zA::zA::zK::lH (lH (lH (l8 (l8 (zA::[])))))),[oT kI.kr],none,none⟩
@[reducible] def UE:kL (kp×Int):=mU gv f175 n (lR gv [.tmp 4,.tmp 5] (LQ lW (li .i64))) (cl:=lY [(162,nh lW mh (EI n)),(226,Qw (lz kW) (li .i64) lW lW (afs n)),(227,nr (kT kI.kr) lW mh (NS n))]) (p4:=nR [([0,1,0,1,1,1,1],adI),([0,1,0,1,1],adJ)])
@[go_sem]abbrev adK(v0 v1:kp)(v2:Int)(o0:kI):jT:=⟨(qA::.str (sb v0)::.ptr 0 0::mc (qA::.str (sb v1)::.int .i64 v2::lM (lM (lM (mc (qA::qA::[])))))),[.cells (kI.cells o0)],0,[]⟩
abbrev adL:=kp->kp->Int->kI->Option (kp×Int)
abbrev arZ(K:List Kt)(Z:adL):Prop:=∀v0 v1 v2 o0,run (UE n) K (adK v0 v1 v2 o0)=Z v0 v1 v2 o0
@[go_sem]abbrev adM(v0:kp)(v1:Int)(o0:kI):jT:=⟨(qA::.str (sb v0)::.ptr 0 0::qA::qA::qA::.int .i64 v1::lM (lM (lM (mc (mc (qA::[])))))),[.cells (kI.cells o0)],0,[]⟩
abbrev adN:=kp->Int->kI->Option (kp×Int)
abbrev ar0(K:List Kt)(Z:adN):Prop:=∀v0 v1 o0,run (UE n) K (adM v0 v1 o0)=Z v0 v1 o0
def Dx:LB (arZ n) [0,1,0,1,1,1,1] [.pF 2,.cut [1,1,1,1,1],.at [1,1,1,1,1]]:=mB
def Ao:Nat->adL:=sR ((Dx n).1)
def X1{n:Nat}:Ao n (m+1)=(Dx n).1 (Ao n m):=rfl
@[go_sem]def aml(m:Nat):=ud (Dx n) (Ao n) m
def Dy:LB (ar0 n) [0,1,0,1,1] [.pF 0,.cut [1,1,1],.at [1,1,1]]:=mB
def Jc:Nat->adN:=sR ((Dy n).1)
def X4{n:Nat}:Jc n (m+1)=(Dy n).1 (Jc n m):=rfl
@[go_sem]def amm(m:Nat):=ud (Dy n) (Jc n) m
def UF:IO (UE n) (kT kI.kr) lW 64:=mB
def Rg:=fu fun n=>(UF n).1
def ar1:∀n:Nat,th gv 175 (kT kI.kr) lW (LQ lW (li .i64)) (Rg n):=vM fun n=>ug (UF n) (gd (jR (lA (Rc n)) (jR (IS (axJ n)) (jR (lj (aqd n)) jU))) jV) func175 ntmps175 results175
@[reducible] def aAH:kL (List Int):=mU gv f179 n (lR gv [.tmp 2] (lz Rt)) (cl:=lY [(230,Qw (lz Rt) (kT jX.kr) (li .i64) (lz Rt) (yW n))])
def afM:IT (aAH n) (kT jX.kr) 5:=mB
def aou:=fu fun n=>(afM n).1
def axZ:∀n:Nat,tL gv 179 (kT jX.kr) (lz Rt) (aou n):=vD fun n=>uy (afM n) (gd (jR (IS (anf n)) jU) jV) func179 ntmps179 results179
@[reducible] def awo:kL (List kp):=mU gv f23 n (lR gv [.tmp 2] (lz kW)) (cl:=lY [(63,apr 0 true 1 (zh [0] (tY (Uh true kW) rW) (asA 0 (fun(b:Tf)=>b.1.length) (asT (kT jX.kr) Ho)) (tY (Uh true kW) rW) (rsA 0 (fun(b:Tf)=>b.1.length) Fj) (fun(b:Tf) a=>(yc n) b.1 a.1)))])
def X5:IT (awo n) (kT jX.kr) 5:=mB
def Wn:=fu fun n=>(X5 n).1
def atX:∀n:Nat,tL gv 23 (kT jX.kr) (lz kW) (Wn n):=vD fun n=>uy (X5 n) (gd (jR (acu (oZ (fun b a r h=>(ag4 n) b.1 a.1 r h))) jU) jV) func23 ntmps23 results23
open Go.Proofs
@[reducible] def atY:kL Bool:=mU gv f48 n (lR gv [.tmp 4] mh) (cl:=lY [(10,nr (lz kW) (tyF 96) mh (sr n))])
def UG:IO (atY n) (lz kW) (li .i64) 14:=mB
def FU:=fu fun n=>(UG n).1
def QU:∀n:Nat,th gv 48 (lz kW) (li .i64) mh (FU n):=vM fun n=>ug (UG n) (gd (jR (lj (Cq n)) jU) jV) func48 ntmps48 results48
def adO:sN:=⟨[],[],(zA::zK::zA::zA::zA::zK::ux (lH (lH (lH (l8 (zA::zA::[])))))),[oT ky.kr],none,none⟩
def adP:sN:=⟨[],[],(zA::zK::zA::zA::zK::ux (lH (lH (lH (l8 (zA::zA::zA::[])))))),[oT ky.kr],none,none⟩
def adQ:sN:=⟨[],[],(zA::zK::zA::zK::ux (lH (lH (lH (l8 (l8 [])))))),[oT ky.kr],none,none⟩
@[reducible] def Lh:kL Bool:=mU gv f214 n (lR gv [.tmp 2] mh) (cl:=lY [(253,nh (kT jX.kr) mh (RR n)),(254,nr (kT lh.kr) (li .i64) mh (xn n))]) (p4:=nR [([0,1,0,1,1,1,1],adO),([0,1,0,1,1,1],adP),([0,1,0,1,1],adQ)])
attribute [go_sem] adO adP adQ
abbrev adR(v0:Int)(o0:ky):jT:=⟨(qA::.ptr 0 0::qA::qA::qA::.int .i64 v0::uw (lM (lM (lM (mc (qA::qA::[])))))),[.cells (ky.cells o0)],0,[]⟩
abbrev Ap:=Int->ky->Option Bool
abbrev ar2(K:List Kt)(Z:Ap):Prop:=∀v0 o0,run (Lh n) K (adR v0 o0)=Z v0 o0
abbrev adS(v0:Int)(o0:ky):jT:=⟨(qA::.ptr 0 0::qA::qA::.int .i64 v0::uw (lM (lM (lM (mc (qA::qA::qA::[])))))),[.cells (ky.cells o0)],0,[]⟩
abbrev ar3(K:List Kt)(Z:Ap):Prop:=∀v0 o0,run (Lh n) K (adS v0 o0)=Z v0 o0
abbrev adT(v0:Int)(o0:ky):jT:=⟨(qA::.ptr 0 0::qA::.int .i64 v0::uw (lM (lM (lM (mc (mc [])))))),[.cells (ky.cells o0)],0,[]⟩
abbrev ar4(K:List Kt)(Z:Ap):Prop:=∀v0 o0,run (Lh n) K (adT v0 o0)=Z v0 o0
attribute [go_sem] adR adS adT
def Dz:LB (ar2 n) [0,1,0,1,1,1,1] [.pF 4,.cut [1,1,1,1,1],.at [1,1,1,1,1]]:=mB
def Aq:Nat->Ap:=sR ((Dz n).1)
def X6{n:Nat}:Aq n (m+1)=(Dz n).1 (Aq n m):=rfl
@[go_sem]def amn(m:Nat):=ud (Dz n) (Aq n) m
def DA:LB (ar3 n) [0,1,0,1,1,1] [.pF 2,.cut [1,1,1,1],.at [1,1,1,1]]:=mB
def Ar:Nat->Ap:=sR ((DA n).1)
def X7{n:Nat}:Ar n (m+1)=(DA n).1 (Ar n m):=rfl
@[go_sem]def amo(m:Nat):=ud (DA n) (Ar n) m
def DB:LB (ar4 n) [0,1,0,1,1] [.pF 0,.cut [1,1,1],.at [1,1,1]]:=mB
def As:Nat->Ap:=sR ((DB n).1)
def X8{n:Nat}:As n (m+1)=(DB n).1 (As n m):=rfl
@[go_sem]def amq(m:Nat):=ud (DB n) (As n) m
def UH:IT (Lh n) (kT ky.kr) 124:=mB
def Rh:=fu fun n=>(UH n).1
def ar5:∀n:Nat,tL gv 214 (kT ky.kr) mh (Rh n):=vD fun n=>uy (UH n) (gd (jR (lA (ajx n)) (jR (lj (XF n)) jU)) jV) func214 ntmps214 results214
@[reducible] def aAI:kL Bool:=mU gv f287 n (lR gv [.tmp 2] mh) (cl:=lY [(22,nr (kT jX.kr) (kT jX.kr) mh (EN n))])
def afN:IT (aAI n) (kT jX.kr) 6:=mB
def X9:=fu fun n=>(afN n).1
def anl:∀n:Nat,tL gv 287 (kT jX.kr) mh (X9 n):=vD fun n=>uy (afN n) (gd (jR (lj (abq n)) jU) jV) func287 ntmps287 results287
@[reducible] def ax0:kL Int:=mU gv f50 n (lR gv [.tmp 10] (li .i64)) (cl:=lY [(100,aFo (kT jX.kr) (li .i64) (li .i64) (li .i64) (li .i64) (li .i64) (li .i64) (qw n)),(101,nh (kT jX.kr) (li .i64) (Eu n)),(102,nh (kT jX.kr) (li .i64) (Bw n))])
def Ri:SC5 (ax0 n) (kT jX.kr) (li .i64) (li .i64) (li .i64) (li .i64) 28:=mB
def Ik:=fu fun n=>(Ri n).1
def akj:∀n:Nat,aM1 gv 50 (kT jX.kr) (li .i64) (li .i64) (li .i64) (li .i64) (li .i64) (Ik n):=aR9 fun n=>aR8 (Ri n) (gd (jR (aL6 (akd n)) (jR (lA (aaK n)) (jR (lA (WU n)) jU))) jV) func50 ntmps50 results50
def Z5:sN:=⟨[],[],(zA::zA::zK::zK::zA::zK::ux (l8 [])),[oT lh.kr,oT lh.kr],none,none⟩
@[reducible] def xM(X:lh->lh->Option Bool)(n:Nat):kL Bool:=mU gv f307 n (lR gv [.tmp 4] mh) (cl:=lY [(22,nr (kT jX.kr) (kT jX.kr) mh (EN n)),(307,nr (kT lh.kr) (kT lh.kr) mh X)]) (p4:=nR [([0,1,0,1,1],Z5)]) (tI:=lS []) (tX:=lS [])
def ar6(X:lh->lh->Option Bool)(n:Nat):qY (xM X n) [0,0,0,1,0,0,1,0,1,1]=true:=jO
def ar7(X:lh->lh->Option Bool)(n:Nat):vL (xM X n) [0,0,0,1,0,0,1,0,1,1] 1 12 3 12 4 12 10 12/\vL (xM X n) [0,0,0,1,0,0,1,0,1,1] 11 12 1 13 3 13 4 13/\vL (xM X n) [0,0,0,1,0,0,1,0,1,1] 6 13 8 13 9 13 10 13/\avI (xM X n) [0,0,0,1,0,0,1,0,1,1] 11 13 12 13 10 11:=⟨⟨jO,jO,jO,jO⟩,⟨jO,jO,jO,jO⟩,⟨jO,jO,jO,jO⟩,jO,jO,jO⟩
attribute [go_sem] ar6 ar7 Z5
@[go_sem]abbrev Z6(v0:Int)(o0 o1:lh):jT:=⟨(qA::qA::.ptr 0 0::.ptr 1 0::qA::.int .i64 v0::uw (mc [])),[.cells (lh.cells o0),.cells (lh.cells o1)],0,[]⟩
abbrev Z7:=Int->lh->lh->Option Bool
abbrev aqm(X:lh->lh->Option Bool)(n:Nat)(K:List Kt)(Z:Z7):Prop:=∀v0 o0 o1,run (xM X n) K (Z6 v0 o0 o1)=Z v0 o0 o1
def BK(X:lh->lh->Option Bool)(n:Nat):LB (aqm X n) [0,1,0,1,1] [.pF 0,.cut [1,1,1],.at [1,1,1]]:=mB
def BL(X:lh->lh->Option Bool)(n:Nat):Nat->Z7:=sR ((BK X n).1)
def VA(X:lh->lh->Option Bool){n:Nat}:BL X n (m+1)=(BK X n).1 (BL X n m):=rfl
@[go_sem]def akk(X:lh->lh->Option Bool)(n:Nat)(m:Nat):=ud (BK X n) (BL X n) m
def QV(X:lh->lh->Option Bool)(n:Nat):IO (xM X n) (kT lh.kr) (kT lh.kr) 74:=mB
def yt:Nat->lh->lh->Option Bool
 |0,_,_=>none
 |n+1,a0,a1=>(QV (yt n) n).1 a0 a1
def Z8:∀n:Nat,th gv 307 (kT lh.kr) (kT lh.kr) mh (yt n)
 |0=>fun _ _ _ h=>(by cases h)
 |n+1=>by
  have aqn:=Z8 n;exact ug (QV (yt n) n) (gd (jR (lj (abq n)) (jR (lj (aqn)) jU)) jV) func307 ntmps307 results307
@[go_sem]def aqo:sN:=⟨[],[],(l8 (l8 (zT (lz jX.row)::zK::zK::lH (l8 (l8 (zA::[])))))),[],none,none⟩
@[reducible] def asX(X:(List jX)->Option Bool)(n:Nat):kL Bool:=mU gv f49 n (lR gv [.tmp 2] mh) (cl:=lY [(49,nh (lz jX.row) mh X),(97,nr (li .i64) (lz jX.row) (li .i64) (Ee n)),(98,nr (lz kE.row) (tyF 99) mh (q5 n))]) (p4:=nR [([0,1,0,1,1],aqo)])
@[go_sem]abbrev aqp(v0:List jX)(v1 v2:Int):jT:=⟨(mc (mc (.kJ false 5 (mp jX.cells v0)::.int .i64 v1::.int .i64 v2::lM (mc (mc (qA::[])))))),[],0,[]⟩
abbrev aqq:=(List jX)->Int->Int->Option Bool
abbrev aAJ(X:(List jX)->Option Bool)(n:Nat)(K:List Kt)(Z:aqq):Prop:=∀v0 v1 v2,run (asX X n) K (aqp v0 v1 v2)=Z v0 v1 v2
def Of(X:(List jX)->Option Bool)(n:Nat):LB (aAJ X n) [0,1,0,1,1] [.pF 0,.cut [1,1,1],.at [1,1,1]]:=mB
def Og(X:(List jX)->Option Bool)(n:Nat):Nat->aqq:=sR ((Of X n).1)
def akl(X:(List jX)->Option Bool){n:Nat}:Og X n (m+1)=(Of X n).1 (Og X n m):=rfl
@[go_sem]def atZ(X:(List jX)->Option Bool)(n:Nat)(m:Nat):=ud (Of X n) (Og X n) m
def akm(X:(List jX)->Option Bool)(n:Nat):IT (asX X n) (lz jX.row) 36:=mB
def Mr:Nat->(List jX)->Option Bool
 |0,_=>none
 |n+1,a0=>(akm (Mr n) n).1 a0
def aqr:∀n:Nat,tL gv 49 (lz jX.row) mh (Mr n)
 |0=>fun _ _ h=>(by cases h)
 |n+1=>by
  have aAK:=aqr n;exact uy (akm (Mr n) n) (gd (jR (lA (aAK)) (jR (lj (ajj n)) (jR (lj (F8 n)) jU))) jV) func49 ntmps49 results49
open Go.Proofs
@[reducible] def at0:kL Bool:=mU gv f182 n (lR gv [.tmp 2] mh) (cl:=lY [(199,QT (Ii n))])
def UI:IT (at0 n) lW 6:=mB
def KL:=fu fun n=>(UI n).1
def adU:∀n:Nat,tL gv 182 lW mh (KL n):=vD fun n=>uy (UI n) (gd (jR (mY (Z2 n)) jU) jV) func182 ntmps182 results182
@[reducible] def anm:kL Bool:=mU gv f109 n (lR gv [.cell 4 4] mh) (cl:=lY [(103,nh (kT jX.kr) (anV 164 (uO jX.kr)) (Lq n)),(164,Z3 (Lg n))]) (js:=aIc [([0,1,0,1,1],[(1,.ret)])])
@[go_sem]def at1:lkM (anm n) [0,1,0,1,1]=nU:=rfl
attribute [go_sem] xY
def abx:IO (anm n) (kT jX.kr) (li .i64) 30:=mB
def Z9:=fu fun n=>(abx n).1
def awq:∀n:Nat,th gv 109 (kT jX.kr) (li .i64) mh (Z9 n):=vM fun n=>ug (abx n) (gd (jR (lA (amU n)) (jR (mY (aor n)) jU)) jV) func109 ntmps109 results109
@[go_sem]def xo:sN:=⟨[],[],(zT (lz ky.row)::zK::l8 (zA::zK::zK::l8 (l8 (zA::zA::[])))),[oC [zK]],none,none⟩
@[go_sem]def mW:=(l1 (lz ky.row) (alF 263 (vlP 0 vlN) kM))
@[go_sem]abbrev qt(F:(List ky)->kp->Option T1b)(b:TL)(a:((List ky)×(Unit×Unit))):=F a.1 b.1.1
@[go_sem]def xH(F:(List ky)->kp->Option T1b):=Hp [.arg 1 [0]] (tg (Bl (VX cS 1 kM)) Bi) mW (tg (Bl (VX cS 1 kM)) Bi) (l1 (li .i64) kM) (qt F)
@[reducible] def xI:kL T1b:=mU gv f292 n (xg gv [.tmp 4] [] [0] 1 (tg (Bl (VX cS 1 kM)) Bi) (l1 (li .i64) kM)) (cl:=lY [(263,zh [1] (tY (AA cS) rW) (asT (kT ky.kr) (YH 0 Ho)) (tY (AA cS) rW) (Ui mh Fj) (fun(b:(kp×Unit)) a=>(Jb n) a.1 b.1))]) (p4:=nR [([0,1,0,1],xo)])
@[go_sem]abbrev xp(v0:List ky)(v1 v2:Int)(v3:kp):jT:=⟨(.kJ false 23 (mp ky.cells v0)::.func (.func 263) [] [.ptr 0 0]::mc (qA::.int .i64 v1::.int .i64 v2::mc (mc (qA::qA::[])))),[.cells [.str (sb v3)]],1,[]⟩
abbrev xq:=(List ky)->Int->Int->kp->Option T1b
abbrev Fv(K:List Kt)(Z:xq):Prop:=∀v0 v1 v2 v3,run (xI n) K (xp v0 v1 v2 v3)=Z v0 v1 v2 v3
def oR:LB (Fv n) [0,1,0,1] [.pF 0,.cut [1,1],.at [1,1]]:=mB
def oS:Nat->xq:=sR ((oR n).1)
def wx{n:Nat}:oS n (m+1)=(oR n).1 (oS n m):=rfl
@[go_sem]def DC(m:Nat):=ud (oR n) (oS n) m
def s5:SX (xI n) mW (tg (Bl (VX cS 1 kM)) Bi) 19 qt:=mC
def qV:=fu fun n=>(s5 n).1
def Fw:∀n:Nat,zD gv 292 mW (tg (Bl (VX cS 1 kM)) Bi) (tg (Bl (VX cS 1 kM)) Bi) (l1 (li .i64) kM) (qt (qV n)):=WS fun n=>G6 (s5 n) (gd (jR (oZ (fun b a r h=>(ami n) a.1 b.1 r h)) jU) jV) func292 ntmps292 results292
@[reducible] def aby:kL (List kp):=mU gv f56 n (lR gv [.tmp 2] (lz kW)) (cl:=lY [(103,nh (kT jX.kr) (anV 164 (uO jX.kr)) (Lq n)),(164,ake (Wm n))]) (cut:=aMG [] [([1,1,1],[(3,0,1)])]) (js:=aIc [([0,1,0,1,1,1],[])])
@[go_sem]def at2:lkM (aby n) [0,1,0,1,1,1]=nE:=rfl
attribute [go_sem] wI
def abz:{B:jX->Option (List kp) //∀(a0:jX),run (aby n) [.at []] (ini [(kT jX.kr).enc a0] 31)=B a0}:=mB
def aaa:=fu fun n=>(abz n).1
def awr:∀(n:Nat)(a0:jX)(r:(List kp)),aaa n a0=some r->JE gv 56 [(kT jX.kr).enc a0] (fun v=>v=(lz kW).enc r)
 |0,_,_,h=>by cases h
 |n+1,a0,r,h=>by
  exact apj (M:=aby n) ⟨(jR (lA (amU n)) (jR (mY (atU n)) jU)),jV,oX _,aMH [] [([1,1,1],[(3,0,1)])],q7,q8,rR,rH⟩ func56 rfl rfl ⟨(kT jX.kr).nb 0 _,trivial⟩ ntmps56 results56 (fun J hs=>aly (P:=gv) (rs:=[.tmp 2]) (t:=(lz kW)) (J:=J) (r:=r) hs) (((abz n).2 a0).trans h)
@[go_sem]def Jw:sN:=⟨[],[],(zK::zK::l8 (zA::zK::zT (lz Syntax.row)::lH (zA::zA::zT (lz kW)::zK::zK::lH (l8 (l8 (l8 (zA::zA::zA::[]))))))),[oC [zK],oA Syntax.row,oM (kT jS.kr),oD,oT jS.kr],none,none⟩
@[go_sem]def xz:=(l5 0 (alA 1 (l1 (kT Syntax.kr) kM)))
@[go_sem]def qK:=(tg (Bl (VY 2 kM)) (tg (ogA true Syntax.row) (tg (atk (kT jS.kr)) Bi)))
@[go_sem]abbrev yf(F:Syntax->(List Syntax)->Tb->Option Tp)(b:(Unit×((List Syntax)×(Tb×Unit))))(a:(Syntax×Unit)):=F a.1 b.2.1 b.2.2.1
@[go_sem]def Cb(F:Syntax->(List Syntax)->Tb->Option Tp):=Hp [.arg 0 [],.arg 1 [],.vC 0 0 []] qK xz qK (alA 1 kM) (yf F)
@[reducible] def KM(X:Syntax->(List Syntax)->Tb->Option Tp)(n:Nat):kL Tp:=mU gv f268 n (xg gv [.tmp 6] [] [0,1,2] 3 qK (alA 1 kM)) (cl:=lY [(268,apr 1 true 8 (Cb X)),(297,wP (yb n)),(298,B8 (p7 n))]) (p4:=nR [([0,1,0,1,1,1],Jw)])
@[go_sem]abbrev Jx(v0:List Syntax)(v1:List kp)(v2 v3:Int)(r1:List Syntax)(r2:List (kp×jS))(o4:jS)(c1:Nat):jT:=⟨(.ptr 0 0::.lV 1 c1::mc (qA::.ptr 4 0::.kJ false 8 (mp Syntax.cells v0)::lM (qA::qA::.kJ false 1 (mp kS v1)::.int .i64 v2::.int .i64 v3::lM (mc (mc (mc (qA::qA::qA::[]))))))),[.cells [.map 2],.lV true 8 (mp Syntax.cells r1),.map (mp (Qy (kT jS.kr)) r2),.vz,.cells (jS.cells o4)],3,[]⟩
abbrev Jy:=(List Syntax)->(List kp)->Int->Int->(List Syntax)->Tb->jS->Option Tp
abbrev aSU(X:Syntax->(List Syntax)->Tb->Option Tp)(n:Nat)(K:List Kt)(Z:Jy):Prop:=∀v0 v1 v2 v3 r1 r2 o4 c1,c1=r1.length->run (KM X n) K (Jx v0 v1 v2 v3 r1 r2 o4 c1)=Z v0 v1 v2 v3 r1 r2 o4
def Bo(X:Syntax->(List Syntax)->Tb->Option Tp)(n:Nat):LB (aSU X n) [0,1,0,1,1,1] [.pF 0,.cut [1,1,1,1],.at [1,1,1,1]]:=mB
def Bp(X:Syntax->(List Syntax)->Tb->Option Tp)(n:Nat):Nat->Jy:=sR ((Bo X n).1)
def auB(X:Syntax->(List Syntax)->Tb->Option Tp){n:Nat}:Bp X n (m+1)=(Bo X n).1 (Bp X n m):=rfl
@[go_sem]def UJ(X:Syntax->(List Syntax)->Tb->Option Tp)(n:Nat)(m:Nat):=ud (Bo X n) (Bp X n) m
def KN(X:Syntax->(List Syntax)->Tb->Option Tp)(n:Nat):SX (KM X n) xz qK 61 yf:=mC
def zW:Nat->Syntax->(List Syntax)->Tb->Option Tp
 |0,_,_,_=>none
 |n+1,a0,o0,o1=>(KN (zW n) n).1 a0 o0 o1
def Jz:∀n:Nat,zD gv 268 xz qK qK (alA 1 kM) (yf (zW n))
 |0=>fun _ _ _ h=>(by cases h)
 |n+1=>by
  have aSV:=Jz n;exact G6 (KN (zW n) n) (gd (jR (acu (mY (aSV))) (jR (mY (zR n)) (jR (mY (YZ n)) jU))) jV) func268 ntmps268 results268
@[reducible] def ah0:kL Bool:=mU gv f235 n (lR gv [.tmp 4] mh) (cl:=lY [(242,WM (nr lW lW (li .i64) (GG n)) (nr lW lW (li .i64) (strings_IndexAny n)))])
def PU:IO (ah0 n) lW lW 9:=mB
def strings_ContainsAny:=fu fun n=>(PU n).1
def afO:∀n:Nat,th gv 235 lW lW mh (strings_ContainsAny n):=vM fun n=>ug (PU n) (gd (jR (acv (lj (RA n)) (lj (Vy n))) jU) jV) func235 ntmps235 results235
open Go.Proofs
@[go_sem]def PV:sN:=⟨[],[],(zK::lH (lH (lH (l8 (zA::zA::[]))))),[oC [zK,zK,zK,zK,zK],oK,oK,oK],none,none⟩
@[go_sem]abbrev BM(F:kp->Int->Ta->Ta->Ta->Option (To×Unit))(b:To)(a:Unit):=F b.1.1 b.1.2.1 b.2.1 b.2.2.1 b.2.2.2.1
@[go_sem]def Sv(F:kp->Int->Ta->Ta->Ta->Option (To×Unit)):=Hp [.arg 0 [],.vC 0 2 [],.vC 0 3 [],.vC 0 4 []] ld (l5 0 kM) ld kM (BM F)
@[reducible] def Il:kL (To×Unit):=mU gv f204 n (xg gv [] [] [0,1,2,3] 4 ld kM) (cl:=lY [(243,nr lW (li .i32) mh (Sn n)),(244,nr lW lW mh (ZN n)),(245,nr lW lW (ty3 lW lW mh) (strings_Cut n))]) (p4:=nR [([0],PV)]) (tI:=lS []) (tX:=lS [])
@[go_sem]def akn:an0 (Il n) [0,0,0,0] [0,0,1,0,0]:=⟨jO,jO⟩
@[go_sem]abbrev PW(v0:kp)(v1:Int)(r1 r2 r3:List (kp×Bool)):jT:=⟨(.ptr 0 0::lM (lM (lM (mc (qA::qA::[]))))),[.cells [.str (sb v0),.int .i64 v1,.map 1,.map 2,.map 3],.map (mp Hq r1),.map (mp Hq r2),.map (mp Hq r3)],4,[]⟩
abbrev PX:=kp->Int->Ta->Ta->Ta->Option (To×Unit)
abbrev ah1(K:List Kt)(Z:PX):Prop:=∀v0 v1 r1 r2 r3,run (Il n) K (PW v0 v1 r1 r2 r3)=Z v0 v1 r1 r2 r3
def Gf:LB (ah1 n) [0] [.pF 0]:=mB
def Gg:Nat->PX:=sR ((Gf n).1)
def azb{n:Nat}:Gg n (m+1)=(Gf n).1 (Gg n m):=rfl
@[go_sem]def abA(m:Nat):=ud (Gf n) (Gg n) m
def Sw:SX (Il n) (l5 0 kM) ld 55 BM:=mC
def Ya:=fu fun n=>(Sw n).1
def ah2:∀n:Nat,zD gv 204 (l5 0 kM) ld ld kM (BM (Ya n)):=WS fun n=>G6 (Sw n) (gd (jR (lj (ady n)) (jR (lj (ajR n)) (jR (lj (avR n)) jU))) jV) func204 ntmps204 results204
@[reducible] def Oh:kL TH:=mU gv f203 n (xg gv [.tmp 2,.tmp 3,.tmp 4] [] [0,1,2,3] 4 ld oW) (cd:=yA [(242,oV (WM (nr lW lW (li .i64) (GG n)) (nr lW lW (li .i64) (strings_IndexAny n))))]) (tI:=lS []) (tX:=lS [])
@[go_sem]def afP:aF3 (Oh n) [0,0,1,0,1,1] [0,0,1,1] [0,1] [0,1,1,1]:=⟨jO,jO,jO,jO⟩
def Oi:SX (Oh n) (l5 0 kM) ld 45 pu:=mC
def Sx:=fu fun n=>(Oi n).1
def adV:∀n:Nat,zD gv 203 (l5 0 kM) ld ld oW (pu (Sx n)):=WS fun n=>G6 (Oi n) (gd jU (k7 (aFQ (oQ (RA n)) (oQ (Vy n))) jV)) func203 ntmps203 results203
@[reducible] def ako:kL TA:=mU gv f82 n (qM gv [] [] [0] 1 jP kM) (q6:=qN [] [0] 1 jP j3) (cp:=AC [(148,mi (vP n))]) (wD:=lS [148])
def Sy:SX (ako n) (l5 0 (l1 (li .i64) kM)) jP 8 p8:=mC2
def nX:=fu fun n=>(Sy n).1
def nH:∀n:Nat,tG gv 82 (l5 0 (l1 (li .i64) kM)) jP true jP kM jP j3 (p8 (nX n)):=ae9 fun n=>Et (Sy n) (gd jU jV (p:=(kz (lc (vQ n)) l7))) func82 ntmps82 results82
@[go_sem]abbrev sv(F:Bool->jQ->Option TA)(b:T6)(a:(Bool×Unit)):=F a.1 b.1.1
@[go_sem]def sw(F:Bool->jQ->Option TA):=xE true [.arg 0 []] jP (l5 0 (l1 mh kM)) jP kM jP j3 (sv F)
@[reducible] def afQ:kL TA:=mU gv f93 n (qM gv [] [] [0] 1 jP kM) (q6:=qN [] [0] 1 jP j3) (cp:=AC [(148,mi (vP n))]) (wD:=lS [148])
def Oj:SX (afQ n) (l5 0 (l1 mh kM)) jP 8 sv:=mC2
def qf:=fu fun n=>(Oj n).1
def pQ:∀n:Nat,tG gv 93 (l5 0 (l1 mh kM)) jP true jP kM jP j3 (sv (qf n)):=ae9 fun n=>Et (Oj n) (gd jU jV (p:=(kz (lc (vQ n)) l7))) func93 ntmps93 results93
@[reducible] def Yb:kL Bool:=mU gv f154 n (lR gv [.tmp 2] mh) (cl:=lY [(91,nr (uO jQ.kr) lW mh (qe n)),(207,nh (uO jQ.kr) mh (BF n))])
def Im:IT (Yb n) (uO jQ.kr) 9:=mB
def yg:=fu fun n=>(Im n).1
def zX:∀n:Nat,tL gv 154 (uO jQ.kr) mh (yg n):=vD fun n=>uy (Im n) (gd (jR (lj (pP n)) (jR (lA (Dc n)) jU)) jV) func154 ntmps154 results154
@[reducible] def Ok:kL (Te×(Bool×Unit)):=mU gv f153 n (aru gv [.tmp 4] (tY (AA jQ.kr) rW) (Ui mh Fj) 1) (cl:=lY [(88,zh [0] (tY (AA jQ.kr) rW) (YH 0 Ho) (tY (AA jQ.kr) rW) (Ui lW Fj) (fun(b:Te) a=>(ni n) b.1)),(91,D5 (oV (nr (uO jQ.kr) lW mh (qe n))))])
def Ol:{B:jQ->kp->Option (Te×(Bool×Unit)) //∀(a0:jQ)(a1:kp),run (Ok n) [.at []] (ini ((YH 0 (asT lW Ho)).enc (a0,()) (a1,())) 13 ((tY (AA jQ.kr) rW).enc (a0,())))=B a0 a1}:=mB
def nP:=fu fun n=>(Ol n).1
def nv:∀(n:Nat)(a0:jQ)(a1:kp)(r:(Te×(Bool×Unit))),nP n a0 a1=some r->FnG gv 153 ((YH 0 (asT lW Ho)).enc (a0,()) (a1,())) ((tY (AA jQ.kr) rW).enc (a0,())) (fun o H'=>o=.ret (sE ((Ui mh Fj).enc r.1 r.2))/\H'=(tY (AA jQ.kr) rW).enc r.1)
 |0,_,_,_,h=>by cases h
 |n+1,a0,a1,r,h=>by
  exact vh (M:=Ok n) ⟨(jR (oZ (fun b a r h=>(mA n) b.1 r h)) (jR (qp (oQ (pP n))) jU)),jV,oX _,pJ _,q7,q8,rR,rH⟩ func153 rfl rfl (by simp only[go_sem,gz,gA,gw,gx,gB,gC,gF,gG,gH,gy,gD,gI]) ((tY (AA jQ.kr) rW).nb _ _) ntmps153 results153 (fun J hs=>Zl hs) (((Ol n).2 a0 a1).trans h)
open Go.Proofs
@[go_sem]def ahd:sN:=⟨[],[],(zA::zK::zA::zA::zA::zK::l8 (l8 (l8 (zA::zA::[])))),[],none,none⟩
@[reducible] def akp:kL Bool:=mU gv f174 n (lR gv [.tmp 4] mh) (cl:=lY [(176,nr (lz jS.row) lW mh (Ft n))]) (p4:=nR [([0,1,0,1,1],ahd)])
@[go_sem]abbrev ahe(v0:kp)(v1:Int):jT:=⟨(qA::.str (sb v0)::qA::qA::qA::.int .i64 v1::mc (mc (mc (qA::qA::[])))),[],0,[]⟩
abbrev ahf:=kp->Int->Option Bool
abbrev at3(K:List Kt)(Z:ahf):Prop:=∀v0 v1,run (akp n) K (ahe v0 v1)=Z v0 v1
def Fx:LB (at3 n) [0,1,0,1,1] [.pF 0,.cut [1,1,1],.at [1,1,1]]:=mB
def Fy:Nat->ahf:=sR ((Fx n).1)
def aab{n:Nat}:Fy n (m+1)=(Fx n).1 (Fy n m):=rfl
@[go_sem]def aov(m:Nat):=ud (Fx n) (Fy n) m
def Yc:IO (akp n) (lz jS.row) lW 20:=mB
def Om:=fu fun n=>(Yc n).1
def ahg:∀n:Nat,th gv 174 (lz jS.row) lW mh (Om n):=vM fun n=>ug (Yc n) (gd (jR (lj (XZ n)) jU) jV) func174 ntmps174 results174
@[reducible] def afR:kL Int:=mU gv f113 n (lR gv [.tmp 4] (li .i64)) (cl:=lY [(120,nr (lz kW) lW mh (Kv n)),(175,nr (kT kI.kr) lW (LQ lW (li .i64)) (Rg n)),(176,nr (lz jS.row) lW mh (Ft n))])
def ET:IO (afR n) (kT j9.kr) lW 35:=mB
def BN:=fu fun n=>(ET n).1
def adW:∀n:Nat,th gv 113 (kT j9.kr) lW (li .i64) (BN n):=vM fun n=>ug (ET n) (gd (jR (lj (L4 n)) (jR (lj (ar1 n)) (jR (lj (XZ n)) jU))) jV) func113 ntmps113 results113
@[go_sem]def ahh:sN:=⟨[],[],(zA::zK::zA::zA::zA::zT (lz Rt)::zK::l8 (l8 (l8 (zA::zA::[])))),[],none,none⟩
@[reducible] def akq:kL Bool:=mU gv f115 n (lR gv [.tmp 4] mh) (cl:=lY [(179,nh (kT jX.kr) (lz Rt) (aou n))]) (p4:=nR [([0,1,0,1,1],ahh)])
@[go_sem]abbrev ahi(v0:Int)(v1:List Int)(v2:Int):jT:=⟨(qA::.int .i64 v0::qA::qA::qA::.kJ false 1 (mp LP v1)::.int .i64 v2::mc (mc (mc (qA::qA::[])))),[],0,[]⟩
abbrev ahj:=Int->(List Int)->Int->Option Bool
abbrev at4(K:List Kt)(Z:ahj):Prop:=∀v0 v1 v2,run (akq n) K (ahi v0 v1 v2)=Z v0 v1 v2
def Fz:LB (at4 n) [0,1,0,1,1] [.pF 0,.cut [1,1,1],.at [1,1,1]]:=mB
def FA:Nat->ahj:=sR ((Fz n).1)
def aac{n:Nat}:FA n (m+1)=(Fz n).1 (FA n m):=rfl
@[go_sem]def aow(m:Nat):=ud (Fz n) (FA n) m
def Yd:IO (akq n) (kT jX.kr) (li .i64) 21:=mB
def Wo:=fu fun n=>(Yd n).1
def at5:∀n:Nat,th gv 115 (kT jX.kr) (li .i64) mh (Wo n):=vM fun n=>ug (Yd n) (gd (jR (lA (axZ n)) jU) jV) func115 ntmps115 results115
open Go.Proofs
@[reducible] def at6:kL Bool:=mU gv f67 n (lR gv [.tmp 2] mh) (cl:=lY [(48,nr (lz kW) (li .i64) mh (FU n))])
def UK:IT (at6 n) (kT jS.kr) 13:=mB
def abB:=fu fun n=>(UK n).1
def ar8:∀n:Nat,tL gv 67 (kT jS.kr) mh (abB n):=vD fun n=>uy (UK n) (gd (jR (lj (QU n)) jU) jV) func67 ntmps67 results67
@[go_sem]def aqs:sN:=⟨[],[],(zT (lz ky.row)::zA::zA::zK::lH (zA::zA::zA::[])),[],none,none⟩
@[reducible] def asY:kL Bool:=mU gv f158 n (lR gv [.tmp 2] mh) (cl:=lY [(214,nh (kT ky.kr) mh (Rh n))]) (p4:=nR [([0,1,0,1],aqs)])
@[go_sem]abbrev aqt(v0:List ky)(v1:Int):jT:=⟨(.kJ false 23 (mp ky.cells v0)::qA::qA::.int .i64 v1::lM (qA::qA::qA::[])),[],0,[]⟩
abbrev aqu:=(List ky)->Int->Option Bool
abbrev aAL(K:List Kt)(Z:aqu):Prop:=∀v0 v1,run (asY n) K (aqt v0 v1)=Z v0 v1
def On:LB (aAL n) [0,1,0,1] [.pF 0,.cut [1,1],.at [1,1]]:=mB
def Oo:Nat->aqu:=sR ((On n).1)
def akr{n:Nat}:Oo n (m+1)=(On n).1 (Oo n m):=rfl
@[go_sem]def at7(m:Nat):=ud (On n) (Oo n) m
def aks:IT (asY n) (lz ky.row) 23:=mB
def alL:=fu fun n=>(aks n).1
def aAM:∀n:Nat,tL gv 158 (lz ky.row) mh (alL n):=vD fun n=>uy (aks n) (gd (jR (lA (ar5 n)) jU) jV) func158 ntmps158 results158
@[reducible] def aws:kL Bool:=mU gv f255 n (lR gv [.tmp 2] mh) (cl:=lY [(287,nh (kT jX.kr) mh (X9 n))])
def Ye:IT (aws n) (kT ky.kr) 87:=mB
def Wp:=fu fun n=>(Ye n).1
def aua:∀n:Nat,tL gv 255 (kT ky.kr) mh (Wp n):=vD fun n=>uy (Ye n) (gd (jR (lA (anl n)) jU) jV) func255 ntmps255 results255
@[reducible] def awt:kL Int:=mU gv f289 n (lR gv [.tmp 8] (li .i64)) (cl:=lY [(50,aJJ (kT jX.kr) (li .i64) (li .i64) (li .i64) (li .i64) (li .i64) (Ik n)),(306,nr (kT j7.kr) (kT jX.kr) (li .i64) (vi n))])
def Yf:SC4 (awt n) (kT j7.kr) (kT jX.kr) (li .i64) (li .i64) 20:=mB
def Jd:=fu fun n=>(Yf n).1
def UL:∀n:Nat,aDy gv 289 (kT j7.kr) (kT jX.kr) (li .i64) (li .i64) (li .i64) (Jd n):=aM2 fun n=>aKG (Yf n) (gd (jR (aGP (akj n)) (jR (lj (XN n)) jU)) jV) func289 ntmps289 results289
@[reducible] def QW:kL Bool:=mU gv f126 n (lR gv [.tmp 4] mh) (cl:=lY [(141,nh lW mh (Wx n)),(171,nr (lz kW) lW mh (uZ n)),(182,nh lW mh (KL n))])
def xN:IO (QW n) (lz kW) lW 22:=mB
def qP:=fu fun n=>(xN n).1
def xw:∀n:Nat,th gv 126 (lz kW) lW mh (qP n):=vM fun n=>ug (xN n) (gd (jR (lA (afu n)) (jR (lj (GN n)) (jR (lA (adU n)) jU))) jV) func126 ntmps126 results126
@[go_sem]abbrev pW(F:(List ky)->kp->Option (TL×(Bool×Unit)))(b:TL)(a:((List ky)×(Unit×Unit))):=F a.1 b.1.1
@[go_sem]def wy(F:(List ky)->kp->Option (TL×(Bool×Unit))):=Hp [.arg 1 [0]] (tg (Bl (VX cS 1 kM)) Bi) mW (tg (Bl (VX cS 1 kM)) Bi) (l1 mh kM) (pW F)
@[reducible] def D7:kL (TL×(Bool×Unit)):=mU gv f262 n (xg gv [.tmp 4] [] [0] 1 (tg (Bl (VX cS 1 kM)) Bi) (l1 mh kM)) (cl:=lY [(292,xH (qV n))])
def rS:SX (D7 n) mW (tg (Bl (VX cS 1 kM)) Bi) 9 pW:=mC
def qk:=fu fun n=>(rS n).1
def DD:∀n:Nat,zD gv 262 mW (tg (Bl (VX cS 1 kM)) Bi) (tg (Bl (VX cS 1 kM)) Bi) (l1 mh kM) (pW (qk n)):=WS fun n=>G6 (rS n) (gd (jR (mY (Fw n)) jU) jV) func262 ntmps262 results262
open Go.Proofs
def ahk:sN:=⟨[],[],(zK::lH (lH (lH (zA::zA::zT (lz kW)::zK::zK::l8 (l8 (zA::[])))))),[],none,none⟩
def ahl:sN:=⟨[],[],(zK::lH (l8 (l8 (l8 (zA::zA::zA::zK::zK::lH (l8 (l8 (l8 (zA::[]))))))))),[],none,none⟩
def ahm:sN:=⟨[],[],(zK::l8 (l8 (l8 (zA::zK::zK::lH (lH (l8 (l8 (l8 (zA::zA::zA::[]))))))))),[],none,none⟩
@[reducible] def Oq:kL Bool:=mU gv f139 n (lR gv [.tmp 2] mh) (cl:=lY [(12,nr lW lW mh (strings_Contains n)),(182,nh lW mh (KL n)),(193,nh (li .u8) (li .i64) (LW n)),(194,nh (li .u8) mh (Wf n)),(195,aCG (lz kW) (ajN n))]) (p4:=nR [([0,1,0,1,1,1,1,1],ahk),([0,1,0,1,1,1],ahl),([0,1,0,0,1,0,1,1],ahm)])
attribute [go_sem] ahk ahl ahm
abbrev ahn(v0:kp)(v1:List kp)(v2 v3:Int):jT:=⟨(.str (sb v0)::lM (lM (lM (qA::qA::.kJ false 1 (mp kS v1)::.int .i64 v2::.int .i64 v3::mc (mc (qA::[])))))),[],0,[]⟩
abbrev aho:=kp->(List kp)->Int->Int->Option Bool
abbrev aub(K:List Kt)(Z:aho):Prop:=∀v0 v1 v2 v3,run (Oq n) K (ahn v0 v1 v2 v3)=Z v0 v1 v2 v3
abbrev ahp(v0:kp)(v1 v2:Int):jT:=⟨(.str (sb v0)::lM (mc (mc (mc (qA::qA::qA::.int .i64 v1::.int .i64 v2::lM (mc (mc (mc (qA::[]))))))))),[],0,[]⟩
abbrev Li:=kp->Int->Int->Option Bool
abbrev auc(K:List Kt)(Z:Li):Prop:=∀v0 v1 v2,run (Oq n) K (ahp v0 v1 v2)=Z v0 v1 v2
abbrev ahq(v0:kp)(v1 v2:Int):jT:=⟨(.str (sb v0)::mc (mc (mc (qA::.int .i64 v1::.int .i64 v2::lM (lM (mc (mc (mc (qA::qA::qA::[]))))))))),[],0,[]⟩
abbrev ahr:List Kt:=[.pF 0,.cut [1,0,1,0,1,1],.at [1,0,1,0,1,1],.cut [1,1,1],.at [1,1,1]]
abbrev aud(K:List Kt)(Z:Li):Prop:=∀v0 v1 v2,run (Oq n) K (ahq v0 v1 v2)=Z v0 v1 v2
attribute [go_sem] ahn ahp ahq ahr
def UM:LB (aub n) [0,1,0,1,1,1,1,1] [.pF 4,.cut [1,1,1,1,1,1],.at [1,1,1,1,1,1]]:=mB
def UN:Nat->aho:=sR ((UM n).1)
def aHg{n:Nat}:UN n (m+1)=(UM n).1 (UN n m):=rfl
@[go_sem]def aox(m:Nat):=ud (UM n) (UN n) m
def UO:LB (auc n) [0,1,0,1,1,1] [.pF 2,.cut [1,1,1,1],.at [1,1,1,1]]:=mB
def UP:Nat->Li:=sR ((UO n).1)
def aHh{n:Nat}:UP n (m+1)=(UO n).1 (UP n m):=rfl
@[go_sem]def aoy(m:Nat):=ud (UO n) (UP n) m
def UQ:LB (aud n) [0,1,0,0,1,0,1,1] ahr:=mB
def UR:Nat->Li:=sR ((UQ n).1)
def aHi{n:Nat}:UR n (m+1)=(UQ n).1 (UR n m):=rfl
@[go_sem]def aoz(m:Nat):=ud (UQ n) (UR n) m
def akt:IT (Oq n) lW 63:=mB
def afS:=fu fun n=>(akt n).1
def ahs:∀n:Nat,tL gv 139 lW mh (afS n):=vD fun n=>uy (akt n) (gd (jR (lj (Cx n)) (jR (lA (adU n)) (jR (lA (HK n)) (jR (lA (Ux n)) (jR (apm (ajO n)) jU))))) jV) func139 ntmps139 results139
@[go_sem]abbrev BO(F:kp->jQ->Option TA)(b:T6)(a:(kp×Unit)):=F a.1 b.1.1
@[go_sem]def pG(F:kp->jQ->Option TA):=xE true [.arg 0 []] jP (l5 0 (l1 lW kM)) jP kM jP j3 (BO F)
@[reducible] def aku:kL TA:=mU gv f151 n (qM gv [] [] [0] 1 jP kM) (cl:=lY [(85,D5 (oV (Qw (uO jQ.kr) (li .i64) lW mh (An n)))),(88,zh [0] (tY (AA jQ.kr) rW) (YH 0 Ho) (tY (AA jQ.kr) rW) (Ui lW Fj) (fun(b:Te) a=>(ni n) b.1)),(91,D5 (oV (nr (uO jQ.kr) lW mh (qe n))))]) (q6:=qN [] [0] 1 jP j3) (cp:=AC [(93,sw (qf n))]) (wD:=lS [93])
def Sz:SX (aku n) (l5 0 (l1 lW kM)) jP 16 BO:=mC2
def ql:=fu fun n=>(Sz n).1
def pS:∀n:Nat,tG gv 151 (l5 0 (l1 lW kM)) jP true jP kM jP j3 (BO (ql n)):=ae9 fun n=>Et (Sz n) (gd (jR (qp (MW (zr n))) (jR (oZ (fun b a r h=>(mA n) b.1 r h)) (jR (qp (oQ (pP n))) jU))) jV (p:=(kz (lc (pQ n)) l7))) func151 ntmps151 results151
@[go_sem]abbrev qg(F:jQ->Option (PR TK (T6×T8)))(b:T6)(a:Unit):=F b.1.1
@[go_sem]def ow(F:jQ->Option (PR TK (T6×T8))):=xE true [.arg 0 []] jP (l5 0 kM) jP (l1 lW kM) jP j3 (qg F)
@[reducible] def abC:kL (PR TK (T6×T8)):=mU gv f149 n (qM gv [.tmp 2] [] [0] 1 jP (l1 lW kM)) (cl:=lY [(88,zh [0] (tY (AA jQ.kr) rW) (YH 0 Ho) (tY (AA jQ.kr) rW) (Ui lW Fj) (fun(b:Te) a=>(ni n) b.1)),(154,D5 (oV (nh (uO jQ.kr) mh (yg n))))]) (q6:=qN [] [0] 1 jP j3) (cp:=AC [(93,sw (qf n))]) (wD:=lS [93])
def KO:SX (abC n) (l5 0 kM) jP 9 qg:=mC2
def um:=fu fun n=>(KO n).1
def uC:∀n:Nat,tG gv 149 (l5 0 kM) jP true jP (l1 lW kM) jP j3 (qg (um n)):=ae9 fun n=>Et (KO n) (gd (jR (oZ (fun b a r h=>(mA n) b.1 r h)) (jR (qp (nk (zX n))) jU)) jV (p:=(kz (lc (pQ n)) l7))) func149 ntmps149 results149
@[go_sem]abbrev zY(F:jQ->Option T14)(b:T6)(a:Unit):=F b.1.1
@[go_sem]def zZ(F:jQ->Option T14):=xE true [.arg 0 []] jP (l5 0 kM) jP (l1 (li .i64) kM) jP j3 (zY F)
@[reducible] def afT:kL T14:=mU gv f327 n (qM gv [.tmp 2] [] [0] 1 jP (l1 (li .i64) kM)) (cl:=lY [(88,zh [0] (tY (AA jQ.kr) rW) (YH 0 Ho) (tY (AA jQ.kr) rW) (Ui lW Fj) (fun(b:Te) a=>(ni n) b.1)),(94,D5 (oV (nh (uO jQ.kr) (kT lD.kr) (ny n)))),(333,nh lW (LQ (li .i64) aKA) (strconv_Atoi n))]) (q6:=qN [] [0] 1 jP j3) (cp:=AC [(93,sw (qf n))]) (wD:=lS [93])
def Ot:SX (afT n) (l5 0 kM) jP 18 zY:=mC2
def BP:=fu fun n=>(Ot n).1
def DE:∀n:Nat,tG gv 327 (l5 0 kM) jP true jP (l1 (li .i64) kM) jP j3 (zY (BP n)):=ae9 fun n=>Et (Ot n) (gd (jR (oZ (fun b a r h=>(mA n) b.1 r h)) (jR (qp (nk (mP n))) (jR (lA (atl n)) jU))) jV (p:=(kz (lc (pQ n)) l7))) func327 ntmps327 results327
@[reducible] def Yg:kL (PR TK (T6×T8)):=mU gv f340 n (qM gv [.tmp 2] [] [0] 1 jP (l1 lW kM)) (cl:=lY [(88,zh [0] (tY (AA jQ.kr) rW) (YH 0 Ho) (tY (AA jQ.kr) rW) (Ui lW Fj) (fun(b:Te) a=>(ni n) b.1)),(207,D5 (oV (nh (uO jQ.kr) mh (BF n))))]) (q6:=qN [] [0] 1 jP j3) (cp:=AC [(93,sw (qf n))]) (wD:=lS [93])
def Io:SX (Yg n) (l5 0 kM) jP 9 qg:=mC2
def Cc:=fu fun n=>(Io n).1
def GZ:∀n:Nat,tG gv 340 (l5 0 kM) jP true jP (l1 lW kM) jP j3 (qg (Cc n)):=ae9 fun n=>Et (Io n) (gd (jR (oZ (fun b a r h=>(mA n) b.1 r h)) (jR (qp (nk (Dc n))) jU)) jV (p:=(kz (lc (pQ n)) l7))) func340 ntmps340 results340
@[reducible] def akv:kL (PR TK (T6×T8)):=mU gv f326 n (qM gv [.tmp 2] [] [0] 1 jP (l1 lW kM)) (cl:=lY [(88,zh [0] (tY (AA jQ.kr) rW) (YH 0 Ho) (tY (AA jQ.kr) rW) (Ui lW Fj) (fun(b:Te) a=>(ni n) b.1)),(94,D5 (oV (nh (uO jQ.kr) (kT lD.kr) (ny n))))]) (q6:=qN [] [0] 1 jP j3) (cp:=AC [(93,sw (qf n))]) (wD:=lS [93])
def SA:SX (akv n) (l5 0 kM) jP 11 qg:=mC2
def Lx:=fu fun n=>(SA n).1
def PY:∀n:Nat,tG gv 326 (l5 0 kM) jP true jP (l1 lW kM) jP j3 (qg (Lx n)):=ae9 fun n=>Et (SA n) (gd (jR (oZ (fun b a r h=>(mA n) b.1 r h)) (jR (qp (nk (mP n))) jU)) jV (p:=(kz (lc (pQ n)) l7))) func326 ntmps326 results326
open Go.Proofs
@[go_sem]abbrev z6(F:jQ->Option TA)(b:T6)(a:Unit):=F b.1.1
@[go_sem]def Ou(F:jQ->Option TA):=xE true [.arg 0 []] jP (l5 0 kM) jP kM jP j3 (z6 F)
@[reducible] def z8:kL TA:=mU gv f45 n (qM gv [] [] [0] 1 jP kM) (q6:=qN [] [0] 1 jP j3) (co:=VZ [(93,Jl [.arg 0 []] jP (l5 0 (l1 mh kM)) jP kM jP j3 (sv (qf n))),(94,agF (oV (nh (uO jQ.kr) (kT lD.kr) (ny n))))]) (tI:=lS [93,94]) (tX:=lS [])
def afU:qY (z8 n) []=true:=jO
def afV:MV (z8 n) [] 6 9=true:=jO
def afW:aaE (z8 n) [] 9=true:=jO
attribute [go_sem] afU afV afW
def Ov:SX (z8 n) (l5 0 kM) jP 12 z6:=mC2
def SB:=fu fun n=>(Ov n).1
def adX:∀n:Nat,tG gv 45 (l5 0 kM) jP true jP kM jP j3 (z6 (SB n)):=ae9 fun n=>Et (Ov n) (gd jU jV (c:=(nS (AB (pQ n)) (nS (Rz (nk (mP n))) tK)))) func45 ntmps45 results45
@[reducible] def Ow:kL (kp×Int):=mU gv f112 n (lR gv [.tmp 6,.tmp 7] (LQ lW (li .i64))) (cl:=lY [(114,nr (kT j9.kr) (li .i64) lW (BJ n))]) (cd:=yA [(120,oV (nr (lz kW) lW mh (Kv n))),(174,oV (nr (lz jS.row) lW mh (Om n)))]) (tI:=lS []) (tX:=lS [])
@[go_sem]def afX:qY (Ow n) [0,0,1,1,1,1]=true:=jO
def wU:SC3 (Ow n) (kT j9.kr) (li .i64) (li .i64) 62:=mB2
def vR:=fu fun n=>(wU n).1
def adY:∀n:Nat,apD gv 112 (kT j9.kr) (li .i64) (li .i64) (LQ lW (li .i64)) (vR n):=aF4 fun n=>avJ (wU n) (gd (jR (lj (Su n)) jU) (k7 (oQ (L4 n)) (k7 (oQ (ahg n)) jV))) func112 ntmps112 results112
def SC:sN:=⟨[],[],(zA::zA::zK::zK::zK::zA::zK::zA::zK::ux (lH (l8 (l8 (l8 (zA::zA::zA::[])))))),[oT j9.kr,oT kE.kr,oK,oC [zK,zK],oA j8.row],none,none⟩
def SE:sN:=⟨[],[],(zA::zA::zK::zK::zK::zA::zK::zK::ux (lH (lH []))),[oT j9.kr,oT kE.kr,oK,oC [zK,zK],oA j8.row],none,none⟩
@[reducible] def sS:kL T1c:=mU gv f116 n (lR gv [.cell 4 112,.tmp 5] (LQ (kT jZ.kr) (li .i64))) (cd:=yA [(120,oV (nr (lz kW) lW mh (Kv n))),(174,oV (nr (lz jS.row) lW mh (Om n)))]) (p4:=nR [([0,1,0,1,1,1,1],SC),([0,1,0,1,1,1],SE)]) (cut:=asK [] [([1,1],3,1,2,true)]) (tI:=lS []) (tX:=lS [])
def amr:an0 (sS n) [0,0,1,0,0,1,0,0,1,0,1,1,1,1] [1,1,0,0,1,0,0,1,0,1,1,1,1]:=⟨jO,jO⟩
def ams:vL (sS n) [1,1,0,0,1,0,0,1,0,1,1,1,1] 1 15 3 15 5 15 6 15/\vL (sS n) [1,1,0,0,1,0,0,1,0,1,1,1,1] 8 15 10 15 12 15 1 17/\vL (sS n) [1,1,0,0,1,0,0,1,0,1,1,1,1] 3 17 5 17 6 17 8 17/\avI (sS n) [1,1,0,0,1,0,0,1,0,1,1,1,1] 10 17 12 17 15 17:=⟨⟨jO,jO,jO,jO⟩,⟨jO,jO,jO,jO⟩,⟨jO,jO,jO,jO⟩,jO,jO,jO⟩
attribute [go_sem] amr ams SC SE
@[go_sem]abbrev SF(v0:Int)(o0:j9)(o1:kE)(r4:List j8)(c4:Nat):jT:=⟨(qA::qA::.ptr 0 0::.ptr 1 0::.ptr 2 0::qA::.ptr 3 0::qA::.int .i64 v0::uw (lM (mc (mc (mc (qA::qA::qA::[])))))),[.cells (j9.cells o0),.cells (kE.cells o1),.cells [.bool false,.kJ true 0 []],.cells [.bool false,.lV 4 c4],.lV true 2 (mp j8.cells r4)],0,[]⟩
abbrev BQ:=Int->j9->kE->(List j8)->Option T1c
abbrev akw(K:List Kt)(Z:BQ):Prop:=∀v0 o0 o1 r4 c4,c4=r4.length->run (sS n) K (SF v0 o0 o1 r4 c4)=Z v0 o0 o1 r4
@[go_sem]abbrev SH(v0:Int)(o0:j9)(o1:kE)(r4:List j8)(c4:Nat):jT:=⟨(qA::qA::.ptr 0 0::.ptr 1 0::.ptr 2 0::qA::.ptr 3 0::.int .i64 v0::uw (lM (lM []))),[.cells (j9.cells o0),.cells (kE.cells o1),.cells [.bool false,.kJ true 0 []],.cells [.bool false,.lV 4 c4],.lV true 2 (mp j8.cells r4)],0,[]⟩
abbrev akx(K:List Kt)(Z:BQ):Prop:=∀v0 o0 o1 r4 c4,c4=r4.length->run (sS n) K (SH v0 o0 o1 r4 c4)=Z v0 o0 o1 r4
def vS:LB (akw n) [0,1,0,1,1,1,1] [.pF 2,.cut [1,1,1,1,1],.at [1,1,1,1,1]]:=mB
def vT:Nat->BQ:=sR ((vS n).1)
def EU{n:Nat}:vT n (m+1)=(vS n).1 (vT n m):=rfl
@[go_sem]def adZ(m:Nat):=ud (vS n) (vT n) m
def vU:LB (akx n) [0,1,0,1,1,1] [.pF 0,.cut [1,1,1,1],.at [1,1,1,1]]:=mB
def r9:Nat->BQ:=sR ((vU n).1)
def EV{n:Nat}:r9 n (m+1)=(vU n).1 (r9 n m):=rfl
@[go_sem]def ad0(m:Nat):=ud (vU n) (r9 n) m
def xc:IO (sS n) (kT j9.kr) (kT kE.kr) 104:=mB
def wV:=fu fun n=>(xc n).1
def aky:∀n:Nat,th gv 116 (kT j9.kr) (kT kE.kr) (LQ (kT jZ.kr) (li .i64)) (wV n):=vM fun n=>ug (xc n) (gdM jU (k7 (oQ (L4 n)) (k7 (oQ (ahg n)) jV))) func116 ntmps116 results116
open Go.Proofs
@[go_sem]def wW:sN:=⟨[],[],(zT (lz jS.row)::zT (tyF 67)::l8 (zA::zK::zK::l8 (l8 (zA::zA::[])))),[],none,none⟩
@[reducible] def xu:kL Int:=mU gv f74 n (lR gv [.tmp 4] (li .i64)) (cl:=lY [(67,nh (kT jS.kr) mh (abB n))]) (p4:=nR [([0,1,0,1],wW)])
@[go_sem]abbrev wX(v0:List jS)(v1 v2:Int):jT:=⟨(.kJ false 4 (mp jS.cells v0)::.func (.func 67) [] []::mc (qA::.int .i64 v1::.int .i64 v2::mc (mc (qA::qA::[])))),[],0,[]⟩
abbrev wY:=(List jS)->Int->Int->Option Int
abbrev EW(K:List Kt)(Z:wY):Prop:=∀v0 v1 v2,run (xu n) K (wX v0 v1 v2)=Z v0 v1 v2
def oJ:LB (EW n) [0,1,0,1] [.pF 0,.cut [1,1],.at [1,1]]:=mB
def oN:Nat->wY:=sR ((oJ n).1)
def vV{n:Nat}:oN n (m+1)=(oJ n).1 (oN n m):=rfl
@[go_sem]def Cr(m:Nat):=ud (oJ n) (oN n) m
def sJ:IO (xu n) (lz jS.row) (tyF 67) 19:=mB
def tA:=fu fun n=>(sJ n).1
def EX:∀n:Nat,th gv 74 (lz jS.row) (tyF 67) (li .i64) (tA n):=vM fun n=>ug (sJ n) (gd (jR (lA (ar8 n)) jU) jV) func74 ntmps74 results74
@[go_sem]def aht:sN:=⟨[],[],(zA::zA::zK::zK::zK::zK::zA::zA::zA::zK::ux (lH (lH (l8 [])))),[oT j7.kr,oT lh.kr],none,none⟩
@[reducible] def Yh(X:j7->lh->Int->Int->Option Int)(n:Nat):kL Int:=mU gv f290 n (lR gv [.tmp 8] (li .i64)) (cl:=lY [(24,nr (lz ky.row) lW (LQ (kT Entry.kr) (li .i64)) (QH n)),(287,nh (kT jX.kr) mh (X9 n)),(289,apl (kT j7.kr) (kT jX.kr) (li .i64) (li .i64) (li .i64) (Jd n)),(307,nr (kT lh.kr) (kT lh.kr) mh (yt n))]) (cd:=yA [(290,oV (apl (kT j7.kr) (kT lh.kr) (li .i64) (li .i64) (li .i64) X)),(308,oV (nr (kT ky.kr) (li .i64) (li .i64) (We n)))]) (p4:=nR [([0,1,0,1,1,1,1,1],aht)]) (tI:=lS []) (tX:=lS [])
@[go_sem]def awu(X:j7->lh->Int->Int->Option Int)(n:Nat):qY (Yh X n) [0,1,1,1,1,0,0,1,0,0,1,0,1,1,1,1,1]=true:=jO
@[go_sem]abbrev ahu(v0 v1 v2:Int)(o0:j7)(o1:lh):jT:=⟨(qA::qA::.int .i64 v0::.int .i64 v1::.ptr 0 0::.ptr 1 0::qA::qA::qA::.int .i64 v2::uw (lM (lM (mc [])))),[.cells (j7.cells o0),.cells (lh.cells o1)],0,[]⟩
abbrev ahv:=Int->Int->Int->j7->lh->Option Int
abbrev aue(X:j7->lh->Int->Int->Option Int)(n:Nat)(K:List Kt)(Z:ahv):Prop:=∀v0 v1 v2 o0 o1,run (Yh X n) K (ahu v0 v1 v2 o0 o1)=Z v0 v1 v2 o0 o1
def FB(X:j7->lh->Int->Int->Option Int)(n:Nat):LB (aue X n) [0,1,0,1,1,1,1,1] [.pF 1,.cut [1,1,1,1,1,1],.at [1,1,1,1,1,1]]:=mB
def FC(X:j7->lh->Int->Int->Option Int)(n:Nat):Nat->ahv:=sR ((FB X n).1)
def aad(X:j7->lh->Int->Int->Option Int){n:Nat}:FC X n (m+1)=(FB X n).1 (FC X n m):=rfl
@[go_sem]def aoA(X:j7->lh->Int->Int->Option Int)(n:Nat)(m:Nat):=ud (FB X n) (FC X n) m
def Yi(X:j7->lh->Int->Int->Option Int)(n:Nat):SC4 (Yh X n) (kT j7.kr) (kT lh.kr) (li .i64) (li .i64) 110:=mB
def BR:Nat->j7->lh->Int->Int->Option Int
 |0,_,_,_,_=>none
 |n+1,a0,a1,a2,a3=>(Yi (BR n) n).1 a0 a1 a2 a3
def ahw:∀n:Nat,aDy gv 290 (kT j7.kr) (kT lh.kr) (li .i64) (li .i64) (li .i64) (BR n)
 |0=>fun _ _ _ _ _ h=>(by cases h)
 |n+1=>by
  have auf:=ahw n;exact aKG (Yi (BR n) n) (gd (jR (lj (abh n)) (jR (lA (anl n)) (jR (apn (UL n)) (jR (lj (Z8 n)) jU)))) (k7 (apo (auf)) (k7 (oQ (atF n)) jV))) func290 ntmps290 results290
@[reducible] def Wq:kL Bool:=mU gv f168 n (lR gv [.tmp 4] mh) (cl:=lY [(12,nr lW lW mh (strings_Contains n)),(126,nr (lz kW) lW mh (qP n))])
def Aa:IO (Wq n) (lz kW) lW 13:=mB
def qL:=fu fun n=>(Aa n).1
def vk:∀n:Nat,th gv 168 (lz kW) lW mh (qL n):=vM fun n=>ug (Aa n) (gd (jR (lj (Cx n)) (jR (lj (xw n)) jU)) jV) func168 ntmps168 results168
@[reducible] def ar9:kL Bool:=mU gv f221 n (lR gv [.tmp 4] mh) (cl:=lY [(262,wy (qk n))]) (cut:=MJ [([1,1],[1])])
def QX:IO (ar9 n) (kT kI.kr) lW 9:=mB
def A3:=fu fun n=>(QX n).1
def Ox:∀n:Nat,th gv 221 (kT kI.kr) lW mh (A3 n):=vM fun n=>ug (QX n) (gd (jR (mY (DD n)) jU) jV) func221 ntmps221 results221
@[go_sem]def aae:sN:=⟨[],[],(zA::zK::lH (lH (l8 (l8 (zA::zA::zA::zT (lz kW)::zK::zK::lH (lH (l8 (l8 (zA::zA::[]))))))))),[oT jS.kr],none,none⟩
@[go_sem]def aaf:sN:=⟨[],[],(zA::zK::zA::zK::l8 (l8 (l8 (zA::zA::zA::zT (lz kW)::zK::zK::ux (l8 []))))),[oT jS.kr],none,none⟩
@[reducible] def QY:kL Int:=mU gv f76 n (lR gv [.tmp 2] (li .i64)) (cl:=lY [(78,nh (kT jS.kr) mh (FS n)),(139,nh lW mh (afS n)),(140,nh (kT jS.kr) mh (C6 n)),(141,nh lW mh (Wx n))]) (p4:=nR [([0,1,0,1,1,1,1,1],aae),([0,1,0,1,1,1],aaf)])
@[go_sem]abbrev aag(v0:List kp)(v1 v2:Int)(o0:jS):jT:=⟨(qA::.ptr 0 0::lM (lM (mc (mc (qA::qA::qA::.kJ false 1 (mp kS v0)::.int .i64 v1::.int .i64 v2::lM (lM (mc (mc (qA::qA::[]))))))))),[.cells (jS.cells o0)],0,[]⟩
abbrev aah:=(List kp)->Int->Int->jS->Option Int
abbrev aqv(K:List Kt)(Z:aah):Prop:=∀v0 v1 v2 o0,run (QY n) K (aag v0 v1 v2 o0)=Z v0 v1 v2 o0
@[go_sem]abbrev aai(v0:Int)(v1:List kp)(v2 v3:Int)(o0:jS):jT:=⟨(qA::.ptr 0 0::qA::.int .i64 v0::mc (mc (mc (qA::qA::qA::.kJ false 1 (mp kS v1)::.int .i64 v2::.int .i64 v3::uw (mc []))))),[.cells (jS.cells o0)],0,[]⟩
abbrev aaj:=Int->(List kp)->Int->Int->jS->Option Int
abbrev aqw(K:List Kt)(Z:aaj):Prop:=∀v0 v1 v2 v3 o0,run (QY n) K (aai v0 v1 v2 v3 o0)=Z v0 v1 v2 v3 o0
def Oy:LB (aqv n) [0,1,0,1,1,1,1,1] [.pF 2,.cut [1,1,1,1,1,1],.at [1,1,1,1,1,1]]:=mB
def Oz:Nat->aah:=sR ((Oy n).1)
def aEd{n:Nat}:Oz n (m+1)=(Oy n).1 (Oz n m):=rfl
@[go_sem]def akz(m:Nat):=ud (Oy n) (Oz n) m
def OA:LB (aqw n) [0,1,0,1,1,1] [.pF 0,.cut [1,1,1,1],.at [1,1,1,1]]:=mB
def OB:Nat->aaj:=sR ((OA n).1)
def aEe{n:Nat}:OB n (m+1)=(OA n).1 (OB n m):=rfl
@[go_sem]def akA(m:Nat):=ud (OA n) (OB n) m
def ad1:IT (QY n) (kT jS.kr) 90:=mB
def akB:=fu fun n=>(ad1 n).1
def aqx:∀n:Nat,tL gv 76 (kT jS.kr) (li .i64) (akB n):=vD fun n=>uy (ad1 n) (gd (jR (lA (C5 n)) (jR (lA (ahs n)) (jR (lA (Bx n)) (jR (lA (afu n)) jU)))) jV) func76 ntmps76 results76
def ann:sN:=⟨[(15,3,true)],[],(zK::l8 (zA::zA::zK::l8 (zA::zA::zK::zK::ux (lH (lH (lH [])))))),[oK,oK,oK,oC [zK,zK,zK,zK,zK],oC [zK,zK,zK,zK],oA lD.row],none,none⟩
def ano:sN:=⟨[],[],(zK::l8 (zA::zA::zK::lH (lH (zA::zA::zT (lz aDb)::zK::zK::zA::zA::zA::zT (lz kW)::zK::zK::ux (l8 (l8 (l8 (zA::[])))))))),[oK,oK,oK,oC [zK,zK,zK,zK,zK]],none,none⟩
def anp:sN:=⟨[],[],(zK::l8 (zA::zA::zK::lH (lH (zA::zA::zT (lz aDb)::zK::zK::ux (lH (zA::zA::zA::[])))))),[oK,oK,oK,oC [zK,zK,zK,zK,zK]],none,none⟩
def anq:sN:=⟨[],[],(zK::zT (lz kW)::l8 (zA::zK::lH (zA::zT (lz kW)::zK::zK::ux (lH (lH (l8 [])))))),[oK,oK,oK,oC [zK,zK,zK,zK,zK]],none,none⟩
@[reducible] def EY:kL TS:=mU gv f147 n (lR gv [.tmp 4,.tmp 5,.tmp 6] (ty3 (lz lD.row) (li .i64) (li .i64))) (cl:=lY [(139,nh lW mh (afS n)),(193,nh (li .u8) (li .i64) (LW n)),(195,aCG (lz kW) (ajN n)),(199,QT (Ii n)),(200,wK (RL n)),(201,wK (XQ n)),(202,wK (Sp n)),(203,wK (Sx n)),(204,Sv (Ya n))]) (p4:=nR [([0,1,0,1,1,1,1,1,1,1],ann),([0,1,1,0,0,1,1,0,0,1,0,1,1,1],ano),([0,1,0,1,1,1],anp),([0,1,0,1,1],anq)]) (tI:=lS []) (tX:=lS [])
def aAN:qY (EY n) [0,1,1,0,0,1,0,0,1,0,1,1,1,1,1,1,1]=true:=jO
def aAO:avI (EY n) [0,1,1,0,0,1,0,0,1,0,1,1,1,1,1,1,1] 6 15 8 15 12 15:=⟨jO,jO,jO⟩
attribute [go_sem] aAN aAO ann ano anp anq
abbrev anr(v0:kp)(r0 r1 r2:List (kp×Bool))(v4:kp)(v5:Int)(r5:List lD)(c5:Nat):jT:=⟨(.str (sb v0)::mc (qA::qA::.ptr 3 0::mc (qA::qA::.ptr 4 0::.lV 5 c5::uw (lM (lM (lM [])))))),[.map (mp Hq r0),.map (mp Hq r1),.map (mp Hq r2),.cells [.str (sb v4),.int .i64 v5,.map 0,.map 1,.map 2],.cells [.func (.func 200) [.ptr 3 0] [],.func (.func 201) [.ptr 3 0] [],.func (.func 202) [.ptr 3 0] [],.func (.func 203) [.ptr 3 0] []],.lV true 3 (mp lD.cells r5)],0,[]⟩
abbrev ant:List Kt:=[.pF 6,.cut [1,1,1,1,1,1,1,1],.at [1,1,1,1,1,1,1,1]]
abbrev anu:=kp->Ta->Ta->Ta->kp->Int->(List lD)->Option TS
abbrev ax1(K:List Kt)(Z:anu):Prop:=∀v0 r0 r1 r2 v4 v5 r5 c5,c5=r5.length->run (EY n) K (anr v0 r0 r1 r2 v4 v5 r5 c5)=Z v0 r0 r1 r2 v4 v5 r5
abbrev anv(v0:kp)(v1:List (List kp))(v2 v3:Int)(v4:List kp)(v5 v6:Int)(r0 r1 r2:List (kp×Bool))(v10:kp):jT:=⟨(.str (sb v0)::mc (qA::qA::.ptr 3 0::lM (lM (qA::qA::.kJ false 1 (mp aiO v1)::.int .i64 v2::.int .i64 v3::qA::qA::qA::.kJ false 1 (mp kS v4)::.int .i64 v5::.int .i64 v6::uw (mc (mc (mc (qA::[])))))))),[.map (mp Hq r0),.map (mp Hq r1),.map (mp Hq r2),.cells [.str (sb v10),.int .i64 0,.map 0,.map 1,.map 2]],0,[]⟩
abbrev anw(m3:Nat):List Kt:=[.pF 4,.pF 3,.cut [1,1,1,0,0,1,0,1,1,1],.at [1,1,1,0,0,1,0,1,1,1],.lp m3 [0,1,0,1,1,1],.pF 2,.cut [1,1,1,1],.at [1,1,1,1]]
abbrev anx:=kp->(List (List kp))->Int->Int->(List kp)->Int->Int->Ta->Ta->Ta->kp->Option TS
abbrev ax2(K:List Kt)(Z:anx):Prop:=∀v0 v1 v2 v3 v4 v5 v6 r0 r1 r2 v10,run (EY n) K (anv v0 v1 v2 v3 v4 v5 v6 r0 r1 r2 v10)=Z v0 v1 v2 v3 v4 v5 v6 r0 r1 r2 v10
abbrev anz(v0:kp)(v1:List (List kp))(v2 v3:Int)(r0 r1 r2:List (kp×Bool))(v7:kp):jT:=⟨(.str (sb v0)::mc (qA::qA::.ptr 3 0::lM (lM (qA::qA::.kJ false 1 (mp aiO v1)::.int .i64 v2::.int .i64 v3::uw (lM (qA::qA::qA::[])))))),[.map (mp Hq r0),.map (mp Hq r1),.map (mp Hq r2),.cells [.str (sb v7),.int .i64 0,.map 0,.map 1,.map 2]],0,[]⟩
abbrev Rj:=kp->(List (List kp))->Int->Int->Ta->Ta->Ta->kp->Option TS
abbrev abD(K:List Kt)(Z:Rj):Prop:=∀v0 v1 v2 v3 r0 r1 r2 v7,run (EY n) K (anz v0 v1 v2 v3 r0 r1 r2 v7)=Z v0 v1 v2 v3 r0 r1 r2 v7
abbrev anA(v0:kp)(v1 v2:List kp)(v3 v4:Int)(r0 r1 r2:List (kp×Bool))(v8:kp):jT:=⟨(.str (sb v0)::.kJ false 1 (mp kS v1)::mc (qA::.ptr 3 0::lM (qA::.kJ false 1 (mp kS v2)::.int .i64 v3::.int .i64 v4::uw (lM (lM (mc [])))))),[.map (mp Hq r0),.map (mp Hq r1),.map (mp Hq r2),.cells [.str (sb v8),.int .i64 0,.map 0,.map 1,.map 2]],0,[]⟩
abbrev anB:=kp->(List kp)->(List kp)->Int->Int->Ta->Ta->Ta->kp->Option TS
abbrev ax3(K:List Kt)(Z:anB):Prop:=∀v0 v1 v2 v3 v4 r0 r1 r2 v8,run (EY n) K (anA v0 v1 v2 v3 v4 r0 r1 r2 v8)=Z v0 v1 v2 v3 v4 r0 r1 r2 v8
attribute [go_sem] anr ant anv anw anz anA
def abE:LB (ax1 n) [0,1,0,1,1,1,1,1,1,1] ant:=mB
def abF:Nat->anu:=sR ((abE n).1)
def aIP{n:Nat}:abF n (m+1)=(abE n).1 (abF n m):=rfl
@[go_sem]def ad2(m:Nat):=ud (abE n) (abF n) m
def abG:LB2 (abD n) [0,1,0,1,1,1] [.pF 2,.cut [1,1,1,1],.at [1,1,1,1]] (ax2 n) [0,1,1,0,0,1,1,0,0,1,0,1,1,1] anw:=mB
def abH(X3:Rj):Nat->anx:=sR ((abG n).1 X3)
def aIQ{n:Nat}(X3:Rj):abH n X3 (m+1)=(abG n).1 X3 (abH n X3 m):=rfl
def asa{m3:Nat}{X3}(h3:abD n (.lq m3 [0,1,0,1,1,1]::[.pF 2,.cut [1,1,1,1],.at [1,1,1,1]]) X3)(m:Nat):=aDx (abG n) h3 (abH n X3) m
def abI:LB (abD n) [0,1,0,1,1,1] [.pF 2,.cut [1,1,1,1],.at [1,1,1,1]]:=by
 apply Subtype.mk;intro m X0 ih v0 v1 v2 v3 r0 r1 r2 v7;simp (config:={maxSteps:=100000000}) only[go_sem,gz,gA,gw,gx,gB,gC,gF,gG,gH,gy,gD,gI,f147,gE,mixed,ad2 n,asa n ih,ih];exact rfl
def abJ:Nat->Rj:=sR ((abI n).1)
def aIR{n:Nat}:abJ n (m+1)=(abI n).1 (abJ n m):=rfl
@[go_sem]def asb(m:Nat):=ud (abI n) (abJ n) m
def abK:LB (ax3 n) [0,1,0,1,1] [.pF 0,.cut [1,1,1],.at [1,1,1]]:=mB
def abL:Nat->anB:=sR ((abK n).1)
def aIS{n:Nat}:abL n (m+1)=(abK n).1 (abL n m):=rfl
@[go_sem]def asc(m:Nat):=ud (abK n) (abL n) m
def aqy:IO (EY n) lW (lz kW) 128:=mB
def awv:=fu fun n=>(aqy n).1
def ax4:∀n:Nat,th gv 147 lW (lz kW) (ty3 (lz lD.row) (li .i64) (li .i64)) (awv n):=vM fun n=>ug (aqy n) (gd (jR (lA (ahs n)) (jR (lA (HK n)) (jR (apm (ajO n)) (jR (mY (Z2 n)) (jR (mY (acS n)) (jR (mY (ahZ n)) (jR (mY (adA n)) (jR (mY (adV n)) (jR (mY (ah2 n)) jU))))))))) jV) func147 ntmps147 results147
open Go.Proofs
@[go_sem]abbrev uQ(F:jQ->Option TD)(b:T6)(a:Unit):=F b.1.1
@[go_sem]def PZ(F:jQ->Option TD):=xE true [.arg 0 []] jP (l5 0 kM) jP (l1 (lz j8.row) kM) jP j3 (uQ F)
@[go_sem]def nW:=(l5 0 (alF 339 (vlP 1 (vlP 2 vlN)) kM))
@[go_sem]def kY:=(tg (Bl (VX jQ.kr 6 kM)) (tg (Bl (alA 3 kM)) (tg (Bl (l5 0 kM)) (tg (ogA false j8.row) Bi))))
@[go_sem]abbrev n5(F:jQ->(List j8)->Option Tm)(b:(Te×(Unit×(Unit×((List j8)×Unit)))))(a:(Unit×Unit)):=F b.1.1 b.2.2.2.1
@[go_sem]def vW(F:jQ->(List j8)->Option Tm):=xE true [.arg 0 [],.arg 1 [0],.arg 1 [1],.vC 1 0 []] kY nW kY kM kY j3 (n5 F)
@[go_sem]def nf:=(tg (Bl (alA 2 kM)) (tg (Bl (l5 3 kM)) (tg (ogA false j8.row) (tg (Bl (VX jQ.kr 6 kM)) Bi))))
@[go_sem]abbrev vX(F:(List j8)->jQ->Option Ts)(b:(Unit×(Unit×((List j8)×T6))))(a:Unit):=F b.2.2.1 b.2.2.2.1.1
@[go_sem]def Ms(F:(List j8)->jQ->Option Ts):=xE true [.arg 0 [],.arg 1 [],.vC 0 0 [],.vC 1 0 []] nf (l5 0 (l5 1 kM)) nf kM nf j3 (vX F)
structure lG where
 rD:jQ->Option TD
 mj:jQ->(List j8)->Option Tm
 rq:(List j8)->jQ->Option Ts
open Go.Proofs
def OC:sN:=⟨[],[],(zA::zA::zA::zK::zK::zK::ux (lH (lH (l8 (l8 (zA::zA::zK::zK::lH (l8 (zA::zA::[])))))))),[oT jQ.kr,oD,oC [zK],oA j8.row],none,none⟩
@[reducible] def rz(X:lG)(n:Nat):kL TD:=mU gv f335 n (qM gv [.tmp 2] [] [0] 1 jP (l1 (lz j8.row) kM)) (cl:=lY [(84,D5 (oV (nh (uO jQ.kr) (li .i64) (vG n)))),(88,zh [0] (tY (AA jQ.kr) rW) (YH 0 Ho) (tY (AA jQ.kr) rW) (Ui lW Fj) (fun(b:Te) a=>(ni n) b.1)),(94,D5 (oV (nh (uO jQ.kr) (kT lD.kr) (ny n)))),(153,zh [0] (tY (AA jQ.kr) rW) (YH 0 (asT lW Ho)) (tY (AA jQ.kr) rW) (Ui mh Fj) (fun(b:Te) a=>(nP n) b.1 a.1))]) (p4:=nR [([0,1,0,1,1,1,1,1,1],OC)]) (cut:=asK [([1,0,1,0,1,1,1],[3]),([1,1,1,1,1,1,1,1],[3])] [([1,1,0,1,1,1,0,0,1,1],2,0,2,false)]) (q6:=qN [] [0] 1 jP j3) (co:=VZ [(85,agF (oV (Qw (uO jQ.kr) (li .i64) lW mh (An n))))]) (cp:=AC [(151,pG (ql n)),(327,zZ (BP n)),(330,vW X.mj),(340,ow (Cc n))]) (wD:=lS [151,327,330,340]) (tI:=lS [85]) (tX:=lS [])
def ah3(X:lG)(n:Nat):qY (rz X n) [0,1,1,0,0,1,1]=true:=jO
def ah4(X:lG)(n:Nat):vL (rz X n) [0,1,1,0,0,1,1] 0 3 3 5 3 9 3 11/\vL (rz X n) [0,1,1,0,0,1,1] 3 15 3 16 3 20 3 24/\vL (rz X n) [0,1,1,0,0,1,1] 3 25 3 29 3 31 3 33/\vL (rz X n) [0,1,1,0,0,1,1] 3 37 3 41 3 42 3 46/\axu (rz X n) [0,1,1,0,0,1,1] 3 48 3 50:=⟨⟨jO,jO,jO,jO⟩,⟨jO,jO,jO,jO⟩,⟨jO,jO,jO,jO⟩,⟨jO,jO,jO,jO⟩,jO,jO⟩
attribute [go_sem] ah3 ah4 OC
@[go_sem]abbrev OD(v0 v1 v2 v3:Int)(o0:jQ)(r3:List j8)(c3:Nat):jT:=⟨(qA::qA::qA::.ptr 2 0::.int .i64 v0::.int .i64 v1::uw (lM (lM (mc (mc (qA::qA::.int .i64 v2::.int .i64 v3::lM (mc (qA::qA::[])))))))),[.cells (jQ.cells o0),.vz,.cells [.lV 3 c3],.lV false 2 (mp j8.cells r3)],1,[]⟩
@[go_sem]abbrev OE:List Kt:=[.pF 1,.cut [1,1,1,1,1,1,1],.at [1,1,1,1,1,1,1]]
abbrev OF:=Int->Int->Int->Int->jQ->(List j8)->Option TD
abbrev afY(X:lG)(n:Nat)(K:List Kt)(Z:OF):Prop:=∀v0 v1 v2 v3 o0 r3 c3,c3=r3.length->run (rz X n) K (OD v0 v1 v2 v3 o0 r3 c3)=Z v0 v1 v2 v3 o0 r3
def EZ(X:lG)(n:Nat):LB (afY X n) [0,1,0,1,1,1,1,1,1] OE:=mB2
def E0(X:lG)(n:Nat):Nat->OF:=sR ((EZ X n).1)
def ax5(X:lG){n:Nat}:E0 X n (m+1)=(EZ X n).1 (E0 X n m):=rfl
@[go_sem]def aSW(X:lG)(n:Nat)(m:Nat):=ud (EZ X n) (E0 X n) m
def Gh(X:lG)(n:Nat):SX (rz X n) (l5 0 kM) jP 136 uQ:=mC2
open Go.Proofs
@[go_sem]def vm:sN:=⟨[],[],(zK::zK::zA::zA::zK::l8 (l8 (zA::zA::[]))),[oT jQ.kr,oC [zK],oC [zK],oA j8.row],none,none⟩
@[reducible] def vY(X:lG)(n:Nat):kL Tm:=mU gv f330 n (qM gv [] [] [0,1,2,3] 4 kY kM) (cl:=lY [(153,zh [0] (tY (AA jQ.kr) rW) (YH 0 (asT lW Ho)) (tY (AA jQ.kr) rW) (Ui mh Fj) (fun(b:Te) a=>(nP n) b.1 a.1))]) (p4:=nR [([0,1],vm)]) (q6:=qN [] [0,1,2,3] 4 kY j3) (cp:=AC [(82,mi (nX n)),(339,Ms X.rq)]) (wD:=lS [82,339])
@[go_sem]abbrev vn(v0:Int)(o0:jQ)(r3:List j8)(c3:Nat):jT:=⟨(.ptr 0 0::.func (.func 339) [] [.ptr 1 0,.ptr 2 0]::qA::qA::.int .i64 v0::mc (mc (qA::qA::[]))),[.cells (jQ.cells o0),.cells [.lV 3 c3],.cells [.ptr 0 0],.lV false 2 (mp j8.cells r3)],4,[]⟩
abbrev vo:=Int->jQ->(List j8)->Option Tm
abbrev Cs(X:lG)(n:Nat)(K:List Kt)(Z:vo):Prop:=∀v0 o0 r3 c3,c3=r3.length->run (vY X n) K (vn v0 o0 r3 c3)=Z v0 o0 r3
def q9(X:lG)(n:Nat):LB (Cs X n) [0,1] [.pF 0]:=mB2
def ri(X:lG)(n:Nat):Nat->vo:=sR ((q9 X n).1)
def aak(X:lG){n:Nat}:ri X n (m+1)=(q9 X n).1 (ri X n m):=rfl
@[go_sem]def Bq(X:lG)(n:Nat)(m:Nat):=ud (q9 X n) (ri X n) m
def rJ(X:lG)(n:Nat):SX (vY X n) nW kY 15 n5:=mC2
open Go.Proofs
@[reducible] def rK(X:lG)(n:Nat):kL Ts:=mU gv f339 n (qM gv [] [] [0,1,2,3] 4 nf kM) (q6:=qN [] [0,1,2,3] 4 nf j3) (co:=VZ [(335,Jl [.arg 0 []] jP (l5 0 kM) jP (l1 (lz j8.row) kM) jP j3 (uQ X.rD))]) (tI:=lS [335]) (tX:=lS [])
def ad3(X:lG)(n:Nat):qY (rK X n) []=true:=jO
def ad4(X:lG)(n:Nat):vL (rK X n) [] 1 2 0 3 1 3 2 3/\vL (rK X n) [] 0 4 1 4 2 4 3 4:=⟨⟨jO,jO,jO,jO⟩,jO,jO,jO,jO⟩
def ad5(X:lG)(n:Nat):Pj (rK X n) [] 2 3=true/\Pj (rK X n) [] 2 4=true/\aaE (rK X n) [] 2=false:=⟨jO,jO,jO⟩
attribute [go_sem] ad3 ad4 ad5
def DF(X:lG)(n:Nat):SX (rK X n) (l5 0 (l5 1 kM)) nf 6 vX:=mC2
open Go.Proofs
def l6:Nat->lG
 |0=>⟨Fu.z,Fu.z,Fu.z⟩
 |n+1=>⟨(Gh (l6 n) n).1,(rJ (l6 n) n).1,(DF (l6 n) n).1⟩
def rD:jQ->Option TD:=(l6 n).rD
def aBm{n:Nat}:rD (n+1)=(Gh (l6 n) n).1:=rfl
def mj:jQ->(List j8)->Option Tm:=(l6 n).mj
def ad6{n:Nat}:mj (n+1)=(rJ (l6 n) n).1:=rfl
def rq:(List j8)->jQ->Option Ts:=(l6 n).rq
def azc{n:Nat}:rq (n+1)=(DF (l6 n) n).1:=rfl
def aAP{n:Nat}:(l6 n).rD=rD n/\(l6 n).mj=mj n/\(l6 n).rq=rq n:=⟨rfl,rfl,rfl⟩
def yT:∀n:Nat,tG gv 335 (l5 0 kM) jP true jP (l1 (lz j8.row) kM) jP j3 (uQ (l6 n).rD)/\tG gv 330 nW kY true kY kM kY j3 (n5 (l6 n).mj)/\tG gv 339 (l5 0 (l5 1 kM)) nf true nf kM nf j3 (vX (l6 n).rq)
 |0=>⟨fun _ _ _ h=>(by cases h),fun _ _ _ h=>(by cases h),fun _ _ _ h=>(by cases h)⟩
 |n+1=>by
  obtain⟨afZ,Ct,abM⟩:=yT n
  exact⟨Et (Gh (l6 n) n) (gdM (jR (qp (nk (uP n))) (jR (oZ (fun b a r h=>(mA n) b.1 r h)) (jR (qp (nk (mP n))) (jR (oZ (fun b a r h=>(nv n) b.1 a.1 r h)) jU)))) jV (p:=(kz (lc (pS n)) (kz (lc (DE n)) (kz (lc (Ct)) (kz (lc (GZ n)) l7))))) (c:=(nS (Rz (MW (zr n))) tK))) func335 ntmps335 results335,
   Et (rJ (l6 n) n) (gd (jR (oZ (fun b a r h=>(nv n) b.1 a.1 r h)) jU) jV (p:=(kz (lc (nH n)) (kz (lc (abM)) l7)))) func330 ntmps330 results330,
   Et (DF (l6 n) n) (gd jU jV (c:=(nS (AB (afZ)) tK))) func339 ntmps339 results339⟩
def af0:tG gv 335 (l5 0 kM) jP true jP (l1 (lz j8.row) kM) jP j3 (uQ (rD n)):=(yT n).1
def acf:tG gv 330 nW kY true kY kM kY j3 (n5 (mj n)):=(yT n).2.1
def ax6:tG gv 339 (l5 0 (l5 1 kM)) nf true nf kM nf j3 (vX (rq n)):=(yT n).2.2
open Go.Proofs
@[go_sem]def Ip:sN:=⟨[],[],(zK::zA::zA::zK::l8 (l8 (l8 (zA::zA::zA::[])))),[oT jQ.kr,oA kW],none,none⟩
@[go_sem]def G1:sN:=⟨[],[],(zK::zA::zA::zL kW::l8 (l8 (l8 (zA::zA::zA::[])))),[oT jQ.kr],(some 3),none⟩
@[go_sem]abbrev xA(F:jQ->Option TP)(b:T6)(a:Unit):=F b.1.1
@[go_sem]def JA(F:jQ->Option TP):=xE true [.arg 0 []] jP (l5 0 kM) jP (l1 (lz kW) kM) jP j3 (xA F)
@[reducible] def xB:kL TP:=mU gv f352 n (qM gv [.tmp 2] [] [0] 1 jP (l1 (lz kW) kM)) (cl:=lY [(88,zh [0] (tY (AA jQ.kr) rW) (YH 0 Ho) (tY (AA jQ.kr) rW) (Ui lW Fj) (fun(b:Te) a=>(ni n) b.1)),(154,D5 (oV (nh (uO jQ.kr) mh (yg n))))]) (p4:=nR [([0,0,1,1],G1),([0,0,1,1],Ip)]) (q6:=qN [] [0] 1 jP j3) (cp:=AC [(82,mi (nX n)),(149,ow (um n))]) (wD:=lS [82,149])
@[go_sem]abbrev Iq(o0:jQ)(r1:List kp)(c1:Nat):jT:=⟨(.ptr 0 0::qA::qA::.lV 1 c1::mc (mc (mc (qA::qA::qA::[])))),[.cells (jQ.cells o0),.lV true 1 (mp kS r1)],1,[]⟩
abbrev Ir:=jQ->(List kp)->Option TP
abbrev Yj(K:List Kt)(Z:Ir):Prop:=∀o0 r1 c1,c1=r1.length->run (xB n) K (Iq o0 r1 c1)=Z o0 r1
def A4:LB (Yj n) [0,0,1,1] [.pF 0,.cut [1,1,1],.at [1,1,1]]:=by
 apply Subtype.mk;intro m X0 ih o0 r1 c1 ec1;subst ec1;simp (config:={maxSteps:=100000000}) only[go_sem,gz,gA,gw,gx,gB,gC,gF,gG,gH,gy,gD,gI,f352,gE,mixed,ih];exact rfl
def A5:Nat->Ir:=sR ((A4 n).1)
def aug{n:Nat}:A5 n (m+1)=(A4 n).1 (A5 n m):=rfl
def Ei(m:Nat):=ud (A4 n) (A5 n) m
def G2:{B:Nat->(List kp)->jQ->Option TP //∀(m:Nat)(v0:List kp)(o0:jQ),run (xB n) [.at [0,0,0,1,1],.lp m [0,0,1,1],.pF 0,.cut [1,1,1],.at [1,1,1]] ⟨[.ptr 0 0,qA,qA,.kJ true 1 (mp kS v0),qA,qA,qA,qA,qA,qA,qA,qA,qA,qA,qA,qA,qA,qA,qA],[.cells (jQ.cells o0)],1,[]⟩=B m v0 o0}:=by
 apply Subtype.mk;intro m v0 o0;simp (config:={maxSteps:=100000000}) only[go_sem,gz,gA,gw,gx,gB,gC,gF,gG,gH,gy,gD,gI,f352,gE,mixed,Ei n];exact rfl
def Yk:Nat->(List kp)->jQ->Option TP
 |0,_,_=>none
 |m+1,v0,o0=>(G2 n).1 m v0 o0
def SI:∀(m:Nat),(∀(v0:List kp)(o0:jQ),run (xB n) [.lq m [0,0,1,1],.pF 0,.cut [1,1,1],.at [1,1,1]] ⟨[.ptr 0 0,qA,qA,.kJ true 1 (mp kS v0),qA,qA,qA,qA,qA,qA,qA,qA,qA,qA,qA,qA,qA,qA,qA],[.cells (jQ.cells o0)],1,[]⟩=Yk n m v0 o0)
 |0=>by intros;exact LO
 |m+1=>by
  intro v0 o0;rw[Ec];exact(G2 n).2 m v0 o0
def JB:SX (xB n) (l5 0 kM) jP 19 xA:=by
 apply Subtype.mk
 repeat (first|refine Prod.forall.2 ?_|intro)
 simp (config:={maxSteps:=100000000}) only[go_sem,gz,gA,gw,gx,gB,gC,gF,gG,gH,gy,gD,gI,f352,gE,mixed,Ei n,SI n];exact rfl
def Mt:=fu fun n=>(JB n).1
def Yl:∀n:Nat,tG gv 352 (l5 0 kM) jP true jP (l1 (lz kW) kM) jP j3 (xA (Mt n)):=ae9 fun n=>Et (JB n) (gd (jR (oZ (fun b a r h=>(mA n) b.1 r h)) (jR (qp (nk (zX n))) jU)) jV (p:=(kz (lc (nH n)) (kz (lc (uC n)) l7)))) func352 ntmps352 results352
def VB:sN:=⟨[],[(5,5,8)],(zA::zA::zK::zK::zK::zA::zK::zA::zA::zA::zK::l8 (zA::zA::zK::ux (ux (ux (l8 (l8 (zA::zA::[]))))))),[oT j9.kr,oT jX.kr,oK,oD,oD,oC [zK,zK,zK,zK,zK,zK,zK,zK],oA jZ.row,oA Syntax.row],none,none⟩
def VC:sN:=⟨[],[(5,4,2)],(zA::zA::zK::zK::zK::zA::zK::zA::zA::zA::zK::zA::zA::zA::zK::ux (ux (ux (l8 (l8 (l8 (zA::[]))))))),[oT j9.kr,oT jX.kr,oK,oD,oD,oC [zK,zK,zK,zK,zK,zK,zK,zK],oA jZ.row],none,none⟩
@[reducible] def qm(X:j9->jX->Int->Option (Syntax×Int))(n:Nat):kL (Syntax×Int):=mU gv f58 n (lR gv [.cell 6 37,.tmp 7] (LQ (kT Syntax.kr) (li .i64))) (cl:=lY [(111,zh [] rW (asT (kT jX.kr) Ho) (tY (Uh true jX.row) rW) (Ui (kT jX.kr) (rsA 0 (fun(b:Tx)=>b.1.length) Fj)) (fun(b:Unit) a=>(ya n) a.1)),(112,Qw (kT j9.kr) (li .i64) (li .i64) (LQ lW (li .i64)) (vR n)),(113,nr (kT j9.kr) lW (li .i64) (BN n)),(114,nr (kT j9.kr) (li .i64) lW (BJ n)),(115,nr (kT jX.kr) (li .i64) mh (Wo n))]) (cd:=yA [(58,oV (Qw (kT j9.kr) (kT jX.kr) (li .i64) (LQ (kT Syntax.kr) (li .i64)) X)),(116,oV (nr (kT j9.kr) (kT kE.kr) (LQ (kT jZ.kr) (li .i64)) (wV n))),(117,oV (nr (li .i64) (li .i64) (li .i64) (Ed n)))]) (p4:=nR [([0,1,0,1,1,1,1,1],VB),([0,1,0,1,1,1,1],VC)]) (tI:=lS []) (tX:=lS [])
def aoB(X:j9->jX->Int->Option (Syntax×Int))(n:Nat):aF3 (qm X n) [0,0,0,1,0,0,1,0,1,1,1,1] [0,0,0,1,0,0,1,0,1,1,1,1,1] [0,1,1,0,1,0,1,1,1,1,1,1] [1,0,1,1,1,1,1,1,1,0,1,0,1,1,1]:=⟨jO,jO,jO,jO⟩
def aoC(X:j9->jX->Int->Option (Syntax×Int))(n:Nat):vL (qm X n) [0,0,0,1,0,0,1,0,1,1,1,1] 0 11 2 11 4 11 5 11/\MV (qm X n) [0,0,0,1,0,0,1,0,1,1,1,1] 10 11=true/\vL (qm X n) [0,0,0,1,0,0,1,0,1,1,1,1,1] 0 17 2 17 4 17 5 17/\axu (qm X n) [0,0,0,1,0,0,1,0,1,1,1,1,1] 8 17 16 17/\avI (qm X n) [0,1,1,0,1,0,1,1,1,1,1,1] 0 6 2 6 3 6/\vL (qm X n) [1,0,1,1,1,1,1,1,1,0,1,0,1,1,1] 1 5 3 5 1 7 3 7/\MV (qm X n) [1,0,1,1,1,1,1,1,1,0,1,0,1,1,1] 5 7=true:=⟨⟨jO,jO,jO,jO⟩,jO,⟨jO,jO,jO,jO⟩,⟨jO,jO⟩,⟨jO,jO,jO⟩,⟨jO,jO,jO,jO⟩,jO⟩
attribute [go_sem] aoB aoC VB VC
@[go_sem]abbrev VD(v0 v1:Int)(o0:j9)(o1:jX)(v4:Int)(v5:kp)(v6:Int)(r6:List jZ)(r7:List Syntax)(c6:Nat)(c7:Nat):jT:=⟨(qA::qA::.int .i64 v0::.ptr 0 0::.ptr 1 0::qA::.ptr 2 0::qA::qA::qA::.ptr 5 0::mc (qA::qA::.int .i64 v1::uw (uw (uw (mc (mc (qA::qA::[]))))))),[.cells (j9.cells o0),.cells (jX.cells o1),.cells [.int .i64 0,.str (sb []),.int .i64 0,.kJ true 0 [],.kJ true 0 [],.kJ true 0 [],.int .i64 0,.int .i64 0],.vz,.vz,.cells [.int .i64 v4,.str (sb v5),.int .i64 v6,.kJ true 0 [],.lV 6 c6,.lV 7 c7,.int .i64 0,.int .i64 0],.lV true 2 (mp jZ.cells r6),.lV true 8 (mp Syntax.cells r7)],0,[]⟩
abbrev VE:=Int->Int->j9->jX->Int->kp->Int->Tj->(List Syntax)->Option (Syntax×Int)
abbrev amt(X:j9->jX->Int->Option (Syntax×Int))(n:Nat)(K:List Kt)(Z:VE):Prop:=∀v0 v1 o0 o1 v4 v5 v6 r6 r7 c6 c7,c6=r6.length->c7=r7.length->run (qm X n) K (VD v0 v1 o0 o1 v4 v5 v6 r6 r7 c6 c7)=Z v0 v1 o0 o1 v4 v5 v6 r6 r7
@[go_sem]abbrev VF(v0 v1:Int)(o0:j9)(o1:jX)(v4:Int)(v5:kp)(v6:Int)(r6:List jZ)(c6:Nat):jT:=⟨(qA::qA::.int .i64 v0::.ptr 0 0::.ptr 1 0::qA::.ptr 2 0::qA::qA::qA::.ptr 5 0::qA::qA::qA::.int .i64 v1::uw (uw (uw (mc (mc (mc (qA::[]))))))),[.cells (j9.cells o0),.cells (jX.cells o1),.cells [.int .i64 0,.str (sb []),.int .i64 0,.kJ true 0 [],.kJ true 0 [],.kJ true 0 [],.int .i64 0,.int .i64 0],.vz,.vz,.cells [.int .i64 v4,.str (sb v5),.int .i64 v6,.kJ true 0 [],.lV 6 c6,.kJ true 0 [],.int .i64 0,.int .i64 0],.lV true 2 (mp jZ.cells r6)],0,[]⟩
abbrev VG:=Int->Int->j9->jX->Int->kp->Int->Tj->Option (Syntax×Int)
abbrev amu(X:j9->jX->Int->Option (Syntax×Int))(n:Nat)(K:List Kt)(Z:VG):Prop:=∀v0 v1 o0 o1 v4 v5 v6 r6 c6,c6=r6.length->run (qm X n) K (VF v0 v1 o0 o1 v4 v5 v6 r6 c6)=Z v0 v1 o0 o1 v4 v5 v6 r6
def xd(X:j9->jX->Int->Option (Syntax×Int))(n:Nat):LB (amt X n) [0,1,0,1,1,1,1,1] [.pF 3,.cut [1,1,1,1,1,1],.at [1,1,1,1,1,1]]:=mB
def xe(X:j9->jX->Int->Option (Syntax×Int))(n:Nat):Nat->VE:=sR ((xd X n).1)
def Gi(X:j9->jX->Int->Option (Syntax×Int)){n:Nat}:xe X n (m+1)=(xd X n).1 (xe X n m):=rfl
@[go_sem]def af1(X:j9->jX->Int->Option (Syntax×Int))(n:Nat)(m:Nat):=ud (xd X n) (xe X n) m
def zw(X:j9->jX->Int->Option (Syntax×Int))(n:Nat):LB (amu X n) [0,1,0,1,1,1,1] [.pF 1,.cut [1,1,1,1,1],.at [1,1,1,1,1]]:=mB
def uG(X:j9->jX->Int->Option (Syntax×Int))(n:Nat):Nat->VG:=sR ((zw X n).1)
def P0(X:j9->jX->Int->Option (Syntax×Int)){n:Nat}:uG X n (m+1)=(zw X n).1 (uG X n m):=rfl
@[go_sem]def af2(X:j9->jX->Int->Option (Syntax×Int))(n:Nat)(m:Nat):=ud (zw X n) (uG X n) m
def nj(X:j9->jX->Int->Option (Syntax×Int))(n:Nat):SC3 (qm X n) (kT j9.kr) (kT jX.kr) (li .i64) 220:=mB
def lE:Nat->j9->jX->Int->Option (Syntax×Int)
 |0,_,_,_=>none
 |n+1,a0,a1,a2=>(nj (lE n) n).1 a0 a1 a2
def VH:∀n:Nat,apD gv 58 (kT j9.kr) (kT jX.kr) (li .i64) (LQ (kT Syntax.kr) (li .i64)) (lE n)
 |0=>fun _ _ _ _ h=>(by cases h)
 |n+1=>by
  have amv:=VH n;exact avJ (nj (lE n) n) (gd (jR (oZ (fun b a r h=>(acW n) a.1 r h)) (jR (IS (adY n)) (jR (lj (adW n)) (jR (lj (Su n)) (jR (lj (at5 n)) jU))))) (k7 (MW (amv)) (k7 (oQ (aky n)) (k7 (oQ (WW n)) jV)))) func58 ntmps58 results58
open Go.Proofs
@[reducible] def DG:kL Bool:=mU gv f30 n (lR gv [.tmp 4] mh) (cl:=lY [(74,nr (lz jS.row) (tyF 67) (li .i64) (tA n))])
def rL:IO (DG n) (lz jS.row) (tyF 67) 9:=mB
def sx:=fu fun n=>(rL n).1
def Cu:∀n:Nat,th gv 30 (lz jS.row) (tyF 67) mh (sx n):=vM fun n=>ug (rL n) (gd (jR (lj (EX n)) jU) jV) func30 ntmps30 results30
def akC:sN:=⟨[],[],(zA::zA::zA::zK::zA::zK::l8 (zA::zK::ux (ux (lH (l8 (zA::[])))))),[oT ky.kr,oT j7.kr],none,none⟩
def akD:sN:=⟨[],[],(zA::zA::zA::zK::zA::zK::zA::zK::ux (ux (lH (l8 (l8 (zA::[])))))),[oT ky.kr,oT j7.kr],none,none⟩
def akE:sN:=⟨[],[],(zA::zA::zA::zK::zA::zK::l8 (l8 (zA::zK::ux (ux (lH (zA::[])))))),[oT ky.kr,oT j7.kr],none,none⟩
def akF:sN:=⟨[],[],(zA::zA::zA::zK::zA::zK::l8 (zA::zA::zA::zK::ux (ux (lH (zA::zA::zA::[]))))),[oT ky.kr,oC [zT (lz ky.row),zK,zK,zK,zK,zK,zK,zK,zT (lz kE.row),zT (lz jX.row),zK,zK,zK,zT (lz kE.row),zT (lz jX.row),zK,zT (lz mL.row),zK,zK,zK,zK,zT (lz kE.row),zT (lz jX.row),zT (lz jX.row),zT (lz qH.row)]],none,none⟩
@[reducible] def FV:kL Int:=mU gv f258 n (lR gv [.tmp 4] (li .i64)) (cl:=lY [(65,nh (kT ky.kr) (lz kW) (Hz n)),(289,apl (kT j7.kr) (kT jX.kr) (li .i64) (li .i64) (li .i64) (Jd n))]) (cd:=yA [(289,oV (apl (kT j7.kr) (kT jX.kr) (li .i64) (li .i64) (li .i64) (Jd n))),(290,oV (apl (kT j7.kr) (kT lh.kr) (li .i64) (li .i64) (li .i64) (BR n)))]) (p4:=nR [([0,1,1,1,1,1,1,1,0,1,1,1,0,1,0,1,1,1],akC),([0,1,0,1,0,1,1,1,0,1,0,1,1,1],akD),([0,1,1,1,0,1,1,1,1,1,0,1,0,1,1,1],akE),([0,1,0,0,1,1,1,1,1,0,1,0,1,1,1],akF)]) (tI:=lS []) (tX:=lS [])
def ax7:aF3 (FV n) [0,0,0,1,0,0,1,0,0,1,1,1,1,1,0,1,0,1,1,1] [0,0,0,1,0,0,1,0,1,0,1,1,1,0,1,0,1,1,1] [0,0,0,1,0,0,1,1,1,0,1,1,1,1,1,0,1,0,1,1,1] [0,0,0,1,0,0,1,1,1,1,1,1,1,0,1,1,1,0,1,0,1,1,1]:=⟨jO,jO,jO,jO⟩
attribute [go_sem] ax7 akC akD akE akF
abbrev akG(v0:Int)(o0:ky)(o1:j7):jT:=⟨(qA::qA::qA::.ptr 0 0::qA::.ptr 1 0::mc (qA::.int .i64 v0::uw (uw (lM (mc (qA::[])))))),[.cells (ky.cells o0),.cells (j7.cells o1)],0,[]⟩
abbrev DH:=Int->ky->j7->Option Int
abbrev aww(K:List Kt)(Z:DH):Prop:=∀v0 o0 o1,run (FV n) K (akG v0 o0 o1)=Z v0 o0 o1
abbrev akH(v0:Int)(o0:ky)(o1:j7):jT:=⟨(qA::qA::qA::.ptr 0 0::qA::.ptr 1 0::qA::.int .i64 v0::uw (uw (lM (mc (mc (qA::[])))))),[.cells (ky.cells o0),.cells (j7.cells o1)],0,[]⟩
abbrev akI:List Kt:=[.pF 1,.cut [1,1,0,1,1,1,0,1,0,1,1,1],.at [1,1,0,1,1,1,0,1,0,1,1,1],.pF 0,.cut [1,1,1,1],.at [1,1,1,1]]
abbrev awx(K:List Kt)(Z:DH):Prop:=∀v0 o0 o1,run (FV n) K (akH v0 o0 o1)=Z v0 o0 o1
abbrev akJ(v0:Int)(o0:ky)(o1:j7):jT:=⟨(qA::qA::qA::.ptr 0 0::qA::.ptr 1 0::mc (mc (qA::.int .i64 v0::uw (uw (lM (qA::[])))))),[.cells (ky.cells o0),.cells (j7.cells o1)],0,[]⟩
abbrev awy(K:List Kt)(Z:DH):Prop:=∀v0 o0 o1,run (FV n) K (akJ v0 o0 o1)=Z v0 o0 o1
abbrev akK(v0:Int)(o0:ky)(v2:List ky)(v3:Int)(v4:kp)(v5 v6 v7:Int)(v8:kp)(v9:List kE)(v10:List jX)(v11 v12:Int)(v13:kp)(v14:List kE)(v15:List jX)(v16:Int)(v17:List mL)(v18 v19 v20:Int)(v21:kp)(v22:List kE)(v23 v24:List jX)(v25:List qH):jT:=⟨(qA::qA::qA::.ptr 0 0::qA::.ptr 1 0::mc (qA::qA::qA::.int .i64 v0::uw (uw (lM (qA::qA::qA::[]))))),[.cells (ky.cells o0),.cells [.kJ false 23 (mp ky.cells v2),.kJ true 0 [],.int .i64 v3,.str (sb v4),.int .i64 v5,.int .i64 v6,.int .i64 v7,.str (sb v8),.kJ false 2 (mp kE.cells v9),.kJ false 5 (mp jX.cells v10),.int .i64 v11,.int .i64 v12,.str (sb v13),.kJ false 2 (mp kE.cells v14),.kJ false 5 (mp jX.cells v15),.int .i64 v16,.kJ false 6 (mp mL.cells v17),.int .i64 v18,.int .i64 v19,.int .i64 v20,.str (sb v21),.kJ false 2 (mp kE.cells v22),.kJ false 5 (mp jX.cells v23),.kJ false 5 (mp jX.cells v24),.kJ false 15 (mp qH.cells v25)]],0,[]⟩
abbrev akL:List Kt:=[.pF 5,.cut [1,0,1,1,1,1,1,0,1,0,1,1,1],.at [1,0,1,1,1,1,1,0,1,0,1,1,1],.pF 0,.cut [1,1,1,1],.at [1,1,1,1]]
abbrev akM:=Int->ky->(List ky)->Int->kp->Int->Int->Int->kp->(List kE)->(List jX)->Int->Int->kp->(List kE)->(List jX)->Int->(List mL)->Int->Int->Int->kp->(List kE)->(List jX)->(List jX)->(List qH)->Option Int
abbrev awz(K:List Kt)(Z:akM):Prop:=∀v0 o0 v2 v3 v4 v5 v6 v7 v8 v9 v10 v11 v12 v13 v14 v15 v16 v17 v18 v19 v20 v21 v22 v23 v24 v25,run (FV n) K (akK v0 o0 v2 v3 v4 v5 v6 v7 v8 v9 v10 v11 v12 v13 v14 v15 v16 v17 v18 v19 v20 v21 v22 v23 v24 v25)=Z v0 o0 v2 v3 v4 v5 v6 v7 v8 v9 v10 v11 v12 v13 v14 v15 v16 v17 v18 v19 v20 v21 v22 v23 v24 v25
attribute [go_sem] akG akH akI akJ akK akL
def Is:LB (aww n) [0,1,1,1,1,1,1,1,0,1,1,1,0,1,0,1,1,1] [.pF 3,.pF 0,.cut [1,1,1,1],.at [1,1,1,1]]:=mB
def DI:Nat->DH:=sR ((Is n).1)
def ad7{n:Nat}:DI n (m+1)=(Is n).1 (DI n m):=rfl
@[go_sem]def aqz(m:Nat):=ud (Is n) (DI n) m
def It:LB (awx n) [0,1,0,1,0,1,1,1,0,1,0,1,1,1] akI:=mB
def DJ:Nat->DH:=sR ((It n).1)
def ad8{n:Nat}:DJ n (m+1)=(It n).1 (DJ n m):=rfl
@[go_sem]def aqA(m:Nat):=ud (It n) (DJ n) m
def Iu:LB (awy n) [0,1,1,1,0,1,1,1,1,1,0,1,0,1,1,1] [.pF 7,.pF 0,.cut [1,1,1,1],.at [1,1,1,1]]:=mB
def DK:Nat->DH:=sR ((Iu n).1)
def ad9{n:Nat}:DK n (m+1)=(Iu n).1 (DK n m):=rfl
@[go_sem]def aqB(m:Nat):=ud (Iu n) (DK n) m
def Iv:LB (awz n) [0,1,0,0,1,1,1,1,1,0,1,0,1,1,1] akL:=mB
def DL:Nat->akM:=sR ((Iv n).1)
def aea{n:Nat}:DL n (m+1)=(Iv n).1 (DL n m):=rfl
@[go_sem]def aqC(m:Nat):=ud (Iv n) (DL n) m
def abN:IO (FV n) (lz ky.row) (kT ky.kr) 161:=mB
def aal:=fu fun n=>(abN n).1
def awA:∀n:Nat,th gv 258 (lz ky.row) (kT ky.kr) (li .i64) (aal n):=vM fun n=>ug (abN n) (gd (jR (lA (M6 n)) (jR (apn (UL n)) jU)) (k7 (apo (UL n)) (k7 (apo (ahw n)) jV))) func258 ntmps258 results258
@[reducible] def KP:kL (kp×Int):=mU gv f106 n (lR gv [.tmp 6,.tmp 7] (LQ lW (li .i64))) (cl:=lY [(108,nr (uO j4.kr) (li .i64) lW (zt n))]) (cd:=yA [(79,oV (nr (lz kW) lW mh (oH n))),(168,oV (nr (lz kW) lW mh (qL n)))]) (tI:=lS []) (tX:=lS [])
@[go_sem]def abO:qY (KP n) [0,0,1,1,1]=true:=jO
def u7:SC3 (KP n) (uO j4.kr) (li .i64) (li .i64) 75:=mB2
def uo:=fu fun n=>(u7 n).1
def aSX:∀n:Nat,apD gv 106 (uO j4.kr) (li .i64) (li .i64) (LQ lW (li .i64)) (uo n):=aF4 fun n=>avJ (u7 n) (gd (jR (lj (N5 n)) jU) (k7 (oQ (pU n)) (k7 (oQ (vk n)) jV))) func106 ntmps106 results106
def OH:sN:=⟨[],[],(zT (uO j4.kr)::zA::zA::zA::zK::zA::zK::lH (l8 (l8 (zT (lz kD.row)::zK::zK::ux (zA::[]))))),[oD,oK,oC [zK,zK],oA j8.row],none,none⟩
@[reducible] def s6:kL T1c:=mU gv f110 n (lR gv [.cell 4 112,.tmp 5] (LQ (kT jZ.kr) (li .i64))) (cl:=lY [(172,nr (lz kD.row) (tyF 173) mh (oI n))]) (cd:=yA [(79,oV (nr (lz kW) lW mh (oH n))),(168,oV (nr (lz kW) lW mh (qL n)))]) (p4:=nR [([0,1,0,1,1,1,1],OH)]) (cut:=asK [] [([1,1,1],2,1,2,true)]) (tI:=lS []) (tX:=lS [])
def ah5:an0 (s6 n) [0,0,1,0,0,1,1,0,0,1,0,1,1,1,1] [1,1,0,0,1,1,0,0,1,0,1,1,1,1]:=⟨jO,jO⟩
def ah6:vL (s6 n) [1,1,0,0,1,1,0,0,1,0,1,1,1,1] 1 14 5 14 7 14 8 14/\vL (s6 n) [1,1,0,0,1,1,0,0,1,0,1,1,1,1] 9 14 11 14 1 16 5 16/\vL (s6 n) [1,1,0,0,1,1,0,0,1,0,1,1,1,1] 7 16 8 16 9 16 11 16/\MV (s6 n) [1,1,0,0,1,1,0,0,1,0,1,1,1,1] 14 16=true:=⟨⟨jO,jO,jO,jO⟩,⟨jO,jO,jO,jO⟩,⟨jO,jO,jO,jO⟩,jO⟩
attribute [go_sem] ah5 ah6 OH
@[go_sem]abbrev OI(v0:j4)(v1:List kD)(v2 v3:Int)(r3:List j8)(c3:Nat):jT:=⟨(.pp (j4.cells v0)::qA::qA::qA::.ptr 1 0::qA::.ptr 2 0::lM (mc (mc (.kJ false 2 (mp kD.cells v1)::.int .i64 v2::.int .i64 v3::uw (qA::[]))))),[.vz,.cells [.bool false,.kJ true 0 []],.cells [.bool false,.lV 3 c3],.lV true 2 (mp j8.cells r3)],0,[]⟩
abbrev OJ:=j4->(List kD)->Int->Int->(List j8)->Option T1c
abbrev af3(K:List Kt)(Z:OJ):Prop:=∀v0 v1 v2 v3 r3 c3,c3=r3.length->run (s6 n) K (OI v0 v1 v2 v3 r3 c3)=Z v0 v1 v2 v3 r3
def uq:LB (af3 n) [0,1,0,1,1,1,1] [.pF 0,.cut [1,1,1,1,1],.at [1,1,1,1,1]]:=mB
def ur:Nat->OJ:=sR ((uq n).1)
def Cd{n:Nat}:ur n (m+1)=(uq n).1 (ur n m):=rfl
@[go_sem]def aSY(m:Nat):=ud (uq n) (ur n) m
def uR:IO (s6 n) (uO j4.kr) (kT kE.kr) 99:=mB
def uH:=fu fun n=>(uR n).1
def af4:∀n:Nat,th gv 110 (uO j4.kr) (kT kE.kr) (LQ (kT jZ.kr) (li .i64)) (uH n):=vM fun n=>ug (uR n) (gdM (jR (lj (zu n)) jU) (k7 (oQ (pU n)) (k7 (oQ (vk n)) jV))) func110 ntmps110 results110
def oz:xP:=(aEU [(1,.ret)] (sub [0,1,0,1,1] ((f169.body).getD .skip)))
def A6:oz.ps.size=1/\∀j:Int,pX oz.js j=bif j==0 then none else some .ret:=⟨jO,fun j=>rfl⟩
@[go_sem]def lv:=(tg (avz oz (alZ (alZ (l5 1 (l5 2 (l5 3 (l5 4 (Cn 35 kM)))))))) (tg (Bl (VX kI.kr 7 kM)) (tg (Bl (VX cS 1 kM)) (tg (Bl (VX cS 1 kM)) (tg (Bl (VX (cI .i64) 1 kM)) Bi)))))
@[go_sem]def mN:=(tg (ogL oz (alZ (alZ (l5 1 (l5 2 (l5 3 (l5 4 (Cn 35 kM)))))))) (tg (Bl (VX kI.kr 7 kM)) (tg (Bl (VX cS 1 kM)) (tg (Bl (VX cS 1 kM)) (tg (Bl (VX (cI .i64) 1 kM)) Bi)))))
def mH:kL (TR×(Bool×Unit)) where
 body:=.seq (aSN (sub [0,1,0,1,1] ((f169.body).getD .skip))) (alX (sub [0,1,0,1,1] ((f169.body).getD .skip)))
 P:=gv
 cl:=lY [(220,nr (lz kW) lW lW (yP n)),(221,nr (kT kI.kr) lW mh (A3 n))]
 cd:=yA []
 p4:=nR []
 cut:=MJ []
 n:=n
 out:=(fun _=>none)
 lR:=WO [(1,.ret)] [] [0,1,2,3,4] 5 mN
 wD:=lS []
def US:(mH n).P=gv/\(mH n).cl=lY [(220,nr (lz kW) lW lW (yP n)),(221,nr (kT kI.kr) lW mh (A3 n))]/\(mH n).cd=yA []/\(mH n).p4=nR []/\(mH n).cut=MJ []/\(mH n).n=n/\(mH n).out=(fun _=>none)/\(mH n).lR=WO [(1,.ret)] [] [0,1,2,3,4] 5 mN/\(mH n).wD=lS []:=⟨rfl,rfl,rfl,rfl,rfl,rfl,rfl,rfl,rfl⟩
def UT:(mH n).body=.seq (aSN (sub [0,1,0,1,1] ((f169.body).getD .skip))) (alX (sub [0,1,0,1,1] ((f169.body).getD .skip))):=rfl
def UU:Code.seq (aSN (sub [0,1,0,1,1] ((f169.body).getD .skip))) (alX (sub [0,1,0,1,1] ((f169.body).getD .skip)))=Code.seq oz.assign oz.body:=jO
attribute [go_sem] US UT A6
def yZ:{B:(List kp)->kI->kp->kp->Int->Option (TR×(Bool×Unit)) //∀(a0:(List kp))(o0:kI)(o1:kp)(o2:kp)(o3:Int),run (mH n) [.at [0],.rb,.at [1],.rd] {kf:=aSL ((alZ (alZ (l5 1 (l5 2 (l5 3 (l5 4 (Cn 35 kM))))))).enc (lv.mo ((),(o0,()),(o1,()),(o2,()),(o3,()),())) ()) [14] ((l1 (lz kW) kM).enc (lv.mo ((),(o0,()),(o1,()),(o2,()),(o3,()),())) (a0,())),heap:=(lv.enc (lv.mo ((),(o0,()),(o1,()),(o2,()),(o3,()),())) ((),(o0,()),(o1,()),(o2,()),(o3,()),())),low:=(lv.enc (lv.mo ((),(o0,()),(o1,()),(o2,()),(o3,()),())) ((),(o0,()),(o1,()),(o2,()),(o3,()),())).length}=B a0 o0 o1 o2 o3}:=mB
def wZ:=fu fun n=>(yZ n).1
def SJ:∀(n:Nat)(a0:(List kp))(o0:kI)(o1:kp)(o2:kp)(o3:Int)(r:(TR×(Bool×Unit))),wZ n a0 o0 o1 o2 o3=some r->FnT gv (WC gv) ((l1 (lz kW) kM).enc (lv.mo ((),(o0,()),(o1,()),(o2,()),(o3,()),())) (a0,())) (lv.enc (lv.mo ((),(o0,()),(o1,()),(o2,()),(o3,()),())) ((),(o0,()),(o1,()),(o2,()),(o3,()),())) (fun o H'=>o=.ret (sE ((l1 mh kM).enc (mN.mo r.1) r.2))/\H'=mN.enc (mN.mo r.1) r.1)
 |0,_,_,_,_,_,_,h=>by cases h
 |n+1,a0,o0,o1,o2,o3,r,h=>by
  exact api (M:=mH n) (lk:=oz) (kf:=((alZ (alZ (l5 1 (l5 2 (l5 3 (l5 4 (Cn 35 kM))))))).enc (lv.mo ((),(o0,()),(o1,()),(o2,()),(o3,()),())) ())) ⟨(jR (lj (RZ n)) (jR (lj (Ox n)) jU)),jV,oX _,pJ _,q7,q8,rR,rH⟩ UU (jO) ⟨jO,jO⟩ rfl (so (Nat.le_trans (jJ (jO)) (Nat.le_of_eq (lv.sz _ _).symm)) _ ((l1 (lz kW) kM).nb _ _)) (fun x hx=>Ak (Nat.le_trans (jJ (jO)) (Nat.le_of_eq (lv.sz _ _).symm)) _ (lv.nb _ _ x hx)) (fun e J hs=>aiN (js:=[(1,.ret)]) (pos:=[]) (base:=[0,1,2,3,4]) (low:=5) (os:=mN) (e:=e) (J:=J) (r:=r) (by rfl) hs) (((yZ n).2 a0 o0 o1 o2 o3).trans h)
@[go_sem]def ahx:sN:=⟨[(5,1,true)],[],(zA::zK::zK::zA::zA::zK::l8 (zT (lz kW)::zK::zK::lH (l8 (zA::zA::[])))),[oT kI.kr,oA kW],none,none⟩
@[reducible] def akN:kL (List kp):=mU gv f222 n (lR gv [.tmp 4] (lz kW)) (cl:=lY [(79,nr (lz kW) lW mh (oH n)),(220,nr (lz kW) lW lW (yP n)),(221,nr (kT kI.kr) lW mh (A3 n))]) (p4:=nR [([0,1,0,1,1],ahx)])
@[go_sem]abbrev ahy(v0:kp)(v1:List kp)(v2 v3:Int)(o0:kI)(r1:List kp)(c1:Nat):jT:=⟨(qA::.str (sb v0)::.ptr 0 0::qA::qA::.lV 1 c1::mc (.kJ false 1 (mp kS v1)::.int .i64 v2::.int .i64 v3::lM (mc (qA::qA::[])))),[.cells (kI.cells o0),.lV true 1 (mp kS r1)],0,[]⟩
abbrev ahz:=kp->(List kp)->Int->Int->kI->(List kp)->Option (List kp)
abbrev auh(K:List Kt)(Z:ahz):Prop:=∀v0 v1 v2 v3 o0 r1 c1,c1=r1.length->run (akN n) K (ahy v0 v1 v2 v3 o0 r1 c1)=Z v0 v1 v2 v3 o0 r1
def FD:LB (auh n) [0,1,0,1,1] [.pF 0,.cut [1,1,1],.at [1,1,1]]:=mB
def FE:Nat->ahz:=sR ((FD n).1)
def aam{n:Nat}:FE n (m+1)=(FD n).1 (FE n m):=rfl
@[go_sem]def aoD(m:Nat):=ud (FD n) (FE n) m
def Ym:IO (akN n) (kT kI.kr) lW 35:=mB
def Wr:=fu fun n=>(Ym n).1
def aui:∀n:Nat,th gv 222 (kT kI.kr) lW (lz kW) (Wr n):=vM fun n=>ug (Ym n) (gd (jR (lj (pU n)) (jR (lj (RZ n)) (jR (lj (Ox n)) jU))) jV) func222 ntmps222 results222
end Go.Abs
end
