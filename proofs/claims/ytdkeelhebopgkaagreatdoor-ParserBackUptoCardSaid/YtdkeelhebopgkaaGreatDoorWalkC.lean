/- A part of the proof: what the functions compute. -/
import Derived.Test.YtdkeelhebopgkaaGreatDoorDataA
import Derived.Test.YtdkeelhebopgkaaGreatDoorWalkA
import Derived.Test.YtdkeelhebopgkaaGreatDoorWalkB
set_option linter.all false
open Go.Proofs.Tryz renaming prog → fQ
open Go.Abs.AV renaming any → qA
noncomputable section
open Go.Proofs.Tryz
namespace Go.Abs
variable {m:Nat}
variable (n:Nat)
open Go.Proofs
attribute [go_sem] f75 f76 f80 f125 f163 f196 f217 f241 f258 f259 f269 f275 f282 f290 f291 f77 f14 f13 f9 f5
set_option maxRecDepth 100000
set_option maxHeartbeats 4000000
@[go_sem]def Ka:yd:=⟨[(5,9,true)],[],(zK::zK::zA::zA::zK::zK::zK::mL (mL (mL (zA::zA::[])))),[oT jX.kH,oK,oA kg.row],none,none⟩
@[reducible] def Lf(X:j8)(n:Nat):kU Tb:=oI fQ f75 n (py fQ [.cell 4 29] [] [0] 1 jW (mh (lM Syntax.kH) kP)) (cl:=nR [(59,Aj [0] (vO (za jX.kH) uD) (Om 0 Ln) (vO (za jX.kH) uD) (Nv mI JD) (fun(b:Tc) a=>(kW n) b.1)),(79,AQ (qa (uC (zI jX.kH) mI mX (mF n)))),(120,Aj [0] (vO (za jX.kH) uD) (Om 0 Ln) (vO (za jX.kH) uD) (Nv (lM Syntax.kH) JD) (fun(b:Tc) a=>(uU n) b.1)),(121,Vg (lM Syntax.kH) (nP kg.row) (lM Syntax.kH) (lM Syntax.kH) (AX n))]) (rG:=q9 [([0,1,0,1,1,1],Ka)]) (oz:=pz [] [0] 1 jW j9) (cp:=yj [(34,l5 X.kD),(60,nJ (lZ n)),(72,lu (lj n)),(78,HO X.mV),(119,mO (oo n))]) (uR:=mg [34,60,72,78,119])
@[go_sem]abbrev Kb(v0 v1:Int)(o0:jX)(r2:List kg)(c2:Nat):jZ:=⟨(.ptr 0 0:: .int .i64 v0::qA::qA:: .ptr 1 0:: .acc 2 c2:: .int .i64 v1::mQ (mQ (mQ (qA::qA::[])))),[.cells (jX.cells o0),.cells [.int .i64 0,.str (sb []),.int .i64 0,.mb true 0 [],.mb true 0 [],.mb true 0 [],.int .i64 0,.int .i64 0],.acc true 9 (mp kg.cells r2)],1,[]⟩
abbrev Kc:=Int->Int->jX->Tx->Option Tb
abbrev Wx(X:j8)(n:Nat)(K:List Kt)(Z:Kc):Prop:= ∀v0 v1 o0 r2 c2,c2=r2.length->run (Lf X n) K (Kb v0 v1 o0 r2 c2)=Z v0 v1 o0 r2
def vF(X:j8)(n:Nat):LB (Wx X n) [0,1,0,1,1,1] [.blk 0,.cut [1,1,1,1],.at [1,1,1,1]]:=Cv
def q8(X:j8)(n:Nat):Nat->Kc:=yC ((vF X n).1)
def HQ(X:j8){n:Nat}:q8 X n (m+1)=(vF X n).1 (q8 X n m):=rfl
@[go_sem]def Qz(X:j8)(n:Nat)(m:Nat):=BK (vF X n) (q8 X n) m
def z6(X:j8)(n:Nat):SX (Lf X n) (lS 0 (mh (nq .i64) kP)) jW 57 oh:=yD
open Go.Proofs
@[go_sem]def Gi:yd:=⟨[],[],(zK::zK::zK::mN (zK::mL (mL (mN (mN (mN (zA::zA::[]))))))),[oT jX.kH,oA nO],none,none⟩
@[go_sem]def EZ:yd:=⟨[],[],(zK::zK::zK::mN (zL nO::mL (mL (mN (mN (mN (zA::zA::[]))))))),[oT jX.kH],(some 7),none⟩
@[reducible] def xd(X:j8)(n:Nat):kU Tq:=oI fQ f78 n (py fQ [.tmp 6] [] [0] 1 jW (mh (nP kg.row) kP)) (cl:=nR [(59,Aj [0] (vO (za jX.kH) uD) (Om 0 Ln) (vO (za jX.kH) uD) (Nv mI JD) (fun(b:Tc) a=>(kW n) b.1)),(123,AQ (qa (ny (zI jX.kH) mX (qq n)))),(124,uC (nP nO) (lM Syntax.kH) (nP kg.row) (DS n))]) (rG:=q9 [([0,0,1,1,1],EZ),([0,0,1,1,1],Gi)]) (oz:=pz [] [0] 1 jW j9) (cp:=yj [(34,l5 X.kD),(60,nJ (lZ n)),(72,lu (lj n)),(119,mO (oo n))]) (uR:=mg [34,60,72,119])
@[go_sem]abbrev Gj(v0 v1:Str)(o0:jX)(r1:List Str)(c1:Nat):jZ:=⟨(.ptr 0 0:: .str (sb v0):: .str (sb v1)::mY (.acc 1 c1::mQ (mQ (mY (mY (mY (qA::qA::[]))))))),[.cells (jX.cells o0),.acc true 1 (mp nB r1)],1,[]⟩
abbrev Gk:=Str->Str->jX->(List Str)->Option Tq
abbrev QA(X:j8)(n:Nat)(K:List Kt)(Z:Gk):Prop:= ∀v0 v1 o0 r1 c1,c1=r1.length->run (xd X n) K (Gj v0 v1 o0 r1 c1)=Z v0 v1 o0 r1
def tg(X:j8)(n:Nat):LB (QA X n) [0,0,1,1,1] [.blk 0,.cut [1,1,1,1],.at [1,1,1,1]]:=by
 apply Subtype.mk;intro m X0 ih v0 v1 o0 r1 c1 ec1;subst ec1;simp (config:={maxSteps:=100000000}) only[go_sem,Nat.reduceAdd,Nat.reduceSub,Nat.reduceLeDiff,Nat.reduceEqDiff,Nat.reduceBEq,Nat.reduceMul,Nat.reduceLT,Int.reduceLE,Int.reduceLT,Int.reduceToNat,Int.reduceBEq,Int.reduceEq,f78,Option.getD_some,mixed,ih];exact rfl
def wh(X:j8)(n:Nat):Nat->Gk:=yC ((tg X n).1)
def Ee(X:j8){n:Nat}:wh X n (m+1)=(tg X n).1 (wh X n m):=rfl
def Dx(X:j8)(n:Nat)(m:Nat):=BK (tg X n) (wh X n) m
def vc(X:j8)(n:Nat):{B:Nat->Str->Str->(List Str)->jX->Option Tq // ∀(m:Nat)(v0 v1:Str)(v2:List Str)(o0:jX),run (xd X n) [.at [0,0,0,1,1,1],.lp m [0,0,1,1,1],.blk 0,.cut [1,1,1,1],.at [1,1,1,1]] ⟨[.ptr 0 0,.str (sb v0),.str (sb v1),qA,qA,qA,qA,.mb true 1 (mp nB v2),qA,qA,qA,qA,qA,qA,qA,qA,qA,qA,qA,qA,qA,qA,qA,qA,qA,qA,qA,qA,qA,qA,qA,qA,qA,qA,qA,qA,qA,qA,qA,qA,qA,qA,qA,qA,qA,qA,qA,qA,qA,qA,qA,qA,qA,qA],[.cells (jX.cells o0)],1,[]⟩=B m v0 v1 v2 o0}:=by
 apply Subtype.mk;intro m v0 v1 v2 o0;simp (config:={maxSteps:=100000000}) only[go_sem,Nat.reduceAdd,Nat.reduceSub,Nat.reduceLeDiff,Nat.reduceEqDiff,Nat.reduceBEq,Nat.reduceMul,Nat.reduceLT,Int.reduceLE,Int.reduceLT,Int.reduceToNat,Int.reduceBEq,Int.reduceEq,f78,Option.getD_some,mixed,Dx X n];exact rfl
def th(X:j8)(n:Nat):Nat->Str->Str->(List Str)->jX->Option Tq
 |0,_,_,_,_=>none
 |m+1,v0,v1,v2,o0=>(vc X n).1 m v0 v1 v2 o0
def MF(X:j8)(n:Nat): ∀(m:Nat),(∀(v0 v1:Str)(v2:List Str)(o0:jX),run (xd X n) [.lq m [0,0,1,1,1],.blk 0,.cut [1,1,1,1],.at [1,1,1,1]] ⟨[.ptr 0 0,.str (sb v0),.str (sb v1),qA,qA,qA,qA,.mb true 1 (mp nB v2),qA,qA,qA,qA,qA,qA,qA,qA,qA,qA,qA,qA,qA,qA,qA,qA,qA,qA,qA,qA,qA,qA,qA,qA,qA,qA,qA,qA,qA,qA,qA,qA,qA,qA,qA,qA,qA,qA,qA,qA,qA,qA,qA,qA,qA,qA],[.cells (jX.cells o0)],1,[]⟩=th X n m v0 v1 v2 o0)
 |0=>by intros;exact JA
 |m+1=>by
  intro v0 v1 v2 o0;rw[CR];exact(vc X n).2 m v0 v1 v2 o0
def xe(X:j8)(n:Nat):SX (xd X n) (lS 0 (mh mI (mh mI kP))) jW 54 rD:=by
 apply Subtype.mk
 repeat (first|refine Prod.forall.2 ?_|intro)
 simp (config:={maxSteps:=100000000}) only[go_sem,Nat.reduceAdd,Nat.reduceSub,Nat.reduceLeDiff,Nat.reduceEqDiff,Nat.reduceBEq,Nat.reduceMul,Nat.reduceLT,Int.reduceLE,Int.reduceLT,Int.reduceToNat,Int.reduceBEq,Int.reduceEq,f78,Option.getD_some,mixed,Dx X n,MF X n];exact rfl
open Go.Proofs
@[reducible] def z7(X:j8)(n:Nat):kU Tb:=oI fQ f76 n (py fQ [.cell 4 29] [] [0] 1 jW (mh (lM Syntax.kH) kP)) (cl:=nR [(59,Aj [0] (vO (za jX.kH) uD) (Om 0 Ln) (vO (za jX.kH) uD) (Nv mI JD) (fun(b:Tc) a=>(kW n) b.1)),(120,Aj [0] (vO (za jX.kH) uD) (Om 0 Ln) (vO (za jX.kH) uD) (Nv (lM Syntax.kH) JD) (fun(b:Tc) a=>(uU n) b.1)),(122,Aj [0] (vO (za jX.kH) uD) (Om 0 (asT mI Ln)) (vO (za jX.kH) uD) (Nv mX JD) (fun(b:Tc) a=>(lC n) b.1 a.1))]) (oz:=pz [] [0] 1 jW j9) (cp:=yj [(34,l5 X.kD),(60,nJ (lZ n)),(119,mO (oo n))]) (uR:=mg [34,60,119]) (vf:=mg []) (vJ:=mg [])
@[go_sem]def XT(X:j8)(n:Nat):tM (z7 X n) [0,1,1,1,1,1,1,1,1,1]=true:=jV
@[go_sem]def XU(X:j8)(n:Nat):Ej (z7 X n) [0,1,1,1,1,1,1,1,1,1] 0 7 1 7 2 7 0 9/\Ej (z7 X n) [0,1,1,1,1,1,1,1,1,1] 1 9 2 9 5 9 7 9:=⟨⟨jV,jV,jV,jV⟩,jV,jV,jV,jV⟩
def z8(X:j8)(n:Nat):SX (z7 X n) (lS 0 (mh (nq .i64) kP)) jW 48 oh:=yD
open Go.Proofs
@[reducible] def r9(X:j8)(n:Nat):kU Tb:=oI fQ f80 n (py fQ [.cell 4 29] [] [0] 1 jW (mh (lM Syntax.kH) kP)) (cl:=nR [(122,Aj [0] (vO (za jX.kH) uD) (Om 0 (asT mI Ln)) (vO (za jX.kH) uD) (Nv mX JD) (fun(b:Tc) a=>(lC n) b.1 a.1)),(124,uC (nP nO) (lM Syntax.kH) (nP kg.row) (DS n)),(126,Aj [0] (vO (za jX.kH) uD) (Om 0 (asT (nq .i64) Ln)) (vO (za jX.kH) uD) (Nv (nP nO) JD) (fun(b:Tc) a=>(xT n) b.1 a.1))]) (cd:=JB [(121,qa (Vg (lM Syntax.kH) (nP kg.row) (lM Syntax.kH) (lM Syntax.kH) (AX n)))]) (oz:=pz [] [0] 1 jW j9) (co:=MW [(34,FR [.arg 0 []] jW (lS 0 kP) jW (mh (lM Syntax.kH) kP) jW j9 (kM X.kD))]) (cp:=yj [(125,l5 X.pW)]) (uR:=mg [125]) (vf:=mg [34]) (vJ:=mg [])
def UA(X:j8)(n:Nat):tM (r9 X n) [0,1,1,1,1,1,1]=true:=jV
def UB(X:j8)(n:Nat):aqN (r9 X n) [0,1,1,1,1,1,1] 1 7 5 7:=⟨jV,jV⟩
def UC(X:j8)(n:Nat):Ib (r9 X n) [0,1,1,1,1,1,1] 5 6=true/\Ib (r9 X n) [0,1,1,1,1,1,1] 5 7=true/\Oi (r9 X n) [0,1,1,1,1,1,1] 5=false:=⟨jV,jV,jV⟩
attribute [go_sem] UA UB UC
def x8(X:j8)(n:Nat):SX (r9 X n) (lS 0 (mh (nq .i64) kP)) jW 55 oh:=yD
open Go.Proofs
@[go_sem]def Lg:yd:=⟨[(3,8,true)],[],(zK::zA::zK::zK::wv (mN (mN (mN [])))),[oT jX.kH,oK,oA Syntax.row],none,none⟩
@[reducible] def MG(X:j8)(n:Nat):kU Tb:=oI fQ f125 n (py fQ [.cell 2 29] [] [0] 1 jW (mh (lM Syntax.kH) kP)) (cl:=nR [(161,AQ (qa (ny (zI jX.kH) mX (tW n)))),(162,AQ (qa (ny (zI jX.kH) mX (vm n)))),(164,uC (nP jY.row) (nP Syntax.row) (ty3 (lM Syntax.kH) (nq .i64) (nq .i64)) (uc n))]) (rG:=q9 [([0,0,1,1],Lg)]) (oz:=pz [] [0] 1 jW j9) (cp:=yj [(57,qe (lW n)),(72,lu (lj n)),(103,lu (me n)),(163,l5 X.n7)]) (uR:=mg [57,72,103,163])
@[go_sem]abbrev Lh(o0:jX)(r2:List Syntax)(c2:Nat):jZ:=⟨(.ptr 0 0::qA:: .ptr 1 0:: .acc 2 c2::wu (mY (mY (mY [])))),[.cells (jX.cells o0),.cells [.int .i64 0,.str (sb []),.int .i64 0,.mb true 0 [],.mb true 0 [],.mb true 0 [],.int .i64 0,.int .i64 0],.acc true 8 (mp Syntax.cells r2)],1,[]⟩
abbrev Li:=jX->(List Syntax)->Option Tb
abbrev XV(X:j8)(n:Nat)(K:List Kt)(Z:Li):Prop:= ∀o0 r2 c2,c2=r2.length->run (MG X n) K (Lh o0 r2 c2)=Z o0 r2
def wJ(X:j8)(n:Nat):LB (XV X n) [0,0,1,1] [.blk 0,.cut [1,1,1],.at [1,1,1]]:=Cv
def uq(X:j8)(n:Nat):Nat->Li:=yC ((wJ X n).1)
def IE(X:j8){n:Nat}:uq X n (m+1)=(wJ X n).1 (uq X n m):=rfl
@[go_sem]def Se(X:j8)(n:Nat)(m:Nat):=BK (wJ X n) (uq X n) m
def BH(X:j8)(n:Nat):SX (MG X n) (lS 0 kP) jW 80 kM:=yD
open Go.Proofs
@[reducible] def Wy(X:j8)(n:Nat):kU Tb:=oI fQ f163 n (py fQ [.cell 2 29] [] [0] 1 jW (mh (lM Syntax.kH) kP)) (cl:=nR [(58,AQ (qa (ny (zI jX.kH) (nq .i64) (oN n)))),(59,Aj [0] (vO (za jX.kH) uD) (Om 0 Ln) (vO (za jX.kH) uD) (Nv mI JD) (fun(b:Tc) a=>(kW n) b.1)),(157,AQ (qa (ny (zI jX.kH) (nq .i64) (nT n)))),(161,AQ (qa (ny (zI jX.kH) mX (tW n))))]) (oz:=pz [] [0] 1 jW j9) (cp:=yj [(196,l5 X.pY)]) (uR:=mg [196])
def yV(X:j8)(n:Nat):SX (Wy X n) (lS 0 kP) jW 25 kM:=yD
open Go.Proofs
@[go_sem]def Kd:yd:=⟨[],[],(zK::zA::zK::zK::zK::mL (mN (zA::zA::zA::[]))),[oT jX.kH,oK,oT Syntax.kH],none,none⟩
@[reducible] def Lj(X:j8)(n:Nat):kU Tb:=oI fQ f196 n (py fQ [.cell 2 29] [] [0] 1 jW (mh (lM Syntax.kH) kP)) (cl:=nR [(162,AQ (qa (ny (zI jX.kH) mX (vm n))))]) (rG:=q9 [([0,1,0,1,1],Kd)]) (oz:=pz [] [0] 1 jW j9) (cp:=yj [(72,lu (lj n)),(217,l5 X.oO)]) (uR:=mg [72,217])
@[go_sem]abbrev Ke(v0:Int)(o0:jX)(o2:Syntax):jZ:=⟨(.ptr 0 0::qA:: .ptr 1 0:: .ptr 2 0:: .int .i64 v0::mQ (mY (qA::qA::qA::[]))),[.cells (jX.cells o0),.cells [.int .i64 0,.str (sb []),.int .i64 0,.mb true 0 [],.mb true 0 [],.mb true 0 [],.int .i64 0,.int .i64 0],.cells (Syntax.cells o2)],1,[]⟩
abbrev tj:=Int->jX->Syntax->Option Tb
abbrev Wz(X:j8)(n:Nat)(K:List Kt)(Z:tj):Prop:= ∀v0 o0 o2,run (Lj X n) K (Ke v0 o0 o2)=Z v0 o0 o2
def vG(X:j8)(n:Nat):LB (Wz X n) [0,1,0,1,1] [.blk 0,.cut [1,1,1],.at [1,1,1]]:=Cv
def vH(X:j8)(n:Nat):Nat->tj:=yC ((vG X n).1)
def HR(X:j8){n:Nat}:vH X n (m+1)=(vG X n).1 (vH X n m):=rfl
@[go_sem]def QB(X:j8)(n:Nat)(m:Nat):=BK (vG X n) (vH X n) m
def Aa(X:j8)(n:Nat):SX (Lj X n) (lS 0 kP) jW 28 kM:=yD
open Go.Proofs
def IF:yd:=⟨[],[],(zK::zA::zK::zK::zK::mL (mL (mN []))),[oT jX.kH,oK,oT Syntax.kH],none,none⟩
@[reducible] def yW(X:j8)(n:Nat):kU Tb:=oI fQ f217 n (py fQ [.cell 2 29] [] [0] 1 jW (mh (lM Syntax.kH) kP)) (cl:=nR [(59,Aj [0] (vO (za jX.kH) uD) (Om 0 Ln) (vO (za jX.kH) uD) (Nv mI JD) (fun(b:Tc) a=>(kW n) b.1)),(79,AQ (qa (uC (zI jX.kH) mI mX (mF n))))]) (rG:=q9 [([0,1,0,1,1],IF)]) (oz:=pz [] [0] 1 jW j9) (co:=MW [(157,SK (qa (ny (zI jX.kH) (nq .i64) (nT n))))]) (cp:=yj [(72,lu (lj n)),(241,l5 X.oZ)]) (uR:=mg [72,241]) (vf:=mg [157]) (vJ:=mg [])
def WA(X:j8)(n:Nat):tM (yW X n) [1,1,1,0,0,1,0,0,1,0,1,1]=true:=jV
def WB(X:j8)(n:Nat):aqO (yW X n) [1,1,1,0,0,1,0,0,1,0,1,1] 1 10 4 10 8 10:=⟨jV,jV,jV⟩
attribute [go_sem] WA WB IF
@[go_sem]abbrev IG(v0:Int)(o0:jX)(o2:Syntax):jZ:=⟨(.ptr 0 0::qA:: .ptr 1 0:: .ptr 2 0:: .int .i64 v0::mQ (mQ (mY []))),[.cells (jX.cells o0),.cells [.int .i64 0,.str (sb []),.int .i64 0,.mb true 0 [],.mb true 0 [],.mb true 0 [],.int .i64 0,.int .i64 0],.cells (Syntax.cells o2)],1,[]⟩
abbrev UD(X:j8)(n:Nat)(K:List Kt)(Z:tj):Prop:= ∀v0 o0 o2,run (yW X n) K (IG v0 o0 o2)=Z v0 o0 o2
def uN(X:j8)(n:Nat):LB (UD X n) [0,1,0,1,1] [.blk 0,.cut [1,1,1],.at [1,1,1]]:=Cv
def qz(X:j8)(n:Nat):Nat->tj:=yC ((uN X n).1)
def Gl(X:j8){n:Nat}:qz X n (m+1)=(uN X n).1 (qz X n m):=rfl
@[go_sem]def Ph(X:j8)(n:Nat)(m:Nat):=BK (uN X n) (qz X n) m
def yX(X:j8)(n:Nat):SX (yW X n) (lS 0 kP) jW 41 kM:=yD
open Go.Proofs
@[reducible] def UE(X:j8)(n:Nat):kU Tb:=oI fQ f241 n (py fQ [.cell 2 29] [] [0] 1 jW (mh (lM Syntax.kH) kP)) (cl:=nR [(58,AQ (qa (ny (zI jX.kH) (nq .i64) (oN n)))),(122,Aj [0] (vO (za jX.kH) uD) (Om 0 (asT mI Ln)) (vO (za jX.kH) uD) (Nv mX JD) (fun(b:Tc) a=>(lC n) b.1 a.1)),(157,AQ (qa (ny (zI jX.kH) (nq .i64) (nT n))))]) (oz:=pz [] [0] 1 jW j9) (cp:=yj [(258,HP X.oH),(259,vD X.qh)]) (uR:=mg [258,259])
def x9(X:j8)(n:Nat):SX (UE X n) (lS 0 kP) jW 24 kM:=yD
open Go.Proofs
def Gm:yd:=⟨[],[],(zK::zA::zA::zK::zK::zA::zK::zK::zK::wv (mL (mN (mN (zA::zA::zA::[]))))),[oT jX.kH,oT Syntax.kH,oK,oD,oA Syntax.row,oT Syntax.kH],none,none⟩
def Gn:yd:=⟨[],[],(zK::zA::zA::zK::zK::zA::zK::wv (mL (mN (mN (mN (zA::[])))))),[oT jX.kH,oT Syntax.kH,oK,oD,oA Syntax.row],none,none⟩
@[reducible] def lK(X:j8)(n:Nat):kU Tb:=oI fQ f258 n (py fQ [.cell 4 29] [] [0] 1 jW (mh (lM Syntax.kH) kP)) (cl:=nR [(122,Aj [0] (vO (za jX.kH) uD) (Om 0 (asT mI Ln)) (vO (za jX.kH) uD) (Nv mX JD) (fun(b:Tc) a=>(lC n) b.1 a.1)),(157,AQ (qa (ny (zI jX.kH) (nq .i64) (nT n))))]) (rG:=q9 [([0,1,0,1,1,1,1,1,1,1,1],Gm),([0,0,1,1,1,1,1],Gn)]) (oz:=pz [] [0] 1 jW j9) (co:=MW [(34,FR [.arg 0 []] jW (lS 0 kP) jW (mh (lM Syntax.kH) kP) jW j9 (kM X.kD)),(57,FR [.arg 0 []] jW (lS 0 (mh mX kP)) jW kP jW j9 (qd (lW n))),(79,SK (qa (uC (zI jX.kH) mI mX (mF n)))),(157,SK (qa (ny (zI jX.kH) (nq .i64) (nT n))))]) (cp:=yj [(34,l5 X.kD),(60,nJ (lZ n)),(72,lu (lj n))]) (uR:=mg [34,60,72]) (vf:=mg [34,57,79,157]) (vJ:=mg [])
def Sf(X:j8)(n:Nat):atp (lK X n) [0,0,1,0,0,1,0,1,1,1,1,1,1,1,1] [0,0,1,1,1,0,0,1,1] [0,1,1,1]:=⟨jV,jV,jV⟩
def Sg(X:j8)(n:Nat):Ej (lK X n) [0,0,1,0,0,1,0,1,1,1,1,1,1,1,1] 2 16 3 16 4 16 8 16/\aqN (lK X n) [0,0,1,0,0,1,0,1,1,1,1,1,1,1,1] 10 16 14 16/\Ej (lK X n) [0,0,1,1,1,0,0,1,1] 2 5 0 7 2 7 5 7/\Py (lK X n) [0,1,1,1] 6 7=true:=⟨⟨jV,jV,jV,jV⟩,⟨jV,jV⟩,⟨jV,jV,jV,jV⟩,jV⟩
def Si(X:j8)(n:Nat):Ib (lK X n) [0,0,1,1,1,0,0,1,1] 2 3=true/\Ib (lK X n) [0,0,1,1,1,0,0,1,1] 2 4=false/\Ib (lK X n) [0,0,1,1,1,0,0,1,1] 2 5=true/\Ib (lK X n) [0,0,1,1,1,0,0,1,1] 2 6=true/\Ib (lK X n) [0,0,1,1,1,0,0,1,1] 2 7=true/\Oi (lK X n) [0,0,1,1,1,0,0,1,1] 2=false/\Oi (lK X n) [0,1,1,1] 7=true:=⟨jV,jV,jV,jV,jV,jV,jV⟩
attribute [go_sem] Sf Sg Si Gm Gn
abbrev Gp(v0:Int)(o0:jX)(o1:Syntax)(r4:List Syntax)(o5:Syntax)(c4:Nat):jZ:=⟨(.ptr 0 0::qA::qA:: .ptr 1 0:: .ptr 2 0::qA:: .acc 4 c4:: .ptr 5 0:: .int .i64 v0::wu (mQ (mY (mY (qA::qA::qA::[]))))),[.cells (jX.cells o0),.cells (Syntax.cells o1),.cells [.int .i64 0,.str (sb []),.int .i64 0,.mb true 0 [],.mb true 0 [],.mb true 0 [],.int .i64 0,.int .i64 0],.dead,.acc true 8 (mp Syntax.cells r4),.cells (Syntax.cells o5)],1,[]⟩
abbrev Gq:List Kt:=[.blk 3,.cut [1,1,1,1,1,1,1,1,1],.at [1,1,1,1,1,1,1,1,1]]
abbrev Gr:=Int->jX->Syntax->(List Syntax)->Syntax->Option Tb
abbrev QD(X:j8)(n:Nat)(K:List Kt)(Z:Gr):Prop:= ∀v0 o0 o1 r4 o5 c4,c4=r4.length->run (lK X n) K (Gp v0 o0 o1 r4 o5 c4)=Z v0 o0 o1 r4 o5
abbrev Gs(o0:jX)(o1:Syntax)(r4:List Syntax)(c4:Nat):jZ:=⟨(.ptr 0 0::qA::qA:: .ptr 1 0:: .ptr 2 0::qA:: .acc 4 c4::wu (mQ (mY (mY (mY (qA::[])))))),[.cells (jX.cells o0),.cells (Syntax.cells o1),.cells [.int .i64 0,.str (sb []),.int .i64 0,.mb true 0 [],.mb true 0 [],.mb true 0 [],.int .i64 0,.int .i64 0],.dead,.acc true 8 (mp Syntax.cells r4)],1,[]⟩
abbrev Gt:=jX->Syntax->(List Syntax)->Option Tb
abbrev QE(X:j8)(n:Nat)(K:List Kt)(Z:Gt):Prop:= ∀o0 o1 r4 c4,c4=r4.length->run (lK X n) K (Gs o0 o1 r4 c4)=Z o0 o1 r4
attribute [go_sem] Gp Gq Gs
def tu(X:j8)(n:Nat):LB (QD X n) [0,1,0,1,1,1,1,1,1,1,1] Gq:=Cv
def qN(X:j8)(n:Nat):Nat->Gr:=yC ((tu X n).1)
def Ef(X:j8){n:Nat}:qN X n (m+1)=(tu X n).1 (qN X n m):=rfl
@[go_sem]def MH(X:j8)(n:Nat)(m:Nat):=BK (tu X n) (qN X n) m
def tv(X:j8)(n:Nat):LB (QE X n) [0,0,1,1,1,1,1] [.blk 1,.cut [1,1,1,1,1,1],.at [1,1,1,1,1,1]]:=Cv
def tw(X:j8)(n:Nat):Nat->Gt:=yC ((tv X n).1)
def Eg(X:j8){n:Nat}:tw X n (m+1)=(tv X n).1 (tw X n m):=rfl
@[go_sem]def MI(X:j8)(n:Nat)(m:Nat):=BK (tv X n) (tw X n) m
def xf(X:j8)(n:Nat):SX (lK X n) (lS 0 (mh (lM Syntax.kH) kP)) jW 100 ue:=yD
open Go.Proofs
@[reducible] def WC(X:j8)(n:Nat):kU Te:=oI fQ f259 n (py fQ [] [] [0,1] 2 kE kP) (cl:=nR [(56,AQ (qa (ny (zI jX.kH) (lM kI.kH) (lG n)))),(59,Aj [0] (vO (za jX.kH) uD) (Om 0 Ln) (vO (za jX.kH) uD) (Nv mI JD) (fun(b:Tc) a=>(kW n) b.1)),(74,AQ (qa (Vg (zI jX.kH) (nq .i64) mI mX (sS n)))),(122,Aj [0] (vO (za jX.kH) uD) (Om 0 (asT mI Ln)) (vO (za jX.kH) uD) (Nv mX JD) (fun(b:Tc) a=>(lC n) b.1 a.1))]) (oz:=pz [] [0,1] 2 kE j9) (cp:=yj [(60,nJ (lZ n)),(103,lu (me n)),(138,mO (xL n)),(141,w8 (p5 n)),(267,HN (yU n)),(268,Cm (CF n)),(269,AM X.nZ)]) (uR:=mg [60,103,138,141,267,268,269])
def yY(X:j8)(n:Nat):SX (WC X n) (lS 0 (lS 1 kP)) kE 135 nK:=yD
open Go.Proofs
@[go_sem]def E0:yd:=⟨[(3,8,true)],[],(zK::zA::zA::zK::mL (mN (zA::zA::[]))),[oT jX.kH,oA Syntax.row],none,none⟩
@[reducible] def Gu(X:j8)(n:Nat):kU TE:=oI fQ f269 n (py fQ [.tmp 2] [] [0] 1 jW (mh (nP Syntax.row) kP)) (cl:=nR [(79,AQ (qa (uC (zI jX.kH) mI mX (mF n)))),(122,Aj [0] (vO (za jX.kH) uD) (Om 0 (asT mI Ln)) (vO (za jX.kH) uD) (Nv mX JD) (fun(b:Tc) a=>(lC n) b.1 a.1))]) (rG:=q9 [([0,0,1,1],E0)]) (oz:=pz [] [0] 1 jW j9) (cp:=yj [(72,lu (lj n)),(275,l5 X.mS)]) (uR:=mg [72,275])
@[go_sem]abbrev E3(o0:jX)(r1:List Syntax)(c1:Nat):jZ:=⟨(.ptr 0 0::qA::qA:: .acc 1 c1::mQ (mY (qA::qA::[]))),[.cells (jX.cells o0),.acc true 8 (mp Syntax.cells r1)],1,[]⟩
abbrev E4:=jX->(List Syntax)->Option TE
abbrev Pj(X:j8)(n:Nat)(K:List Kt)(Z:E4):Prop:= ∀o0 r1 c1,c1=r1.length->run (Gu X n) K (E3 o0 r1 c1)=Z o0 r1
def sA(X:j8)(n:Nat):LB (Pj X n) [0,0,1,1] [.blk 0,.cut [1,1,1],.at [1,1,1]]:=Cv
def sB(X:j8)(n:Nat):Nat->E4:=yC ((sA X n).1)
def Dy(X:j8){n:Nat}:sB X n (m+1)=(sA X n).1 (sB X n m):=rfl
@[go_sem]def Lv(X:j8)(n:Nat)(m:Nat):=BK (sA X n) (sB X n) m
def wi(X:j8)(n:Nat):SX (Gu X n) (lS 0 kP) jW 26 tf:=yD
open Go.Proofs
@[go_sem]def AZ:yd:=⟨[],[],(zK::zA::zK::zK::zK::mL (mN (mN (zA::[])))),[oT jX.kH,oK,oT Syntax.kH],none,none⟩
@[reducible] def B3(X:j8)(n:Nat):kU Tb:=oI fQ f275 n (py fQ [.cell 2 29] [] [0] 1 jW (mh (lM Syntax.kH) kP)) (cl:=nR [(122,Aj [0] (vO (za jX.kH) uD) (Om 0 (asT mI Ln)) (vO (za jX.kH) uD) (Nv mX JD) (fun(b:Tc) a=>(lC n) b.1 a.1))]) (rG:=q9 [([0,1,0,1,1],AZ)]) (oz:=pz [] [0] 1 jW j9) (cp:=yj [(72,lu (lj n)),(282,l5 X.k9)]) (uR:=mg [72,282])
@[go_sem]abbrev A0(v0:Int)(o0:jX)(o2:Syntax):jZ:=⟨(.ptr 0 0::qA:: .ptr 1 0:: .ptr 2 0:: .int .i64 v0::mQ (mY (mY (qA::[])))),[.cells (jX.cells o0),.cells [.int .i64 0,.str (sb []),.int .i64 0,.mb true 0 [],.mb true 0 [],.mb true 0 [],.int .i64 0,.int .i64 0],.cells (Syntax.cells o2)],1,[]⟩
abbrev Kf(X:j8)(n:Nat)(K:List Kt)(Z:tj):Prop:= ∀v0 o0 o2,run (B3 X n) K (A0 v0 o0 o2)=Z v0 o0 o2
def p6(X:j8)(n:Nat):LB (Kf X n) [0,1,0,1,1] [.blk 0,.cut [1,1,1],.at [1,1,1]]:=Cv
def p7(X:j8)(n:Nat):Nat->tj:=yC ((p6 X n).1)
def zE(X:j8){n:Nat}:p7 X n (m+1)=(p6 X n).1 (p7 X n m):=rfl
@[go_sem]def HT(X:j8)(n:Nat)(m:Nat):=BK (p6 X n) (p7 X n) m
def sG(X:j8)(n:Nat):SX (B3 X n) (lS 0 kP) jW 30 kM:=yD
open Go.Proofs
@[reducible] def ot(X:j8)(n:Nat):kU Tb:=oI fQ f282 n (aeD (LV [(289,Ic [.arg 0 [],.obj 0 0 []] kZ (lS 0 kP) kZ kP (fun(b:(Unit×T6))(a:Unit)=>(pu n) b.2.1.1))]) (py fQ [.cell 2 29] [] [0] 1 jW (mh (lM Syntax.kH) kP)) (pz [] [0] 1 jW j9)) (cl:=nR [(79,AQ (qa (uC (zI jX.kH) mI mX (mF n)))),(157,AQ (qa (ny (zI jX.kH) (nq .i64) (nT n))))]) (oz:=aeE (LV [(289,Ic [.arg 0 [],.obj 0 0 []] kZ (lS 0 kP) kZ kP (fun(b:(Unit×T6))(a:Unit)=>(pu n) b.2.1.1))]) (py fQ [.cell 2 29] [] [0] 1 jW (mh (lM Syntax.kH) kP)) (pz [] [0] 1 jW j9)) (co:=MW [(56,SK (qa (ny (zI jX.kH) (lM kI.kH) (lG n)))),(57,FR [.arg 0 []] jW (lS 0 (mh mX kP)) jW kP jW j9 (qd (lW n))),(58,SK (qa (ny (zI jX.kH) (nq .i64) (oN n)))),(72,FR [.arg 0 []] jW (lS 0 (mh (nq .i64) kP)) jW kP jW j9 (ol (lj n)))]) (cp:=yj [(290,vD X.o9),(291,vD X.pU)]) (uR:=mg [290,291]) (vf:=mg [56,57,58,72]) (vJ:=mg [])
def Sj(X:j8)(n:Nat):atp (ot X n) [0,1] [0,1,1,0,1,1,1,1,1] [0,1,1,1,1]:=⟨jV,jV,jV⟩
def Sk(X:j8)(n:Nat):aqO (ot X n) [0,1] 0 7 3 7 6 7/\Ej (ot X n) [0,1,1,0,1,1,1,1,1] 3 6 0 9 3 9 6 9/\Ej (ot X n) [0,1,1,1,1] 0 3 0 8 3 8 5 8/\Ej (ot X n) [0,1,1,1,1] 0 11 3 11 5 11 8 11/\Py (ot X n) [0,1,1,1,1] 10 11=true:=⟨⟨jV,jV,jV⟩,⟨jV,jV,jV,jV⟩,⟨jV,jV,jV,jV⟩,⟨jV,jV,jV,jV⟩,jV⟩
def Sl(X:j8)(n:Nat):Oi (ot X n) [0,1] 7=true/\Oi (ot X n) [0,1,1,0,1,1,1,1,1] 9=true:=⟨jV,jV⟩
attribute [go_sem] Sj Sk Sl
def uf(X:j8)(n:Nat):SX (ot X n) (lS 0 kP) jW 54 kM:=yD
open Go.Proofs
@[reducible] def UF(X:j8)(n:Nat):kU Te:=oI fQ f290 n (py fQ [] [] [0,1] 2 kE kP) (oz:=pz [] [0,1] 2 kE j9) (cp:=yj [(60,nJ (lZ n)),(269,AM X.nZ)]) (uR:=mg [60,269])
def ya(X:j8)(n:Nat):SX (UF X n) (lS 0 (lS 1 kP)) kE 17 nK:=yD
open Go.Proofs
def HU:yd:=⟨[],[],(zK::zK::wv (wv (mN (mN (mN (zA::zA::zA::[])))))),[oT jX.kH,oC [zK,zK,zK,zK,zT (nP j7.row),zT (nP Syntax.row),zK,zK],oA nO],none,none⟩
@[reducible] def qB(X:j8)(n:Nat):kU Te:=oI fQ f291 n (py fQ [] [] [0,1] 2 kE kP) (cl:=nR [(56,AQ (qa (ny (zI jX.kH) (lM kI.kH) (lG n)))),(59,Aj [0] (vO (za jX.kH) uD) (Om 0 Ln) (vO (za jX.kH) uD) (Nv mI JD) (fun(b:Tc) a=>(kW n) b.1))]) (rG:=q9 [([0,1,1,0,1,1,1,1,1,1,1,1,1,1,1,1,1,0,1],HU)]) (oz:=pz [] [0,1] 2 kE j9) (co:=MW [(59,FR [.arg 0 []] jW (lS 0 kP) jW (mh mI kP) jW (mh mI kP) (fun(b:T6)(a:Unit)=>((xS n) b.1.1).map fun r=>(PR.ok r:PR TB TB))),(72,FR [.arg 0 []] jW (lS 0 (mh (nq .i64) kP)) jW kP jW j9 (ol (lj n)))]) (cp:=yj [(34,l5 X.kD),(103,lu (me n)),(119,mO (oo n)),(138,mO (xL n)),(179,mO (pI n)),(282,l5 X.k9),(290,vD X.o9),(294,Eb (we n))]) (uR:=mg [34,103,119,138,179,282,290,294]) (vf:=mg [59,72]) (vJ:=mg [])
def UG(X:j8)(n:Nat):an5 (qB X n) [0,0,1,0,0,1,1,0,1,1,1,1,1,1,1,1,1,1,1,1,1,0,1] [1,0,1,0,0,1,1,0,1,1,1,1,1,1,1,1,1,1,1,1,1,0,1]:=⟨jV,jV⟩
def UH(X:j8)(n:Nat):aqN (qB X n) [0,0,1,0,0,1,1,0,1,1,1,1,1,1,1,1,1,1,1,1,1,0,1] 6 8 7 8/\Ej (qB X n) [1,0,1,0,0,1,1,0,1,1,1,1,1,1,1,1,1,1,1,1,1,0,1] 4 10 8 10 4 13 8 13/\Py (qB X n) [1,0,1,0,0,1,1,0,1,1,1,1,1,1,1,1,1,1,1,1,1,0,1] 10 13=true:=⟨⟨jV,jV⟩,⟨jV,jV,jV,jV⟩,jV⟩
def UI(X:j8)(n:Nat):Oi (qB X n) [0,0,1,0,0,1,1,0,1,1,1,1,1,1,1,1,1,1,1,1,1,0,1] 8=true:=jV
attribute [go_sem] UG UH UI HU
@[go_sem]abbrev HV(o0:jX)(v1:Int)(v2:Str)(v3:Int)(v4:List j7)(v5:List Syntax)(v6 v7:Int)(r2:List Str)(c2:Nat):jZ:=⟨(.ptr 0 0:: .ptr 1 0::wu (wu (mY (mY (mY (qA::qA::qA::[])))))),[.cells (jX.cells o0),.cells [.int .i64 v1,.str (sb v2),.int .i64 v3,.acc 2 c2,.mb false 2 (mp j7.cells v4),.mb false 8 (mp Syntax.cells v5),.int .i64 v6,.int .i64 v7],.acc true 1 (mp nB r2)],2,[]⟩
abbrev HW:=jX->Int->Str->Int->Tj->(List Syntax)->Int->Int->(List Str)->Option Te
abbrev Sn(X:j8)(n:Nat)(K:List Kt)(Z:HW):Prop:= ∀o0 v1 v2 v3 v4 v5 v6 v7 r2 c2,c2=r2.length->run (qB X n) K (HV o0 v1 v2 v3 v4 v5 v6 v7 r2 c2)=Z o0 v1 v2 v3 v4 v5 v6 v7 r2
def ug(X:j8)(n:Nat):LB (Sn X n) [0,1,1,0,1,1,1,1,1,1,1,1,1,1,1,1,1,0,1] [.blk 1,.blk 0]:=Cv
def uh(X:j8)(n:Nat):Nat->HW:=yC ((ug X n).1)
def E5(X:j8){n:Nat}:uh X n (m+1)=(ug X n).1 (uh X n m):=rfl
@[go_sem]def Nh(X:j8)(n:Nat)(m:Nat):=BK (ug X n) (uh X n) m
def yb(X:j8)(n:Nat):SX (qB X n) (lS 0 (lS 1 kP)) kE 145 nK:=yD
open Go.Proofs
@[reducible] def qO(X:j8)(n:Nat):kU Tb:=oI fQ f77 n (py fQ [.cell 8 29] [] [0] 1 jW (mh (lM Syntax.kH) kP)) (cd:=JB [(121,qa (Vg (lM Syntax.kH) (nP kg.row) (lM Syntax.kH) (lM Syntax.kH) (AX n)))]) (oz:=pz [] [0] 1 jW j9) (co:=MW [(34,FR [.arg 0 []] jW (lS 0 kP) jW (mh (lM Syntax.kH) kP) jW j9 (kM X.kD))]) (cp:=yj [(60,nJ (lZ n))]) (uR:=mg [60]) (vf:=mg [34]) (vJ:=mg [])
def QF(X:j8)(n:Nat):tM (qO X n) [0,1,1]=true:=jV
def QG(X:j8)(n:Nat):aqN (qO X n) [0,1,1] 0 5 3 5:=⟨jV,jV⟩
def QH(X:j8)(n:Nat):Ib (qO X n) [0,1,1] 3 4=true/\Ib (qO X n) [0,1,1] 3 5=true/\Oi (qO X n) [0,1,1] 3=false:=⟨jV,jV,jV⟩
attribute [go_sem] QF QG QH
def wj(X:j8)(n:Nat):SX (qO X n) qt jW 19 qM:=yD
open Go.Proofs
def j6:Nat->j8
 |0=>⟨Fu.z,Fu.z,Fu.z,Fu.z,Fu.z,Fu.z,Fu.z,Fu.z,Fu.z,Fu.z,Fu.z,Fu.z,Fu.z,Fu.z,Fu.z,Fu.z,Fu.z,Fu.z⟩
 |n+1=>⟨(vE (j6 n) n).1,(z6 (j6 n) n).1,(xe (j6 n) n).1,(z8 (j6 n) n).1,(x8 (j6 n) n).1,(BH (j6 n) n).1,(yV (j6 n) n).1,(Aa (j6 n) n).1,(yX (j6 n) n).1,(x9 (j6 n) n).1,(xf (j6 n) n).1,(yY (j6 n) n).1,(wi (j6 n) n).1,(sG (j6 n) n).1,(uf (j6 n) n).1,(ya (j6 n) n).1,(yb (j6 n) n).1,(wj (j6 n) n).1⟩
def kD:jX->Option Tb:=(j6 n).kD
def Kg{n:Nat}:kD (n+1)=(vE (j6 n) n).1:=rfl
def qF:Int->jX->Option Tb:=(j6 n).qF
def XW{n:Nat}:qF (n+1)=(z6 (j6 n) n).1:=rfl
def mV:Str->Str->jX->Option Tq:=(j6 n).mV
def So{n:Nat}:mV (n+1)=(xe (j6 n) n).1:=rfl
def qG:Int->jX->Option Tb:=(j6 n).qG
def XX{n:Nat}:qG (n+1)=(z8 (j6 n) n).1:=rfl
def pT:Int->jX->Option Tb:=(j6 n).pT
def UJ{n:Nat}:pT (n+1)=(x8 (j6 n) n).1:=rfl
def pW:jX->Option Tb:=(j6 n).pW
def Zt{n:Nat}:pW (n+1)=(BH (j6 n) n).1:=rfl
def n7:jX->Option Tb:=(j6 n).n7
def WD{n:Nat}:n7 (n+1)=(yV (j6 n) n).1:=rfl
def pY:jX->Option Tb:=(j6 n).pY
def XY{n:Nat}:pY (n+1)=(Aa (j6 n) n).1:=rfl
def oO:jX->Option Tb:=(j6 n).oO
def WE{n:Nat}:oO (n+1)=(yX (j6 n) n).1:=rfl
def oZ:jX->Option Tb:=(j6 n).oZ
def UK{n:Nat}:oZ (n+1)=(x9 (j6 n) n).1:=rfl
def oH:Syntax->jX->Option Tb:=(j6 n).oH
def Sp{n:Nat}:oH (n+1)=(xf (j6 n) n).1:=rfl
def qh:jX->Syntax->Option Te:=(j6 n).qh
def WF{n:Nat}:qh (n+1)=(yY (j6 n) n).1:=rfl
def nZ:jX->Option TE:=(j6 n).nZ
def QI{n:Nat}:nZ (n+1)=(wi (j6 n) n).1:=rfl
def mS:jX->Option Tb:=(j6 n).mS
def KG{n:Nat}:mS (n+1)=(sG (j6 n) n).1:=rfl
def k9:jX->Option Tb:=(j6 n).k9
def HX{n:Nat}:k9 (n+1)=(uf (j6 n) n).1:=rfl
def o9:jX->Syntax->Option Te:=(j6 n).o9
def UL{n:Nat}:o9 (n+1)=(ya (j6 n) n).1:=rfl
def pU:jX->Syntax->Option Te:=(j6 n).pU
def UM{n:Nat}:pU (n+1)=(yb (j6 n) n).1:=rfl
def n5:Syntax->Tx->Str->jX->Option Tb:=(j6 n).n5
def QJ{n:Nat}:n5 (n+1)=(wj (j6 n) n).1:=rfl
def ky{n:Nat}:(j6 n).kD=kD n/\(j6 n).qF=qF n/\(j6 n).mV=mV n/\(j6 n).qG=qG n/\(j6 n).pT=pT n/\(j6 n).pW=pW n/\(j6 n).n7=n7 n/\(j6 n).pY=pY n/\(j6 n).oO=oO n/\(j6 n).oZ=oZ n/\(j6 n).oH=oH n/\(j6 n).qh=qh n/\(j6 n).nZ=nZ n/\(j6 n).mS=mS n/\(j6 n).k9=k9 n/\(j6 n).o9=o9 n/\(j6 n).pU=pU n/\(j6 n).n5=n5 n:=⟨rfl,rfl,rfl,rfl,rfl,rfl,rfl,rfl,rfl,rfl,rfl,rfl,rfl,rfl,rfl,rfl,rfl,rfl⟩
def lh: ∀n:Nat,qR fQ 34 (lS 0 kP) jW true jW (mh (lM Syntax.kH) kP) jW j9 (kM (j6 n).kD)/\qR fQ 75 (lS 0 (mh (nq .i64) kP)) jW true jW (mh (lM Syntax.kH) kP) jW j9 (oh (j6 n).qF)/\qR fQ 78 (lS 0 (mh mI (mh mI kP))) jW true jW (mh (nP kg.row) kP) jW j9 (rD (j6 n).mV)/\qR fQ 76 (lS 0 (mh (nq .i64) kP)) jW true jW (mh (lM Syntax.kH) kP) jW j9 (oh (j6 n).qG)/\qR fQ 80 (lS 0 (mh (nq .i64) kP)) jW true jW (mh (lM Syntax.kH) kP) jW j9 (oh (j6 n).pT)/\qR fQ 125 (lS 0 kP) jW true jW (mh (lM Syntax.kH) kP) jW j9 (kM (j6 n).pW)/\qR fQ 163 (lS 0 kP) jW true jW (mh (lM Syntax.kH) kP) jW j9 (kM (j6 n).n7)/\qR fQ 196 (lS 0 kP) jW true jW (mh (lM Syntax.kH) kP) jW j9 (kM (j6 n).pY)/\qR fQ 217 (lS 0 kP) jW true jW (mh (lM Syntax.kH) kP) jW j9 (kM (j6 n).oO)/\qR fQ 241 (lS 0 kP) jW true jW (mh (lM Syntax.kH) kP) jW j9 (kM (j6 n).oZ)/\qR fQ 258 (lS 0 (mh (lM Syntax.kH) kP)) jW true jW (mh (lM Syntax.kH) kP) jW j9 (ue (j6 n).oH)/\qR fQ 259 (lS 0 (lS 1 kP)) kE true kE kP kE j9 (nK (j6 n).qh)/\qR fQ 269 (lS 0 kP) jW true jW (mh (nP Syntax.row) kP) jW j9 (tf (j6 n).nZ)/\qR fQ 275 (lS 0 kP) jW true jW (mh (lM Syntax.kH) kP) jW j9 (kM (j6 n).mS)/\qR fQ 282 (lS 0 kP) jW true jW (mh (lM Syntax.kH) kP) jW j9 (kM (j6 n).k9)/\qR fQ 290 (lS 0 (lS 1 kP)) kE true kE kP kE j9 (nK (j6 n).o9)/\qR fQ 291 (lS 0 (lS 1 kP)) kE true kE kP kE j9 (nK (j6 n).pU)/\qR fQ 77 qt jW true jW (mh (lM Syntax.kH) kP) jW j9 (qM (j6 n).n5)
 |0=>⟨fun _ _ _ h=>(by cases h),fun _ _ _ h=>(by cases h),fun _ _ _ h=>(by cases h),fun _ _ _ h=>(by cases h),fun _ _ _ h=>(by cases h),fun _ _ _ h=>(by cases h),fun _ _ _ h=>(by cases h),fun _ _ _ h=>(by cases h),fun _ _ _ h=>(by cases h),fun _ _ _ h=>(by cases h),fun _ _ _ h=>(by cases h),fun _ _ _ h=>(by cases h),fun _ _ _ h=>(by cases h),fun _ _ _ h=>(by cases h),fun _ _ _ h=>(by cases h),fun _ _ _ h=>(by cases h),fun _ _ _ h=>(by cases h),fun _ _ _ h=>(by cases h)⟩
 |n+1=>by
  obtain⟨pR,WG,Gv,WH,Sq,XZ,UN,WI,UO,Ss,QK,UP,E6,Kh,Gw,HY,St,Pk⟩:=lh n
  exact⟨ax2 (ak7 fun u=>PE aha (fun _ _ _ _=>rfl) (jV) (fun b a r h=>(L1 n) b.2.1.1 r h u)) (vE (j6 n) n) (gd (ke (oP (mr (rV n))) (ke (pq (fun b a r h=>(lB n) b.1 r h)) (ke (oP (LS (wD n))) (ke (oP (vh (nU n))) kj)))) ko (p:=(kx (kL (WG)) (kx (kL (WH)) (kx (kL (Sq)) lr)))) (c:=(mP (xz (l7 n)) (mP (xz (Pk)) (mP (xz (Gv)) sQ))))) func34 ntmps34 results34,
   A6 (z6 (j6 n) n) (gd (ke (pq (fun b a r h=>(lB n) b.1 r h)) (ke (oP (vh (nU n))) (ke (pq (fun b a r h=>(Ik n) b.1 r h)) (ke (aab (Ml n)) kj)))) ko (p:=(kx (kL (pR)) (kx (kL (nY n)) (kx (kL (l7 n)) (kx (kL (Gv)) (kx (kL (rO n)) lr))))))) func75 ntmps75 results75,
   A6 (xe (j6 n) n) (gd (ke (pq (fun b a r h=>(lB n) b.1 r h)) (ke (oP (mr (wY n))) (ke (pJ (SU n)) kj))) ko (p:=(kx (kL (pR)) (kx (kL (nY n)) (kx (kL (l7 n)) (kx (kL (rO n)) lr)))))) func78 ntmps78 results78,
   A6 (z8 (j6 n) n) (gd (ke (pq (fun b a r h=>(lB n) b.1 r h)) (ke (pq (fun b a r h=>(Ik n) b.1 r h)) (ke (pq (fun b a r h=>(lR n) b.1 a.1 r h)) kj))) ko (p:=(kx (kL (pR)) (kx (kL (nY n)) (kx (kL (rO n)) lr))))) func76 ntmps76 results76,
   A6 (x8 (j6 n) n) (gd (ke (pq (fun b a r h=>(lR n) b.1 a.1 r h)) (ke (pJ (SU n)) (ke (pq (fun b a r h=>(OU n) b.1 a.1 r h)) kj))) (ng (LS (Ml n)) ko) (p:=(kx (kL (XZ)) lr)) (c:=(mP (xz (pR)) sQ))) func80 ntmps80 results80,
   A6 (BH (j6 n) n) (gd (ke (oP (mr (D8 n))) (ke (oP (mr (FW n))) (ke (pJ (aaW n)) kj))) ko (p:=(kx (kL (nV n)) (kx (kL (l7 n)) (kx (kL (sX n)) (kx (kL (UN)) lr)))))) func125 ntmps125 results125,
   A6 (yV (j6 n) n) (gd (ke (oP (mr (rV n))) (ke (pq (fun b a r h=>(lB n) b.1 r h)) (ke (oP (mr (qW n))) (ke (oP (mr (D8 n))) kj)))) ko (p:=(kx (kL (WI)) lr))) func163 ntmps163 results163,
   A6 (Aa (j6 n) n) (gd (ke (oP (mr (FW n))) kj) ko (p:=(kx (kL (l7 n)) (kx (kL (UO)) lr)))) func196 ntmps196 results196,
   A6 (yX (j6 n) n) (gd (ke (pq (fun b a r h=>(lB n) b.1 r h)) (ke (oP (vh (nU n))) kj)) ko (p:=(kx (kL (l7 n)) (kx (kL (Ss)) lr))) (c:=(mP (JG (mr (qW n))) sQ))) func217 ntmps217 results217,
   A6 (x9 (j6 n) n) (gd (ke (oP (mr (rV n))) (ke (pq (fun b a r h=>(lR n) b.1 a.1 r h)) (ke (oP (mr (qW n))) kj))) ko (p:=(kx (kL (QK)) (kx (kL (UP)) lr)))) func241 ntmps241 results241,
   A6 (xf (j6 n) n) (gd (ke (pq (fun b a r h=>(lR n) b.1 a.1 r h)) (ke (oP (mr (qW n))) kj)) ko (p:=(kx (kL (pR)) (kx (kL (nY n)) (kx (kL (l7 n)) lr)))) (c:=(mP (xz (pR)) (mP (xz (nV n)) (mP (JG (vh (nU n))) (mP (JG (mr (qW n))) sQ)))))) func258 ntmps258 results258,
   A6 (yY (j6 n) n) (gd (ke (oP (mr (lJ n))) (ke (pq (fun b a r h=>(lB n) b.1 r h)) (ke (oP (LS (wD n))) (ke (pq (fun b a r h=>(lR n) b.1 a.1 r h)) kj)))) ko (p:=(kx (kL (nY n)) (kx (kL (sX n)) (kx (kL (It n)) (kx (kL (AI n)) (kx (kL (Qx n)) (kx (kL (Wt n)) (kx (kL (E6)) lr))))))))) func259 ntmps259 results259,
   A6 (wi (j6 n) n) (gd (ke (oP (vh (nU n))) (ke (pq (fun b a r h=>(lR n) b.1 a.1 r h)) kj)) ko (p:=(kx (kL (l7 n)) (kx (kL (Kh)) lr)))) func269 ntmps269 results269,
   A6 (sG (j6 n) n) (gd (ke (pq (fun b a r h=>(lR n) b.1 a.1 r h)) kj) ko (p:=(kx (kL (l7 n)) (kx (kL (Gw)) lr)))) func275 ntmps275 results275,
   ax2 (ak7 fun u=>PE aha (fun _ _ _ _=>rfl) (jV) (fun b a r h=>(Kw n) b.2.1.1 r h u)) (uf (j6 n) n) (gd (ke (oP (vh (nU n))) (ke (oP (mr (qW n))) kj)) ko (p:=(kx (kL (HY)) (kx (kL (St)) lr))) (c:=(mP (JG (mr (lJ n))) (mP (xz (nV n)) (mP (JG (mr (rV n))) (mP (xz (l7 n)) sQ)))))) func282 ntmps282 results282,
   A6 (ya (j6 n) n) (gd kj ko (p:=(kx (kL (nY n)) (kx (kL (E6)) lr)))) func290 ntmps290 results290,
   A6 (yb (j6 n) n) (gd (ke (oP (mr (lJ n))) (ke (pq (fun b a r h=>(lB n) b.1 r h)) kj)) ko (p:=(kx (kL (pR)) (kx (kL (sX n)) (kx (kL (rO n)) (kx (kL (It n)) (kx (kL (CD n)) (kx (kL (Gw)) (kx (kL (HY)) (kx (kL (MA n)) lr))))))))) (c:=(mP (ata (OR n)) (mP (xz (l7 n)) sQ)))) func291 ntmps291 results291,
   A6 (wj (j6 n) n) (gd kj (ng (LS (Ml n)) ko) (p:=(kx (kL (nY n)) lr)) (c:=(mP (xz (pR)) sQ))) func77 ntmps77 results77⟩
def UQ:qR fQ 34 (lS 0 kP) jW true jW (mh (lM Syntax.kH) kP) jW j9 (kM (kD n)):=(lh n).1
def alj:qR fQ 75 (lS 0 (mh (nq .i64) kP)) jW true jW (mh (lM Syntax.kH) kP) jW j9 (oh (qF n)):=(lh n).2.1
def ahf:qR fQ 78 (lS 0 (mh mI (mh mI kP))) jW true jW (mh (nP kg.row) kP) jW j9 (rD (mV n)):=(lh n).2.2.1
def alk:qR fQ 76 (lS 0 (mh (nq .i64) kP)) jW true jW (mh (lM Syntax.kH) kP) jW j9 (oh (qG n)):=(lh n).2.2.2.1
def aiL:qR fQ 80 (lS 0 (mh (nq .i64) kP)) jW true jW (mh (lM Syntax.kH) kP) jW j9 (oh (pT n)):=(lh n).2.2.2.2.1
def amm:qR fQ 125 (lS 0 kP) jW true jW (mh (lM Syntax.kH) kP) jW j9 (kM (pW n)):=(lh n).2.2.2.2.2.1
def aji:qR fQ 163 (lS 0 kP) jW true jW (mh (lM Syntax.kH) kP) jW j9 (kM (n7 n)):=(lh n).2.2.2.2.2.2.1
def alm:qR fQ 196 (lS 0 kP) jW true jW (mh (lM Syntax.kH) kP) jW j9 (kM (pY n)):=(lh n).2.2.2.2.2.2.2.1
def ajj:qR fQ 217 (lS 0 kP) jW true jW (mh (lM Syntax.kH) kP) jW j9 (kM (oO n)):=(lh n).2.2.2.2.2.2.2.2.1
def aiM:qR fQ 241 (lS 0 kP) jW true jW (mh (lM Syntax.kH) kP) jW j9 (kM (oZ n)):=(lh n).2.2.2.2.2.2.2.2.2.1
def ahg:qR fQ 258 (lS 0 (mh (lM Syntax.kH) kP)) jW true jW (mh (lM Syntax.kH) kP) jW j9 (ue (oH n)):=(lh n).2.2.2.2.2.2.2.2.2.2.1
def ajk:qR fQ 259 (lS 0 (lS 1 kP)) kE true kE kP kE j9 (nK (qh n)):=(lh n).2.2.2.2.2.2.2.2.2.2.2.1
def agp:qR fQ 269 (lS 0 kP) jW true jW (mh (nP Syntax.row) kP) jW j9 (tf (nZ n)):=(lh n).2.2.2.2.2.2.2.2.2.2.2.2.1
def acu:qR fQ 275 (lS 0 kP) jW true jW (mh (lM Syntax.kH) kP) jW j9 (kM (mS n)):=(lh n).2.2.2.2.2.2.2.2.2.2.2.2.2.1
def ahh:qR fQ 282 (lS 0 kP) jW true jW (mh (lM Syntax.kH) kP) jW j9 (kM (k9 n)):=(lh n).2.2.2.2.2.2.2.2.2.2.2.2.2.2.1
def aiN:qR fQ 290 (lS 0 (lS 1 kP)) kE true kE kP kE j9 (nK (o9 n)):=(lh n).2.2.2.2.2.2.2.2.2.2.2.2.2.2.2.1
def aiO:qR fQ 291 (lS 0 (lS 1 kP)) kE true kE kP kE j9 (nK (pU n)):=(lh n).2.2.2.2.2.2.2.2.2.2.2.2.2.2.2.2.1
def agq:qR fQ 77 qt jW true jW (mh (lM Syntax.kH) kP) jW j9 (qM (n5 n)):=(lh n).2.2.2.2.2.2.2.2.2.2.2.2.2.2.2.2.2
open Go.Proofs
@[reducible] def YM:kU TJ:=oI fQ f14 n (awz (LV [(31,Ic [.arg 0 [],.arg 1 [],.arg 2 []] kz (lS 0 (lS 1 (lS 2 kP))) kz kP (fun(b:Tg)(a:Unit)=>(uS n) b.1.1 b.2.1.1 b.2.2.1.1))]) (LV [(31,Ic [.arg 0 [],.arg 1 [],.arg 2 []] kz uj kz kP (fun(b:Tg)(a:T8)=>(rA n) a.1 b.1.1 b.2.1.1 b.2.2.1.1))]) fQ [.cell 4 29,.cell 5 3,.cell 6 30] (ty3 (lM Syntax.kH) (nq .i64) (nq .i64))) (oz:=apa (LV [(31,Ic [.arg 0 [],.arg 1 [],.arg 2 []] kz (lS 0 (lS 1 (lS 2 kP))) kz kP (fun(b:Tg)(a:Unit)=>(uS n) b.1.1 b.2.1.1 b.2.2.1.1))]) (LV [(31,Ic [.arg 0 [],.arg 1 [],.arg 2 []] kz uj kz kP (fun(b:Tg)(a:T8)=>(rA n) a.1 b.1.1 b.2.1.1 b.2.2.1.1))]) fQ [.cell 4 29,.cell 5 3,.cell 6 30] (ty3 (lM Syntax.kH) (nq .i64) (nq .i64))) (cp:=yj [(33,MC (xn n)),(34,l5 (kD n)),(35,HD (vC n))]) (uR:=mg [33,34,35])
def Jo:{B:Str->(List jY)->Option TJ // ∀(a0:Str)(a1:(List jY)),run (YM n) [.at []] (ini [mI.enc a0,(nP jY.row).enc a1] 23)=B a0 a1}:=Cv
def Dz:=fu fun n=>(Jo n).1
def WJ: ∀(n:Nat)(a0:Str)(a1:(List jY))(r:TJ),Dz n a0 a1=some r->IR fQ 14 [mI.enc a0,(nP jY.row).enc a1] (fun v=>v=(ty3 (lM Syntax.kH) (nq .i64) (nq .i64)).enc r)
 |0,_,_,_,h=>by cases h
 |n+1,a0,a1,r,h=>by
  exact akW (M:=YM n) (t:=(ty3 (lM Syntax.kH) (nq .i64) (nq .i64))) (cr:=(LV [(31,Ic [.arg 0 [],.arg 1 [],.arg 2 []] kz (lS 0 (lS 1 (lS 2 kP))) kz kP (fun(b:Tg)(a:Unit)=>(uS n) b.1.1 b.2.1.1 b.2.2.1.1))])) (cp:=(LV [(31,Ic [.arg 0 [],.arg 1 [],.arg 2 []] kz uj kz kP (fun(b:Tg)(a:T8)=>(rA n) a.1 b.1.1 b.2.1.1 b.2.2.1.1))])) ⟨kj,ko,qS _,rq _,vg,vi,(kx (kL (XP n)) (kx (kL (UQ n)) (kx (kL (Qp n)) lr))),wm⟩ (GN (PE abi (fun _ _ _ _=>rfl) (jV) (fun b a r h=>(Xv n) b.1.1 b.2.1.1 b.2.2.1.1 r h)) JF) (GN (PE abj (fun _ _ _ _=>rfl) (jV) (fun b a r h=>(XD n) a.1 b.1.1 b.2.1.1 b.2.2.1.1 r h)) JF) func14 rfl rfl ⟨mI.nb 0 _,(nP jY.row).nb 0 _,trivial⟩ ntmps14 results14 rfl rfl (((Jo n).2 a0 a1).trans h)
open Go.Proofs
@[reducible] def agr:kU Bool:=oI fQ f13 n (nH fQ [.tmp 0] mX) (cl:=nR [(14,uC mI (nP jY.row) (ty3 (lM Syntax.kH) (nq .i64) (nq .i64)) (Dz n))])
def YN:SC0 (agr n) 133:=mB
def xl:=fu fun n=>(YN n).1
def MJ: ∀n:Nat,aqP fQ 13 mX (xl n):=azt fun n=>azs (YN n) (gd (ke (pJ (WJ n)) kj) ko) func13 ntmps13 results13
open Go.Proofs
@[reducible] def Zu:kU Bool:=oI fQ f9 n (nH fQ [.tmp 4] mX) (cl:=nR [(12,ny (nP jY.row) mX (Xi n)),(13,aen mX (xl n)),(14,uC mI (nP jY.row) (ty3 (lM Syntax.kH) (nq .i64) (nq .i64)) (Dz n)),(18,uC (lM Syntax.kH) (nq .i64) (nq .i64) (qX n)),(19,uC (lM Syntax.kH) (lM Syntax.kH) mX (s7 n)),(23,ny (lM Syntax.kH) mX (xj n)),(24,ny (lM Syntax.kH) mX (oU n)),(25,ny (lM Syntax.kH) mI (tY n))])
def FE:SC2 (Zu n) mI (nP jY.row) 90:=mB
def I5:=fu fun n=>(FE n).1
def amn: ∀n:Nat,GO fQ 9 mI (nP jY.row) mX (I5 n):=LX fun n=>Ks (FE n) (gd (ke (lF (aiK n)) (ke (aaa (MJ n)) (ke (pJ (WJ n)) (ke (pJ (L3 n)) (ke (pJ (V7 n)) (ke (lF (VT n)) (ke (lF (VB n)) (ke (lF (agf n)) kj)))))))) ko) func9 ntmps9 results9
@[reducible] def MK:kU Bool:=oI fQ f5 n (nH fQ [.tmp 4] mX) (cl:=nR [(13,aen mX (xl n)),(18,uC (lM Syntax.kH) (nq .i64) (nq .i64) (qX n))]) (cd:=JB [(13,qa (aen mX (xl n))),(19,qa (uC (lM Syntax.kH) (lM Syntax.kH) mX (s7 n))),(20,qa (uC (lM Syntax.kH) (lM Syntax.kH) mX (R0 n)))]) (vf:=mg []) (vJ:=mg [])
@[go_sem]def Zv:tM (MK n) [0,1,1]=true:=jV
def FF:SC2 (MK n) (lM Syntax.kH) (lM Syntax.kH) 29:=mB
def DX:=fu fun n=>(FF n).1
def amo: ∀n:Nat,GO fQ 5 (lM Syntax.kH) (lM Syntax.kH) mX (DX n):=LX fun n=>Ks (FF n) (gd (ke (aaa (MJ n)) (ke (pJ (L3 n)) kj)) (ng (asp (MJ n)) (ng (vh (V7 n)) (ng (vh (agh n)) ko)))) func5 ntmps5 results5
end Go.Abs
end
