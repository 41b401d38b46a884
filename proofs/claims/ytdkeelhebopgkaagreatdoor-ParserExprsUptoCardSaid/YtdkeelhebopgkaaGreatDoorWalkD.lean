/- A part of the proof: what the functions compute. -/
import Derived.Test.YtdkeelhebopgkaaGreatDoorDataA
import Derived.Test.YtdkeelhebopgkaaGreatDoorWalkA
import Derived.Test.YtdkeelhebopgkaaGreatDoorWalkB
import Derived.Test.YtdkeelhebopgkaaGreatDoorWalkC
set_option linter.all false
open Go.Proofs.Tryz renaming prog→gh
open Go.Abs.AV renaming any→qA
noncomputable section
open Go.Proofs.Tryz
namespace Go.Abs
variable {m:Nat}
variable (n:Nat)
open Go.Proofs
attribute [go_sem] f34 f75 f76 f80 f125 f163 f196 f217 f241 f258 f259 f269 f275 f282 f290 f291 f77 f14 f13 f3
set_option maxRecDepth 100000
set_option maxHeartbeats 4000000
@[reducible] def lG(X:j6)(n:Nat):kR Tc:=nX gh f34 n (amK (QH [(73,Mf [.arg 0 [],.Ci 0 0 []] lB (my 0 k7) lB k7 (fun(b:(Unit×T6))(a:Unit)=>(ol n) b.2.1.1))]) (qI gh [.cell 2 29] [] [0] 1 jS (mH (lJ Syntax.ku) k7)) (qJ [] [0] 1 jS j8)) (cl:=ni [(58,qP (nG (mD (rI jU.ku) (lR .i64) (qf n)))),(59,nu [0] (lm (lA jU.ku) li) (pS 0 pG) (lm (lA jU.ku) li) (sr mb pd) (fun(b:Td) a=>(lr n) b.1)),(74,qP (nG (X1 (rI jU.ku) (lR .i64) mb nk (uU n)))),(79,qP (nG (rL (rI jU.ku) mb nk (nP n))))]) (pT:=amL (QH [(73,Mf [.arg 0 [],.Ci 0 0 []] lB (my 0 k7) lB k7 (fun(b:(Unit×T6))(a:Unit)=>(ol n) b.2.1.1))]) (qI gh [.cell 2 29] [] [0] 1 jS (mH (lJ Syntax.ku) k7)) (qJ [] [0] 1 jS j8)) (co:=Mc [(72,E0 [.arg 0 []] jS (my 0 (mH (lR .i64) k7)) jS k7 jS j8 (pU (lN n))),(77,E0 [.arg 0 []] jS sB jS (mH (lJ Syntax.ku) k7) jS j8 (s8 X.pJ)),(78,E0 [.arg 0 []] jS (my 0 (mH mb (mH mb k7))) jS (mH (mZ kg.row) k7) jS j8 (tM X.n9))]) (cp:=Aj [(75,B0 X.sR),(76,B0 X.sS),(80,B0 X.rn)]) (wF:=mc [75,76,80]) (uO:=mc [72,77,78]) (uR:=mc [])
def ac9(X:j6)(n:Nat):aCb (lG X n) [0,0,1,1,1,1,1,1,1,0,0,1,1,1,1,1] [0,0,1,1,1,1,1,1,1,1,1,0,0,1,1,1,1,1] [0,1] [0,1,0,1,1,1,1,1,0,0,1,1,1,1,1]:=⟨jR,jR,jR,jR⟩
def ada(X:j6)(n:Nat):Bh (lG X n) [0,0,1,1,1,1,1,1,1,0,0,1,1,1,1,1] 3 4 0 5 3 5 4 5/\Bh (lG X n) [0,0,1,1,1,1,1,1,1,0,0,1,1,1,1,1] 0 6 3 6 4 6 5 6/\Bh (lG X n) [0,0,1,1,1,1,1,1,1,1,1,0,0,1,1,1,1,1] 3 4 0 5 3 5 4 5/\Bh (lG X n) [0,0,1,1,1,1,1,1,1,1,1,0,0,1,1,1,1,1] 0 6 3 6 4 6 5 6/\akF (lG X n) [0,1] 0 7 3 7 6 7/\Bh (lG X n) [0,1,0,1,1,1,1,1,0,0,1,1,1,1,1] 3 4 0 5 3 5 4 5/\Bh (lG X n) [0,1,0,1,1,1,1,1,0,0,1,1,1,1,1] 0 6 3 6 4 6 5 6:=⟨⟨jR,jR,jR,jR⟩,⟨jR,jR,jR,jR⟩,⟨jR,jR,jR,jR⟩,⟨jR,jR,jR,jR⟩,⟨jR,jR,jR⟩,⟨jR,jR,jR,jR⟩,jR,jR,jR,jR⟩
def adb(X:j6)(n:Nat):Mb (lG X n) [0,0,1,1,1,1,1,1,1,0,0,1,1,1,1,1] 4 5=true/\Mb (lG X n) [0,0,1,1,1,1,1,1,1,0,0,1,1,1,1,1] 4 6=true/\Mb (lG X n) [0,0,1,1,1,1,1,1,1,1,1,0,0,1,1,1,1,1] 4 5=true/\Mb (lG X n) [0,0,1,1,1,1,1,1,1,1,1,0,0,1,1,1,1,1] 4 6=true/\Mb (lG X n) [0,1,0,1,1,1,1,1,0,0,1,1,1,1,1] 4 5=true/\Mb (lG X n) [0,1,0,1,1,1,1,1,0,0,1,1,1,1,1] 4 6=true/\UD (lG X n) [0,0,1,1,1,1,1,1,1,0,0,1,1,1,1,1] 4=false/\UD (lG X n) [0,0,1,1,1,1,1,1,1,0,0,1,1,1,1,1] 5=true/\UD (lG X n) [0,0,1,1,1,1,1,1,1,1,1,0,0,1,1,1,1,1] 4=false/\UD (lG X n) [0,0,1,1,1,1,1,1,1,1,1,0,0,1,1,1,1,1] 5=true/\UD (lG X n) [0,1] 7=true/\UD (lG X n) [0,1,0,1,1,1,1,1,0,0,1,1,1,1,1] 4=false/\UD (lG X n) [0,1,0,1,1,1,1,1,0,0,1,1,1,1,1] 5=true:=⟨jR,jR,jR,jR,jR,jR,jR,jR,jR,jR,jR,jR,jR⟩
attribute [go_sem] ac9 ada adb
def xL(X:j6)(n:Nat):SX (lG X n) (my 0 k7) jS 80 kY:=Al
open Go.Proofs
@[go_sem]def ON:wH:=⟨[(5,9,true)],[],(zK::zK::zA::zA::zK::zK::zK::mG (mG (mG (zA::zA::[])))),[oT jU.ku,oK,oA kg.row],none,none⟩
@[reducible] def P3(X:j6)(n:Nat):kR Tc:=nX gh f75 n (qI gh [.cell 4 29] [] [0] 1 jS (mH (lJ Syntax.ku) k7)) (cl:=ni [(59,nu [0] (lm (lA jU.ku) li) (pS 0 pG) (lm (lA jU.ku) li) (sr mb pd) (fun(b:Td) a=>(lr n) b.1)),(79,qP (nG (rL (rI jU.ku) mb nk (nP n)))),(120,nu [0] (lm (lA jU.ku) li) (pS 0 pG) (lm (lA jU.ku) li) (sr (lJ Syntax.ku) pd) (fun(b:Td) a=>(xe n) b.1)),(121,X1 (lJ Syntax.ku) (mZ kg.row) (lJ Syntax.ku) (lJ Syntax.ku) (Da n))]) (rK:=qF [([0,1,0,1,1,1],ON)]) (pT:=qJ [] [0] 1 jS j8) (cp:=Aj [(34,mR X.kL),(60,oV (mQ n)),(72,lV (lN n)),(78,LU X.n9),(119,nY (pV n))]) (wF:=mc [34,60,72,78,119])
@[go_sem]abbrev OO(v0 v1:Int)(o0:jU)(r2:List kg)(c2:Nat):jX:=⟨(.ptr 0 0::.int .i64 v0::qA::qA::.ptr 1 0::.mE 2 c2::.int .i64 v1::mM (mM (mM (qA::qA::[])))),[.cells (jU.cells o0),.cells [.int .i64 0,.str (sb []),.int .i64 0,.lS true 0 [],.lS true 0 [],.lS true 0 [],.int .i64 0,.int .i64 0],.mE true 9 (mp kg.cells r2)],1,[]⟩
abbrev OP:=Int->Int->jU->TE->Option Tc
abbrev ade(X:j6)(n:Nat)(K:List Kt)(Z:OP):Prop:=∀v0 v1 o0 r2 c2,c2=r2.length->run (P3 X n) K (OO v0 v1 o0 r2 c2)=Z v0 v1 o0 r2
def xM(X:j6)(n:Nat):LB (ade X n) [0,1,0,1,1,1] [.qU 0,.cut [1,1,1,1],.at [1,1,1,1]]:=yp
def tz(X:j6)(n:Nat):Nat->OP:=xb ((xM X n).1)
def LW(X:j6){n:Nat}:tz X n (m+1)=(xM X n).1 (tz X n m):=rfl
@[go_sem]def Xg(X:j6)(n:Nat)(m:Nat):=yL (xM X n) (tz X n) m
def B1(X:j6)(n:Nat):SX (P3 X n) (my 0 (mH (lR .i64) k7)) jS 57 pR:=Al
open Go.Proofs
@[go_sem]def alN:wH:=⟨[],[],(zK::zK::zK::nf (zK::mG (mG (nf (nf (nf (zA::zA::[]))))))),[oT jU.ku,oA mq],none,none⟩
@[go_sem]def Im:wH:=⟨[],[],(zK::zK::zK::nf (zL mq::mG (mG (nf (nf (nf (zA::zA::[]))))))),[oT jU.ku],(some 7),none⟩
@[reducible] def zf(X:j6)(n:Nat):kR Tv:=nX gh f78 n (qI gh [.tmp 6] [] [0] 1 jS (mH (mZ kg.row) k7)) (cl:=ni [(59,nu [0] (lm (lA jU.ku) li) (pS 0 pG) (lm (lA jU.ku) li) (sr mb pd) (fun(b:Td) a=>(lr n) b.1)),(123,qP (nG (mD (rI jU.ku) nk (sA n)))),(124,rL (mZ mq) (lJ Syntax.ku) (mZ kg.row) (GF n))]) (rK:=qF [([0,0,1,1,1],Im),([0,0,1,1,1],alN)]) (pT:=qJ [] [0] 1 jS j8) (cp:=Aj [(34,mR X.kL),(60,oV (mQ n)),(72,lV (lN n)),(119,nY (pV n))]) (wF:=mc [34,60,72,119])
@[go_sem]abbrev alP(v0 v1:Str)(o0:jU)(r1:List Str)(c1:Nat):jX:=⟨(.ptr 0 0::.str (sb v0)::.str (sb v1)::nv (.mE 1 c1::mM (mM (nv (nv (nv (qA::qA::[]))))))),[.cells (jU.cells o0),.mE true 1 (mp nh r1)],1,[]⟩
abbrev alT:=Str->Str->jU->(List Str)->Option Tv
abbrev Xh(X:j6)(n:Nat)(K:List Kt)(Z:alT):Prop:=∀v0 v1 o0 r1 c1,c1=r1.length->run (zf X n) K (alP v0 v1 o0 r1 c1)=Z v0 v1 o0 r1
def vh(X:j6)(n:Nat):LB (Xh X n) [0,0,1,1,1] [.qU 0,.cut [1,1,1,1],.at [1,1,1,1]]:=by
 apply Subtype.mk;intro m X0 ih v0 v1 o0 r1 c1 ec1;subst ec1;simp (config:={maxSteps:=100000000}) only[go_sem,Nat.reduceAdd,Nat.reduceSub,Nat.reduceLeDiff,Nat.reduceEqDiff,Nat.reduceBEq,Nat.reduceMul,Nat.reduceLT,Int.reduceLE,Int.reduceLT,Int.reduceToNat,Int.reduceBEq,Int.reduceEq,f78,Option.getD_some,mixed,ih];exact rfl
def yc(X:j6)(n:Nat):Nat->alT:=xb ((vh X n).1)
def G4(X:j6){n:Nat}:yc X n (m+1)=(vh X n).1 (yc X n m):=rfl
def Gj(X:j6)(n:Nat)(m:Nat):=yL (vh X n) (yc X n) m
def xz(X:j6)(n:Nat):{B:Nat->Str->Str->(List Str)->jU->Option Tv //∀(m:Nat)(v0 v1:Str)(v2:List Str)(o0:jU),run (zf X n) [.at [0,0,0,1,1,1],.lp m [0,0,1,1,1],.qU 0,.cut [1,1,1,1],.at [1,1,1,1]] ⟨[.ptr 0 0,.str (sb v0),.str (sb v1),qA,qA,qA,qA,.lS true 1 (mp nh v2),qA,qA,qA,qA,qA,qA,qA,qA,qA,qA,qA,qA,qA,qA,qA,qA,qA,qA,qA,qA,qA,qA,qA,qA,qA,qA,qA,qA,qA,qA,qA,qA,qA,qA,qA,qA,qA,qA,qA,qA,qA,qA,qA,qA,qA,qA],[.cells (jU.cells o0)],1,[]⟩=B m v0 v1 v2 o0}:=by
 apply Subtype.mk;intro m v0 v1 v2 o0;simp (config:={maxSteps:=100000000}) only[go_sem,Nat.reduceAdd,Nat.reduceSub,Nat.reduceLeDiff,Nat.reduceEqDiff,Nat.reduceBEq,Nat.reduceMul,Nat.reduceLT,Int.reduceLE,Int.reduceLT,Int.reduceToNat,Int.reduceBEq,Int.reduceEq,f78,Option.getD_some,mixed,Gj X n];exact rfl
def vi(X:j6)(n:Nat):Nat->Str->Str->(List Str)->jU->Option Tv
 |0,_,_,_,_=>none
 |m+1,v0,v1,v2,o0=>(xz X n).1 m v0 v1 v2 o0
def RE(X:j6)(n:Nat):∀(m:Nat),(∀(v0 v1:Str)(v2:List Str)(o0:jU),run (zf X n) [.lq m [0,0,1,1,1],.qU 0,.cut [1,1,1,1],.at [1,1,1,1]] ⟨[.ptr 0 0,.str (sb v0),.str (sb v1),qA,qA,qA,qA,.lS true 1 (mp nh v2),qA,qA,qA,qA,qA,qA,qA,qA,qA,qA,qA,qA,qA,qA,qA,qA,qA,qA,qA,qA,qA,qA,qA,qA,qA,qA,qA,qA,qA,qA,qA,qA,qA,qA,qA,qA,qA,qA,qA,qA,qA,qA,qA,qA,qA,qA],[.cells (jU.cells o0)],1,[]⟩=vi X n m v0 v1 v2 o0)
 |0=>by intros;exact Jm
 |m+1=>by
  intro v0 v1 v2 o0;rw[C7];exact(xz X n).2 m v0 v1 v2 o0
def zg(X:j6)(n:Nat):SX (zf X n) (my 0 (mH mb (mH mb k7))) jS 54 tM:=by
 apply Subtype.mk
 repeat (first|refine Prod.forall.2 ?_|intro)
 simp (config:={maxSteps:=100000000}) only[go_sem,Nat.reduceAdd,Nat.reduceSub,Nat.reduceLeDiff,Nat.reduceEqDiff,Nat.reduceBEq,Nat.reduceMul,Nat.reduceLT,Int.reduceLE,Int.reduceLT,Int.reduceToNat,Int.reduceBEq,Int.reduceEq,f78,Option.getD_some,mixed,Gj X n,RE X n];exact rfl
open Go.Proofs
@[reducible] def B2(X:j6)(n:Nat):kR Tc:=nX gh f76 n (qI gh [.cell 4 29] [] [0] 1 jS (mH (lJ Syntax.ku) k7)) (cl:=ni [(59,nu [0] (lm (lA jU.ku) li) (pS 0 pG) (lm (lA jU.ku) li) (sr mb pd) (fun(b:Td) a=>(lr n) b.1)),(120,nu [0] (lm (lA jU.ku) li) (pS 0 pG) (lm (lA jU.ku) li) (sr (lJ Syntax.ku) pd) (fun(b:Td) a=>(xe n) b.1)),(122,nu [0] (lm (lA jU.ku) li) (pS 0 (Ao mb pG)) (lm (lA jU.ku) li) (sr nk pd) (fun(b:Td) a=>(l6 n) b.1 a.1))]) (pT:=qJ [] [0] 1 jS j8) (cp:=Aj [(34,mR X.kL),(60,oV (mQ n)),(119,nY (pV n))]) (wF:=mc [34,60,119]) (uO:=mc []) (uR:=mc [])
@[go_sem]def aeT(X:j6)(n:Nat):sP (B2 X n) [0,1,1,1,1,1,1,1,1,1]=true:=jR
@[go_sem]def aeU(X:j6)(n:Nat):Bh (B2 X n) [0,1,1,1,1,1,1,1,1,1] 0 7 1 7 2 7 0 9/\Bh (B2 X n) [0,1,1,1,1,1,1,1,1,1] 1 9 2 9 5 9 7 9:=⟨⟨jR,jR,jR,jR⟩,jR,jR,jR,jR⟩
def B3(X:j6)(n:Nat):SX (B2 X n) (my 0 (mH (lR .i64) k7)) jS 48 pR:=Al
open Go.Proofs
@[reducible] def uh(X:j6)(n:Nat):kR Tc:=nX gh f80 n (qI gh [.cell 4 29] [] [0] 1 jS (mH (lJ Syntax.ku) k7)) (cl:=ni [(122,nu [0] (lm (lA jU.ku) li) (pS 0 (Ao mb pG)) (lm (lA jU.ku) li) (sr nk pd) (fun(b:Td) a=>(l6 n) b.1 a.1)),(124,rL (mZ mq) (lJ Syntax.ku) (mZ kg.row) (GF n)),(126,nu [0] (lm (lA jU.ku) li) (pS 0 (Ao (lR .i64) pG)) (lm (lA jU.ku) li) (sr (mZ mq) pd) (fun(b:Td) a=>(zX n) b.1 a.1))]) (cd:=N5 [(121,nG (X1 (lJ Syntax.ku) (mZ kg.row) (lJ Syntax.ku) (lJ Syntax.ku) (Da n)))]) (pT:=qJ [] [0] 1 jS j8) (co:=Mc [(34,E0 [.arg 0 []] jS (my 0 k7) jS (mH (lJ Syntax.ku) k7) jS j8 (kY X.kL))]) (cp:=Aj [(125,mR X.rC)]) (wF:=mc [125]) (uO:=mc [34]) (uR:=mc [])
def aaX(X:j6)(n:Nat):sP (uh X n) [0,1,1,1,1,1,1]=true:=jR
def aaY(X:j6)(n:Nat):aob (uh X n) [0,1,1,1,1,1,1] 1 7 5 7:=⟨jR,jR⟩
def aaZ(X:j6)(n:Nat):Mb (uh X n) [0,1,1,1,1,1,1] 5 6=true/\Mb (uh X n) [0,1,1,1,1,1,1] 5 7=true/\UD (uh X n) [0,1,1,1,1,1,1] 5=false:=⟨jR,jR,jR⟩
attribute [go_sem] aaX aaY aaZ
def Af(X:j6)(n:Nat):SX (uh X n) (my 0 (mH (lR .i64) k7)) jS 55 pR:=Al
open Go.Proofs
@[go_sem]def P4:wH:=⟨[(3,8,true)],[],(zK::zA::zK::zK::vD (nf (nf (nf [])))),[oT jU.ku,oK,oA Syntax.row],none,none⟩
@[reducible] def RH(X:j6)(n:Nat):kR Tc:=nX gh f125 n (qI gh [.cell 2 29] [] [0] 1 jS (mH (lJ Syntax.ku) k7)) (cl:=ni [(161,qP (nG (mD (rI jU.ku) nk (vS n)))),(162,qP (nG (mD (rI jU.ku) nk (xC n)))),(164,rL (mZ jV.row) (mZ Syntax.row) (ty3 (lJ Syntax.ku) (lR .i64) (lR .i64)) (wi n))]) (rK:=qF [([0,0,1,1],P4)]) (pT:=qJ [] [0] 1 jS j8) (cp:=Aj [(57,rU (mP n)),(72,lV (lN n)),(103,lV (nq n)),(163,mR X.pN)]) (wF:=mc [57,72,103,163])
@[go_sem]abbrev P5(o0:jU)(r2:List Syntax)(c2:Nat):jX:=⟨(.ptr 0 0::qA::.ptr 1 0::.mE 2 c2::vC (nv (nv (nv [])))),[.cells (jU.cells o0),.cells [.int .i64 0,.str (sb []),.int .i64 0,.lS true 0 [],.lS true 0 [],.lS true 0 [],.int .i64 0,.int .i64 0],.mE true 8 (mp Syntax.cells r2)],1,[]⟩
abbrev P6:=jU->(List Syntax)->Option Tc
abbrev aeV(X:j6)(n:Nat)(K:List Kt)(Z:P6):Prop:=∀o0 r2 c2,c2=r2.length->run (RH X n) K (P5 o0 r2 c2)=Z o0 r2
def yI(X:j6)(n:Nat):LB (aeV X n) [0,0,1,1] [.qU 0,.cut [1,1,1],.at [1,1,1]]:=yp
def wD(X:j6)(n:Nat):Nat->P6:=xb ((yI X n).1)
def MW(X:j6){n:Nat}:wD X n (m+1)=(yI X n).1 (wD X n m):=rfl
@[go_sem]def Zf(X:j6)(n:Nat)(m:Nat):=yL (yI X n) (wD X n) m
def D1(X:j6)(n:Nat):SX (RH X n) (my 0 k7) jS 80 kY:=Al
open Go.Proofs
@[reducible] def adf(X:j6)(n:Nat):kR Tc:=nX gh f163 n (qI gh [.cell 2 29] [] [0] 1 jS (mH (lJ Syntax.ku) k7)) (cl:=ni [(58,qP (nG (mD (rI jU.ku) (lR .i64) (qf n)))),(59,nu [0] (lm (lA jU.ku) li) (pS 0 pG) (lm (lA jU.ku) li) (sr mb pd) (fun(b:Td) a=>(lr n) b.1)),(157,qP (nG (mD (rI jU.ku) (lR .i64) (py n)))),(161,qP (nG (mD (rI jU.ku) nk (vS n))))]) (pT:=qJ [] [0] 1 jS j8) (cp:=Aj [(196,mR X.rH)]) (wF:=mc [196])
def A8(X:j6)(n:Nat):SX (adf X n) (my 0 k7) jS 25 kY:=Al
open Go.Proofs
@[go_sem]def OQ:wH:=⟨[],[],(zK::zA::zK::zK::zK::mG (nf (zA::zA::zA::[]))),[oT jU.ku,oK,oT Syntax.ku],none,none⟩
@[reducible] def P7(X:j6)(n:Nat):kR Tc:=nX gh f196 n (qI gh [.cell 2 29] [] [0] 1 jS (mH (lJ Syntax.ku) k7)) (cl:=ni [(162,qP (nG (mD (rI jU.ku) nk (xC n))))]) (rK:=qF [([0,1,0,1,1],OQ)]) (pT:=qJ [] [0] 1 jS j8) (cp:=Aj [(72,lV (lN n)),(217,mR X.qh)]) (wF:=mc [72,217])
@[go_sem]abbrev OR(v0:Int)(o0:jU)(o2:Syntax):jX:=⟨(.ptr 0 0::qA::.ptr 1 0::.ptr 2 0::.int .i64 v0::mM (nv (qA::qA::qA::[]))),[.cells (jU.cells o0),.cells [.int .i64 0,.str (sb []),.int .i64 0,.lS true 0 [],.lS true 0 [],.lS true 0 [],.int .i64 0,.int .i64 0],.cells (Syntax.cells o2)],1,[]⟩
abbrev vk:=Int->jU->Syntax->Option Tc
abbrev adg(X:j6)(n:Nat)(K:List Kt)(Z:vk):Prop:=∀v0 o0 o2,run (P7 X n) K (OR v0 o0 o2)=Z v0 o0 o2
def xN(X:j6)(n:Nat):LB (adg X n) [0,1,0,1,1] [.qU 0,.cut [1,1,1],.at [1,1,1]]:=yp
def xO(X:j6)(n:Nat):Nat->vk:=xb ((xN X n).1)
def LX(X:j6){n:Nat}:xO X n (m+1)=(xN X n).1 (xO X n m):=rfl
@[go_sem]def Xi(X:j6)(n:Nat)(m:Nat):=yL (xN X n) (xO X n) m
def B4(X:j6)(n:Nat):SX (P7 X n) (my 0 k7) jS 28 kY:=Al
open Go.Proofs
def MX:wH:=⟨[],[],(zK::zA::zK::zK::zK::mG (mG (nf []))),[oT jU.ku,oK,oT Syntax.ku],none,none⟩
@[reducible] def A9(X:j6)(n:Nat):kR Tc:=nX gh f217 n (qI gh [.cell 2 29] [] [0] 1 jS (mH (lJ Syntax.ku) k7)) (cl:=ni [(59,nu [0] (lm (lA jU.ku) li) (pS 0 pG) (lm (lA jU.ku) li) (sr mb pd) (fun(b:Td) a=>(lr n) b.1)),(79,qP (nG (rL (rI jU.ku) mb nk (nP n))))]) (rK:=qF [([0,1,0,1,1],MX)]) (pT:=qJ [] [0] 1 jS j8) (co:=Mc [(157,QJ (nG (mD (rI jU.ku) (lR .i64) (py n))))]) (cp:=Aj [(72,lV (lN n)),(241,mR X.qx)]) (wF:=mc [72,241]) (uO:=mc [157]) (uR:=mc [])
def adh(X:j6)(n:Nat):sP (A9 X n) [1,1,1,0,0,1,0,0,1,0,1,1]=true:=jR
def adi(X:j6)(n:Nat):akF (A9 X n) [1,1,1,0,0,1,0,0,1,0,1,1] 1 10 4 10 8 10:=⟨jR,jR,jR⟩
attribute [go_sem] adh adi MX
@[go_sem]abbrev MY(v0:Int)(o0:jU)(o2:Syntax):jX:=⟨(.ptr 0 0::qA::.ptr 1 0::.ptr 2 0::.int .i64 v0::mM (mM (nv []))),[.cells (jU.cells o0),.cells [.int .i64 0,.str (sb []),.int .i64 0,.lS true 0 [],.lS true 0 [],.lS true 0 [],.int .i64 0,.int .i64 0],.cells (Syntax.cells o2)],1,[]⟩
abbrev aa0(X:j6)(n:Nat)(K:List Kt)(Z:vk):Prop:=∀v0 o0 o2,run (A9 X n) K (MY v0 o0 o2)=Z v0 o0 o2
def w8(X:j6)(n:Nat):LB (aa0 X n) [0,1,0,1,1] [.qU 0,.cut [1,1,1],.at [1,1,1]]:=yp
def sL(X:j6)(n:Nat):Nat->vk:=xb ((w8 X n).1)
def asN(X:j6){n:Nat}:sL X n (m+1)=(w8 X n).1 (sL X n m):=rfl
@[go_sem]def VG(X:j6)(n:Nat)(m:Nat):=yL (w8 X n) (sL X n) m
def Ba(X:j6)(n:Nat):SX (A9 X n) (my 0 k7) jS 41 kY:=Al
open Go.Proofs
@[reducible] def aa1(X:j6)(n:Nat):kR Tc:=nX gh f241 n (qI gh [.cell 2 29] [] [0] 1 jS (mH (lJ Syntax.ku) k7)) (cl:=ni [(58,qP (nG (mD (rI jU.ku) (lR .i64) (qf n)))),(122,nu [0] (lm (lA jU.ku) li) (pS 0 (Ao mb pG)) (lm (lA jU.ku) li) (sr nk pd) (fun(b:Td) a=>(l6 n) b.1 a.1)),(157,qP (nG (mD (rI jU.ku) (lR .i64) (py n))))]) (pT:=qJ [] [0] 1 jS j8) (cp:=Aj [(258,LV X.p9),(259,xK X.r9)]) (wF:=mc [258,259])
def Ag(X:j6)(n:Nat):SX (aa1 X n) (my 0 k7) jS 24 kY:=Al
open Go.Proofs
def asP:wH:=⟨[],[],(zK::zA::zA::zK::zK::zA::zK::zK::zK::vD (mG (nf (nf (zA::zA::zA::[]))))),[oT jU.ku,oT Syntax.ku,oK,oD,oA Syntax.row,oT Syntax.ku],none,none⟩
def asT:wH:=⟨[],[],(zK::zA::zA::zK::zK::zA::zK::vD (mG (nf (nf (nf (zA::[])))))),[oT jU.ku,oT Syntax.ku,oK,oD,oA Syntax.row],none,none⟩
@[reducible] def mo(X:j6)(n:Nat):kR Tc:=nX gh f258 n (qI gh [.cell 4 29] [] [0] 1 jS (mH (lJ Syntax.ku) k7)) (cl:=ni [(122,nu [0] (lm (lA jU.ku) li) (pS 0 (Ao mb pG)) (lm (lA jU.ku) li) (sr nk pd) (fun(b:Td) a=>(l6 n) b.1 a.1)),(157,qP (nG (mD (rI jU.ku) (lR .i64) (py n))))]) (rK:=qF [([0,1,0,1,1,1,1,1,1,1,1],asP),([0,0,1,1,1,1,1],asT)]) (pT:=qJ [] [0] 1 jS j8) (co:=Mc [(34,E0 [.arg 0 []] jS (my 0 k7) jS (mH (lJ Syntax.ku) k7) jS j8 (kY X.kL)),(57,E0 [.arg 0 []] jS (my 0 (mH nk k7)) jS k7 jS j8 (rT (mP n))),(79,QJ (nG (rL (rI jU.ku) mb nk (nP n)))),(157,QJ (nG (mD (rI jU.ku) (lR .i64) (py n))))]) (cp:=Aj [(34,mR X.kL),(60,oV (mQ n)),(72,lV (lN n))]) (wF:=mc [34,60,72]) (uO:=mc [34,57,79,157]) (uR:=mc [])
def Zg(X:j6)(n:Nat):azD (mo X n) [0,0,1,0,0,1,0,1,1,1,1,1,1,1,1] [0,0,1,1,1,0,0,1,1] [0,1,1,1]:=⟨jR,jR,jR⟩
def Zh(X:j6)(n:Nat):Bh (mo X n) [0,0,1,0,0,1,0,1,1,1,1,1,1,1,1] 2 16 3 16 4 16 8 16/\aob (mo X n) [0,0,1,0,0,1,0,1,1,1,1,1,1,1,1] 10 16 14 16/\Bh (mo X n) [0,0,1,1,1,0,0,1,1] 2 5 0 7 2 7 5 7/\N3 (mo X n) [0,1,1,1] 6 7=true:=⟨⟨jR,jR,jR,jR⟩,⟨jR,jR⟩,⟨jR,jR,jR,jR⟩,jR⟩
def Zi(X:j6)(n:Nat):Mb (mo X n) [0,0,1,1,1,0,0,1,1] 2 3=true/\Mb (mo X n) [0,0,1,1,1,0,0,1,1] 2 4=false/\Mb (mo X n) [0,0,1,1,1,0,0,1,1] 2 5=true/\Mb (mo X n) [0,0,1,1,1,0,0,1,1] 2 6=true/\Mb (mo X n) [0,0,1,1,1,0,0,1,1] 2 7=true/\UD (mo X n) [0,0,1,1,1,0,0,1,1] 2=false/\UD (mo X n) [0,1,1,1] 7=true:=⟨jR,jR,jR,jR,jR,jR,jR⟩
attribute [go_sem] Zg Zh Zi asP asT
abbrev ay4(v0:Int)(o0:jU)(o1:Syntax)(r4:List Syntax)(o5:Syntax)(c4:Nat):jX:=⟨(.ptr 0 0::qA::qA::.ptr 1 0::.ptr 2 0::qA::.mE 4 c4::.ptr 5 0::.int .i64 v0::vC (mM (nv (nv (qA::qA::qA::[]))))),[.cells (jU.cells o0),.cells (Syntax.cells o1),.cells [.int .i64 0,.str (sb []),.int .i64 0,.lS true 0 [],.lS true 0 [],.lS true 0 [],.int .i64 0,.int .i64 0],.sU,.mE true 8 (mp Syntax.cells r4),.cells (Syntax.cells o5)],1,[]⟩
abbrev aLH:List Kt:=[.qU 3,.cut [1,1,1,1,1,1,1,1,1],.at [1,1,1,1,1,1,1,1,1]]
abbrev aLI:=Int->jU->Syntax->(List Syntax)->Syntax->Option Tc
abbrev Xj(X:j6)(n:Nat)(K:List Kt)(Z:aLI):Prop:=∀v0 o0 o1 r4 o5 c4,c4=r4.length->run (mo X n) K (ay4 v0 o0 o1 r4 o5 c4)=Z v0 o0 o1 r4 o5
abbrev aLJ(o0:jU)(o1:Syntax)(r4:List Syntax)(c4:Nat):jX:=⟨(.ptr 0 0::qA::qA::.ptr 1 0::.ptr 2 0::qA::.mE 4 c4::vC (mM (nv (nv (nv (qA::[])))))),[.cells (jU.cells o0),.cells (Syntax.cells o1),.cells [.int .i64 0,.str (sb []),.int .i64 0,.lS true 0 [],.lS true 0 [],.lS true 0 [],.int .i64 0,.int .i64 0],.sU,.mE true 8 (mp Syntax.cells r4)],1,[]⟩
abbrev Ka:=jU->Syntax->(List Syntax)->Option Tc
abbrev Xk(X:j6)(n:Nat)(K:List Kt)(Z:Ka):Prop:=∀o0 o1 r4 c4,c4=r4.length->run (mo X n) K (aLJ o0 o1 r4 c4)=Z o0 o1 r4
attribute [go_sem] ay4 aLH aLJ
def vl(X:j6)(n:Nat):LB (Xj X n) [0,1,0,1,1,1,1,1,1,1,1] aLH:=yp
def s9(X:j6)(n:Nat):Nat->aLI:=xb ((vl X n).1)
def G5(X:j6){n:Nat}:s9 X n (m+1)=(vl X n).1 (s9 X n m):=rfl
@[go_sem]def RI(X:j6)(n:Nat)(m:Nat):=yL (vl X n) (s9 X n) m
def vm(X:j6)(n:Nat):LB (Xk X n) [0,0,1,1,1,1,1] [.qU 1,.cut [1,1,1,1,1,1],.at [1,1,1,1,1,1]]:=yp
def vn(X:j6)(n:Nat):Nat->Ka:=xb ((vm X n).1)
def G6(X:j6){n:Nat}:vn X n (m+1)=(vm X n).1 (vn X n m):=rfl
@[go_sem]def RJ(X:j6)(n:Nat)(m:Nat):=yL (vm X n) (vn X n) m
def zh(X:j6)(n:Nat):SX (mo X n) (my 0 (mH (lJ Syntax.ku) k7)) jS 100 wj:=Al
open Go.Proofs
@[reducible] def adk(X:j6)(n:Nat):kR Tg:=nX gh f259 n (qI gh [] [] [0,1] 2 kN k7) (cl:=ni [(56,qP (nG (mD (rI jU.ku) (lJ kH.ku) (mg n)))),(59,nu [0] (lm (lA jU.ku) li) (pS 0 pG) (lm (lA jU.ku) li) (sr mb pd) (fun(b:Td) a=>(lr n) b.1)),(74,qP (nG (X1 (rI jU.ku) (lR .i64) mb nk (uU n)))),(122,nu [0] (lm (lA jU.ku) li) (pS 0 (Ao mb pG)) (lm (lA jU.ku) li) (sr nk pd) (fun(b:Td) a=>(l6 n) b.1 a.1))]) (pT:=qJ [] [0,1] 2 kN j8) (cp:=Aj [(60,oV (mQ n)),(103,lV (nq n)),(138,nY (zO n)),(141,yZ (rN n)),(267,LS (A7 n)),(268,EO (Fb n)),(269,CW X.pI)]) (wF:=mc [60,103,138,141,267,268,269])
def Bb(X:j6)(n:Nat):SX (adk X n) (my 0 (my 1 k7)) kN 135 oX:=Al
open Go.Proofs
@[go_sem]def Io:wH:=⟨[(3,8,true)],[],(zK::zA::zA::zK::mG (nf (zA::zA::[]))),[oT jU.ku,oA Syntax.row],none,none⟩
@[reducible] def Kb(X:j6)(n:Nat):kR TN:=nX gh f269 n (qI gh [.tmp 2] [] [0] 1 jS (mH (mZ Syntax.row) k7)) (cl:=ni [(79,qP (nG (rL (rI jU.ku) mb nk (nP n)))),(122,nu [0] (lm (lA jU.ku) li) (pS 0 (Ao mb pG)) (lm (lA jU.ku) li) (sr nk pd) (fun(b:Td) a=>(l6 n) b.1 a.1))]) (rK:=qF [([0,0,1,1],Io)]) (pT:=qJ [] [0] 1 jS j8) (cp:=Aj [(72,lV (lN n)),(275,mR X.n5)]) (wF:=mc [72,275])
@[go_sem]abbrev Ip(o0:jU)(r1:List Syntax)(c1:Nat):jX:=⟨(.ptr 0 0::qA::qA::.mE 1 c1::mM (nv (qA::qA::[]))),[.cells (jU.cells o0),.mE true 8 (mp Syntax.cells r1)],1,[]⟩
abbrev Iq:=jU->(List Syntax)->Option TN
abbrev VH(X:j6)(n:Nat)(K:List Kt)(Z:Iq):Prop:=∀o0 r1 c1,c1=r1.length->run (Kb X n) K (Ip o0 r1 c1)=Z o0 r1
def uy(X:j6)(n:Nat):LB (VH X n) [0,0,1,1] [.qU 0,.cut [1,1,1],.at [1,1,1]]:=yp
def uz(X:j6)(n:Nat):Nat->Iq:=xb ((uy X n).1)
def Gk(X:j6){n:Nat}:uz X n (m+1)=(uy X n).1 (uz X n m):=rfl
@[go_sem]def Qm(X:j6)(n:Nat)(m:Nat):=yL (uy X n) (uz X n) m
def yd(X:j6)(n:Nat):SX (Kb X n) (my 0 k7) jS 26 vg:=Al
open Go.Proofs
@[go_sem]def Dd:wH:=⟨[],[],(zK::zA::zK::zK::zK::mG (nf (nf (zA::[])))),[oT jU.ku,oK,oT Syntax.ku],none,none⟩
@[reducible] def Ep(X:j6)(n:Nat):kR Tc:=nX gh f275 n (qI gh [.cell 2 29] [] [0] 1 jS (mH (lJ Syntax.ku) k7)) (cl:=ni [(122,nu [0] (lm (lA jU.ku) li) (pS 0 (Ao mb pG)) (lm (lA jU.ku) li) (sr nk pd) (fun(b:Td) a=>(l6 n) b.1 a.1))]) (rK:=qF [([0,1,0,1,1],Dd)]) (pT:=qJ [] [0] 1 jS j8) (cp:=Aj [(72,lV (lN n)),(282,mR X.lF)]) (wF:=mc [72,282])
@[go_sem]abbrev De(v0:Int)(o0:jU)(o2:Syntax):jX:=⟨(.ptr 0 0::qA::.ptr 1 0::.ptr 2 0::.int .i64 v0::mM (nv (nv (qA::[])))),[.cells (jU.cells o0),.cells [.int .i64 0,.str (sb []),.int .i64 0,.lS true 0 [],.lS true 0 [],.lS true 0 [],.int .i64 0,.int .i64 0],.cells (Syntax.cells o2)],1,[]⟩
abbrev OS(X:j6)(n:Nat)(K:List Kt)(Z:vk):Prop:=∀v0 o0 o2,run (Ep X n) K (De v0 o0 o2)=Z v0 o0 o2
def rP(X:j6)(n:Nat):LB (OS X n) [0,1,0,1,1] [.qU 0,.cut [1,1,1],.at [1,1,1]]:=yp
def rQ(X:j6)(n:Nat):Nat->vk:=xb ((rP X n).1)
def BG(X:j6){n:Nat}:rQ X n (m+1)=(rP X n).1 (rQ X n m):=rfl
@[go_sem]def LY(X:j6)(n:Nat)(m:Nat):=yL (rP X n) (rQ X n) m
def uD(X:j6)(n:Nat):SX (Ep X n) (my 0 k7) jS 30 kY:=Al
open Go.Proofs
@[reducible] def pW(X:j6)(n:Nat):kR Tc:=nX gh f282 n (amK (QH [(289,Mf [.arg 0 [],.Ci 0 0 []] lB (my 0 k7) lB k7 (fun(b:(Unit×T6))(a:Unit)=>(qG n) b.2.1.1))]) (qI gh [.cell 2 29] [] [0] 1 jS (mH (lJ Syntax.ku) k7)) (qJ [] [0] 1 jS j8)) (cl:=ni [(79,qP (nG (rL (rI jU.ku) mb nk (nP n)))),(157,qP (nG (mD (rI jU.ku) (lR .i64) (py n))))]) (pT:=amL (QH [(289,Mf [.arg 0 [],.Ci 0 0 []] lB (my 0 k7) lB k7 (fun(b:(Unit×T6))(a:Unit)=>(qG n) b.2.1.1))]) (qI gh [.cell 2 29] [] [0] 1 jS (mH (lJ Syntax.ku) k7)) (qJ [] [0] 1 jS j8)) (co:=Mc [(56,QJ (nG (mD (rI jU.ku) (lJ kH.ku) (mg n)))),(57,E0 [.arg 0 []] jS (my 0 (mH nk k7)) jS k7 jS j8 (rT (mP n))),(58,QJ (nG (mD (rI jU.ku) (lR .i64) (qf n)))),(72,E0 [.arg 0 []] jS (my 0 (mH (lR .i64) k7)) jS k7 jS j8 (pU (lN n)))]) (cp:=Aj [(290,xK X.qy),(291,xK X.rq)]) (wF:=mc [290,291]) (uO:=mc [56,57,58,72]) (uR:=mc [])
def Zj(X:j6)(n:Nat):azD (pW X n) [0,1] [0,1,1,0,1,1,1,1,1] [0,1,1,1,1]:=⟨jR,jR,jR⟩
def Zk(X:j6)(n:Nat):akF (pW X n) [0,1] 0 7 3 7 6 7/\Bh (pW X n) [0,1,1,0,1,1,1,1,1] 3 6 0 9 3 9 6 9/\Bh (pW X n) [0,1,1,1,1] 0 3 0 8 3 8 5 8/\Bh (pW X n) [0,1,1,1,1] 0 11 3 11 5 11 8 11/\N3 (pW X n) [0,1,1,1,1] 10 11=true:=⟨⟨jR,jR,jR⟩,⟨jR,jR,jR,jR⟩,⟨jR,jR,jR,jR⟩,⟨jR,jR,jR,jR⟩,jR⟩
def Zl(X:j6)(n:Nat):UD (pW X n) [0,1] 7=true/\UD (pW X n) [0,1,1,0,1,1,1,1,1] 9=true:=⟨jR,jR⟩
attribute [go_sem] Zj Zk Zl
def wk(X:j6)(n:Nat):SX (pW X n) (my 0 k7) jS 54 kY:=Al
open Go.Proofs
@[reducible] def aa2(X:j6)(n:Nat):kR Tg:=nX gh f290 n (qI gh [] [] [0,1] 2 kN k7) (pT:=qJ [] [0,1] 2 kN j8) (cp:=Aj [(60,oV (mQ n)),(269,CW X.pI)]) (wF:=mc [60,269])
def Ah(X:j6)(n:Nat):SX (aa2 X n) (my 0 (my 1 k7)) kN 17 oX:=Al
open Go.Proofs
def LZ:wH:=⟨[],[],(zK::zK::vD (vD (nf (nf (nf (zA::zA::zA::[])))))),[oT jU.ku,oC [zK,zK,zK,zK,zT (mZ j7.row),zT (mZ Syntax.row),zK,zK],oA mq],none,none⟩
@[reducible] def sM(X:j6)(n:Nat):kR Tg:=nX gh f291 n (qI gh [] [] [0,1] 2 kN k7) (cl:=ni [(56,qP (nG (mD (rI jU.ku) (lJ kH.ku) (mg n)))),(59,nu [0] (lm (lA jU.ku) li) (pS 0 pG) (lm (lA jU.ku) li) (sr mb pd) (fun(b:Td) a=>(lr n) b.1))]) (rK:=qF [([0,1,1,0,1,1,1,1,1,1,1,1,1,1,1,1,1,0,1],LZ)]) (pT:=qJ [] [0,1] 2 kN j8) (co:=Mc [(59,E0 [.arg 0 []] jS (my 0 k7) jS (mH mb k7) jS (mH mb k7) (fun(b:T6)(a:Unit)=>((zW n) b.1.1).map fun r=>(PR.ok r:PR TI TI))),(72,E0 [.arg 0 []] jS (my 0 (mH (lR .i64) k7)) jS k7 jS j8 (pU (lN n)))]) (cp:=Aj [(34,mR X.kL),(103,lV (nq n)),(119,nY (pV n)),(138,nY (zO n)),(179,nY (qS n)),(282,mR X.lF),(290,xK X.qy),(294,G2 (ya n))]) (wF:=mc [34,103,119,138,179,282,290,294]) (uO:=mc [59,72]) (uR:=mc [])
def aa3(X:j6)(n:Nat):aoa (sM X n) [0,0,1,0,0,1,1,0,1,1,1,1,1,1,1,1,1,1,1,1,1,0,1] [1,0,1,0,0,1,1,0,1,1,1,1,1,1,1,1,1,1,1,1,1,0,1]:=⟨jR,jR⟩
def aa4(X:j6)(n:Nat):aob (sM X n) [0,0,1,0,0,1,1,0,1,1,1,1,1,1,1,1,1,1,1,1,1,0,1] 6 8 7 8/\Bh (sM X n) [1,0,1,0,0,1,1,0,1,1,1,1,1,1,1,1,1,1,1,1,1,0,1] 4 10 8 10 4 13 8 13/\N3 (sM X n) [1,0,1,0,0,1,1,0,1,1,1,1,1,1,1,1,1,1,1,1,1,0,1] 10 13=true:=⟨⟨jR,jR⟩,⟨jR,jR,jR,jR⟩,jR⟩
def aa5(X:j6)(n:Nat):UD (sM X n) [0,0,1,0,0,1,1,0,1,1,1,1,1,1,1,1,1,1,1,1,1,0,1] 8=true:=jR
attribute [go_sem] aa3 aa4 aa5 LZ
@[go_sem]abbrev L0(o0:jU)(v1:Int)(v2:Str)(v3:Int)(v4:List j7)(v5:List Syntax)(v6 v7:Int)(r2:List Str)(c2:Nat):jX:=⟨(.ptr 0 0::.ptr 1 0::vC (vC (nv (nv (nv (qA::qA::qA::[])))))),[.cells (jU.cells o0),.cells [.int .i64 v1,.str (sb v2),.int .i64 v3,.mE 2 c2,.lS false 2 (mp j7.cells v4),.lS false 8 (mp Syntax.cells v5),.int .i64 v6,.int .i64 v7],.mE true 1 (mp nh r2)],2,[]⟩
abbrev L1:=jU->Int->Str->Int->Tk->(List Syntax)->Int->Int->(List Str)->Option Tg
abbrev Zm(X:j6)(n:Nat)(K:List Kt)(Z:L1):Prop:=∀o0 v1 v2 v3 v4 v5 v6 v7 r2 c2,c2=r2.length->run (sM X n) K (L0 o0 v1 v2 v3 v4 v5 v6 v7 r2 c2)=Z o0 v1 v2 v3 v4 v5 v6 v7 r2
def wm(X:j6)(n:Nat):LB (Zm X n) [0,1,1,0,1,1,1,1,1,1,1,1,1,1,1,1,1,0,1] [.qU 1,.qU 0]:=yp
def wo(X:j6)(n:Nat):Nat->L1:=xb ((wm X n).1)
def Ir(X:j6){n:Nat}:wo X n (m+1)=(wm X n).1 (wo X n m):=rfl
@[go_sem]def Sv(X:j6)(n:Nat)(m:Nat):=yL (wm X n) (wo X n) m
def Ai(X:j6)(n:Nat):SX (sM X n) (my 0 (my 1 k7)) kN 145 oX:=Al
open Go.Proofs
@[reducible] def td(X:j6)(n:Nat):kR Tc:=nX gh f77 n (qI gh [.cell 8 29] [] [0] 1 jS (mH (lJ Syntax.ku) k7)) (cd:=N5 [(121,nG (X1 (lJ Syntax.ku) (mZ kg.row) (lJ Syntax.ku) (lJ Syntax.ku) (Da n)))]) (pT:=qJ [] [0] 1 jS j8) (co:=Mc [(34,E0 [.arg 0 []] jS (my 0 k7) jS (mH (lJ Syntax.ku) k7) jS j8 (kY X.kL))]) (cp:=Aj [(60,oV (mQ n))]) (wF:=mc [60]) (uO:=mc [34]) (uR:=mc [])
def Xl(X:j6)(n:Nat):sP (td X n) [0,1,1]=true:=jR
def Xm(X:j6)(n:Nat):aob (td X n) [0,1,1] 0 5 3 5:=⟨jR,jR⟩
def Xn(X:j6)(n:Nat):Mb (td X n) [0,1,1] 3 4=true/\Mb (td X n) [0,1,1] 3 5=true/\UD (td X n) [0,1,1] 3=false:=⟨jR,jR,jR⟩
attribute [go_sem] Xl Xm Xn
def ye(X:j6)(n:Nat):SX (td X n) sB jS 19 s8:=Al
open Go.Proofs
def jY:Nat->j6
 |0=>⟨Fu.z,Fu.z,Fu.z,Fu.z,Fu.z,Fu.z,Fu.z,Fu.z,Fu.z,Fu.z,Fu.z,Fu.z,Fu.z,Fu.z,Fu.z,Fu.z,Fu.z,Fu.z⟩
 |n+1=>⟨(xL (jY n) n).1,(B1 (jY n) n).1,(zg (jY n) n).1,(B3 (jY n) n).1,(Af (jY n) n).1,(D1 (jY n) n).1,(A8 (jY n) n).1,(B4 (jY n) n).1,(Ba (jY n) n).1,(Ag (jY n) n).1,(zh (jY n) n).1,(Bb (jY n) n).1,(yd (jY n) n).1,(uD (jY n) n).1,(wk (jY n) n).1,(Ah (jY n) n).1,(Ai (jY n) n).1,(ye (jY n) n).1⟩
def kL:jU->Option Tc:=(jY n).kL
def OT{n:Nat}:kL (n+1)=(xL (jY n) n).1:=rfl
def sR:Int->jU->Option Tc:=(jY n).sR
def aeW{n:Nat}:sR (n+1)=(B1 (jY n) n).1:=rfl
def n9:Str->Str->jU->Option Tv:=(jY n).n9
def Zn{n:Nat}:n9 (n+1)=(zg (jY n) n).1:=rfl
def sS:Int->jU->Option Tc:=(jY n).sS
def aeX{n:Nat}:sS (n+1)=(B3 (jY n) n).1:=rfl
def rn:Int->jU->Option Tc:=(jY n).rn
def aa6{n:Nat}:rn (n+1)=(Af (jY n) n).1:=rfl
def rC:jU->Option Tc:=(jY n).rC
def agO{n:Nat}:rC (n+1)=(D1 (jY n) n).1:=rfl
def pN:jU->Option Tc:=(jY n).pN
def adl{n:Nat}:pN (n+1)=(A8 (jY n) n).1:=rfl
def rH:jU->Option Tc:=(jY n).rH
def aeY{n:Nat}:rH (n+1)=(B4 (jY n) n).1:=rfl
def qh:jU->Option Tc:=(jY n).qh
def adm{n:Nat}:qh (n+1)=(Ba (jY n) n).1:=rfl
def qx:jU->Option Tc:=(jY n).qx
def aa7{n:Nat}:qx (n+1)=(Ag (jY n) n).1:=rfl
def p9:Syntax->jU->Option Tc:=(jY n).p9
def Zo{n:Nat}:p9 (n+1)=(zh (jY n) n).1:=rfl
def r9:jU->Syntax->Option Tg:=(jY n).r9
def adn{n:Nat}:r9 (n+1)=(Bb (jY n) n).1:=rfl
def pI:jU->Option TN:=(jY n).pI
def Xo{n:Nat}:pI (n+1)=(yd (jY n) n).1:=rfl
def n5:jU->Option Tc:=(jY n).n5
def Pj{n:Nat}:n5 (n+1)=(uD (jY n) n).1:=rfl
def lF:jU->Option Tc:=(jY n).lF
def L2{n:Nat}:lF (n+1)=(wk (jY n) n).1:=rfl
def qy:jU->Syntax->Option Tg:=(jY n).qy
def aa8{n:Nat}:qy (n+1)=(Ah (jY n) n).1:=rfl
def rq:jU->Syntax->Option Tg:=(jY n).rq
def aa9{n:Nat}:rq (n+1)=(Ai (jY n) n).1:=rfl
def pJ:Syntax->TE->Str->jU->Option Tc:=(jY n).pJ
def Xp{n:Nat}:pJ (n+1)=(ye (jY n) n).1:=rfl
def kA{n:Nat}:(jY n).kL=kL n/\(jY n).sR=sR n/\(jY n).n9=n9 n/\(jY n).sS=sS n/\(jY n).rn=rn n/\(jY n).rC=rC n/\(jY n).pN=pN n/\(jY n).rH=rH n/\(jY n).qh=qh n/\(jY n).qx=qx n/\(jY n).p9=p9 n/\(jY n).r9=r9 n/\(jY n).pI=pI n/\(jY n).n5=n5 n/\(jY n).lF=lF n/\(jY n).qy=qy n/\(jY n).rq=rq n/\(jY n).pJ=pJ n:=⟨rfl,rfl,rfl,rfl,rfl,rfl,rfl,rfl,rfl,rfl,rfl,rfl,rfl,rfl,rfl,rfl,rfl,rfl⟩
def lI:∀n:Nat,sV gh 34 (my 0 k7) jS true jS (mH (lJ Syntax.ku) k7) jS j8 (kY (jY n).kL)/\sV gh 75 (my 0 (mH (lR .i64) k7)) jS true jS (mH (lJ Syntax.ku) k7) jS j8 (pR (jY n).sR)/\sV gh 78 (my 0 (mH mb (mH mb k7))) jS true jS (mH (mZ kg.row) k7) jS j8 (tM (jY n).n9)/\sV gh 76 (my 0 (mH (lR .i64) k7)) jS true jS (mH (lJ Syntax.ku) k7) jS j8 (pR (jY n).sS)/\sV gh 80 (my 0 (mH (lR .i64) k7)) jS true jS (mH (lJ Syntax.ku) k7) jS j8 (pR (jY n).rn)/\sV gh 125 (my 0 k7) jS true jS (mH (lJ Syntax.ku) k7) jS j8 (kY (jY n).rC)/\sV gh 163 (my 0 k7) jS true jS (mH (lJ Syntax.ku) k7) jS j8 (kY (jY n).pN)/\sV gh 196 (my 0 k7) jS true jS (mH (lJ Syntax.ku) k7) jS j8 (kY (jY n).rH)/\sV gh 217 (my 0 k7) jS true jS (mH (lJ Syntax.ku) k7) jS j8 (kY (jY n).qh)/\sV gh 241 (my 0 k7) jS true jS (mH (lJ Syntax.ku) k7) jS j8 (kY (jY n).qx)/\sV gh 258 (my 0 (mH (lJ Syntax.ku) k7)) jS true jS (mH (lJ Syntax.ku) k7) jS j8 (wj (jY n).p9)/\sV gh 259 (my 0 (my 1 k7)) kN true kN k7 kN j8 (oX (jY n).r9)/\sV gh 269 (my 0 k7) jS true jS (mH (mZ Syntax.row) k7) jS j8 (vg (jY n).pI)/\sV gh 275 (my 0 k7) jS true jS (mH (lJ Syntax.ku) k7) jS j8 (kY (jY n).n5)/\sV gh 282 (my 0 k7) jS true jS (mH (lJ Syntax.ku) k7) jS j8 (kY (jY n).lF)/\sV gh 290 (my 0 (my 1 k7)) kN true kN k7 kN j8 (oX (jY n).qy)/\sV gh 291 (my 0 (my 1 k7)) kN true kN k7 kN j8 (oX (jY n).rq)/\sV gh 77 sB jS true jS (mH (lJ Syntax.ku) k7) jS j8 (s8 (jY n).pJ)
 |0=>⟨fun _ _ _ h=>(by cases h),fun _ _ _ h=>(by cases h),fun _ _ _ h=>(by cases h),fun _ _ _ h=>(by cases h),fun _ _ _ h=>(by cases h),fun _ _ _ h=>(by cases h),fun _ _ _ h=>(by cases h),fun _ _ _ h=>(by cases h),fun _ _ _ h=>(by cases h),fun _ _ _ h=>(by cases h),fun _ _ _ h=>(by cases h),fun _ _ _ h=>(by cases h),fun _ _ _ h=>(by cases h),fun _ _ _ h=>(by cases h),fun _ _ _ h=>(by cases h),fun _ _ _ h=>(by cases h),fun _ _ _ h=>(by cases h),fun _ _ _ h=>(by cases h)⟩
 |n+1=>by
  obtain⟨rj,ado,Kc,adp,Zp,aeZ,aba,adq,abb,Zq,Xq,abc,Is,OU,Kd,L3,Zr,VI⟩:=lI n
  exact⟨aGc (atZ fun u=>V9 apn (fun _ _ _ _=>rfl) (jR) (fun b a r h=>(QO n) b.2.1.1 r h u)) (xL (jY n) n) (gd (jW (lD (lu (uc n))) (jW (kK (fun b a r h=>(l5 n) b.1 r h)) (jW (lD (N4 (yz n))) (jW (lD (pm (pz n))) j9)))) ke (p:=(kz (kS (ado)) (kz (kS (adp)) (kz (kS (Zp)) lT)))) (c:=(mw (zB (mV n)) (mw (zB (VI)) (mw (zB (Kc)) qL))))) func34 ntmps34 results34,
   Dk (B1 (jY n) n) (gd (jW (kK (fun b a r h=>(l5 n) b.1 r h)) (jW (lD (pm (pz n))) (jW (kK (fun b a r h=>(Mm n) b.1 r h)) (jW (adN (Rb n)) j9)))) ke (p:=(kz (kS (rj)) (kz (kS (pH n)) (kz (kS (mV n)) (kz (kS (Kc)) (kz (kS (tV n)) lT))))))) func75 ntmps75 results75,
   Dk (zg (jY n) n) (gd (jW (kK (fun b a r h=>(l5 n) b.1 r h)) (jW (lD (lu (yW n))) (jW (pg (ZW n)) j9))) ke (p:=(kz (kS (rj)) (kz (kS (pH n)) (kz (kS (mV n)) (kz (kS (tV n)) lT)))))) func78 ntmps78 results78,
   Dk (B3 (jY n) n) (gd (jW (kK (fun b a r h=>(l5 n) b.1 r h)) (jW (kK (fun b a r h=>(Mm n) b.1 r h)) (jW (kK (fun b a r h=>(mJ n) b.1 a.1 r h)) j9))) ke (p:=(kz (kS (rj)) (kz (kS (pH n)) (kz (kS (tV n)) lT))))) func76 ntmps76 results76,
   Dk (Af (jY n) n) (gd (jW (kK (fun b a r h=>(mJ n) b.1 a.1 r h)) (jW (pg (ZW n)) (jW (kK (fun b a r h=>(Vc n) b.1 a.1 r h)) j9))) (oJ (N4 (Rb n)) ke) (p:=(kz (kS (aeZ)) lT)) (c:=(mw (zB (rj)) qL))) func80 ntmps80 results80,
   Dk (D1 (jY n) n) (gd (jW (lD (lu (GU n))) (jW (lD (lu (Jt n))) (jW (pg (aip n)) j9))) ke (p:=(kz (kS (pE n)) (kz (kS (mV n)) (kz (kS (uZ n)) (kz (kS (aba)) lT)))))) func125 ntmps125 results125,
   Dk (A8 (jY n) n) (gd (jW (lD (lu (uc n))) (jW (kK (fun b a r h=>(l5 n) b.1 r h)) (jW (lD (lu (tj n))) (jW (lD (lu (GU n))) j9)))) ke (p:=(kz (kS (adq)) lT))) func163 ntmps163 results163,
   Dk (B4 (jY n) n) (gd (jW (lD (lu (Jt n))) j9) ke (p:=(kz (kS (mV n)) (kz (kS (abb)) lT)))) func196 ntmps196 results196,
   Dk (Ba (jY n) n) (gd (jW (kK (fun b a r h=>(l5 n) b.1 r h)) (jW (lD (pm (pz n))) j9)) ke (p:=(kz (kS (mV n)) (kz (kS (Zq)) lT))) (c:=(mw (Fx (lu (tj n))) qL))) func217 ntmps217 results217,
   Dk (Ag (jY n) n) (gd (jW (lD (lu (uc n))) (jW (kK (fun b a r h=>(mJ n) b.1 a.1 r h)) (jW (lD (lu (tj n))) j9))) ke (p:=(kz (kS (Xq)) (kz (kS (abc)) lT)))) func241 ntmps241 results241,
   Dk (zh (jY n) n) (gd (jW (kK (fun b a r h=>(mJ n) b.1 a.1 r h)) (jW (lD (lu (tj n))) j9)) ke (p:=(kz (kS (rj)) (kz (kS (pH n)) (kz (kS (mV n)) lT)))) (c:=(mw (zB (rj)) (mw (zB (pE n)) (mw (Fx (pm (pz n))) (mw (Fx (lu (tj n))) qL)))))) func258 ntmps258 results258,
   Dk (Bb (jY n) n) (gd (jW (lD (lu (mm n))) (jW (kK (fun b a r h=>(l5 n) b.1 r h)) (jW (lD (N4 (yz n))) (jW (kK (fun b a r h=>(mJ n) b.1 a.1 r h)) j9)))) ke (p:=(kz (kS (pH n)) (kz (kS (uZ n)) (kz (kS (ME n)) (kz (kS (CR n)) (kz (kS (Xe n)) (kz (kS (ac2 n)) (kz (kS (Is)) lT))))))))) func259 ntmps259 results259,
   Dk (yd (jY n) n) (gd (jW (lD (pm (pz n))) (jW (kK (fun b a r h=>(mJ n) b.1 a.1 r h)) j9)) ke (p:=(kz (kS (mV n)) (kz (kS (OU)) lT)))) func269 ntmps269 results269,
   Dk (uD (jY n) n) (gd (jW (kK (fun b a r h=>(mJ n) b.1 a.1 r h)) j9) ke (p:=(kz (kS (mV n)) (kz (kS (Kd)) lT)))) func275 ntmps275 results275,
   aGc (atZ fun u=>V9 apn (fun _ _ _ _=>rfl) (jR) (fun b a r h=>(aMp n) b.2.1.1 r h u)) (wk (jY n) n) (gd (jW (lD (pm (pz n))) (jW (lD (lu (tj n))) j9)) ke (p:=(kz (kS (L3)) (kz (kS (Zr)) lT))) (c:=(mw (Fx (lu (mm n))) (mw (zB (pE n)) (mw (Fx (lu (uc n))) (mw (zB (mV n)) qL)))))) func282 ntmps282 results282,
   Dk (Ah (jY n) n) (gd j9 ke (p:=(kz (kS (pH n)) (kz (kS (Is)) lT)))) func290 ntmps290 results290,
   Dk (Ai (jY n) n) (gd (jW (lD (lu (mm n))) (jW (kK (fun b a r h=>(l5 n) b.1 r h)) j9)) ke (p:=(kz (kS (rj)) (kz (kS (uZ n)) (kz (kS (tV n)) (kz (kS (ME n)) (kz (kS (E9 n)) (kz (kS (Kd)) (kz (kS (L3)) (kz (kS (Rr n)) lT))))))))) (c:=(mw (abE (aLU n)) (mw (zB (mV n)) qL)))) func291 ntmps291 results291,
   Dk (ye (jY n) n) (gd j9 (oJ (N4 (Rb n)) ke) (p:=(kz (kS (pH n)) lT)) (c:=(mw (zB (rj)) qL))) func77 ntmps77 results77⟩
def abd:sV gh 34 (my 0 k7) jS true jS (mH (lJ Syntax.ku) k7) jS j8 (kY (kL n)):=(lI n).1
def auf:sV gh 75 (my 0 (mH (lR .i64) k7)) jS true jS (mH (lJ Syntax.ku) k7) jS j8 (pR (sR n)):=(lI n).2.1
def apt:sV gh 78 (my 0 (mH mb (mH mb k7))) jS true jS (mH (mZ kg.row) k7) jS j8 (tM (n9 n)):=(lI n).2.2.1
def aug:sV gh 76 (my 0 (mH (lR .i64) k7)) jS true jS (mH (lJ Syntax.ku) k7) jS j8 (pR (sS n)):=(lI n).2.2.2.1
def arn:sV gh 80 (my 0 (mH (lR .i64) k7)) jS true jS (mH (lJ Syntax.ku) k7) jS j8 (pR (rn n)):=(lI n).2.2.2.2.1
def avm:sV gh 125 (my 0 k7) jS true jS (mH (lJ Syntax.ku) k7) jS j8 (kY (rC n)):=(lI n).2.2.2.2.2.1
def arZ:sV gh 163 (my 0 k7) jS true jS (mH (lJ Syntax.ku) k7) jS j8 (kY (pN n)):=(lI n).2.2.2.2.2.2.1
def auh:sV gh 196 (my 0 k7) jS true jS (mH (lJ Syntax.ku) k7) jS j8 (kY (rH n)):=(lI n).2.2.2.2.2.2.2.1
def ar0:sV gh 217 (my 0 k7) jS true jS (mH (lJ Syntax.ku) k7) jS j8 (kY (qh n)):=(lI n).2.2.2.2.2.2.2.2.1
def aro:sV gh 241 (my 0 k7) jS true jS (mH (lJ Syntax.ku) k7) jS j8 (kY (qx n)):=(lI n).2.2.2.2.2.2.2.2.2.1
def apu:sV gh 258 (my 0 (mH (lJ Syntax.ku) k7)) jS true jS (mH (lJ Syntax.ku) k7) jS j8 (wj (p9 n)):=(lI n).2.2.2.2.2.2.2.2.2.2.1
def ar1:sV gh 259 (my 0 (my 1 k7)) kN true kN k7 kN j8 (oX (r9 n)):=(lI n).2.2.2.2.2.2.2.2.2.2.2.1
def aoH:sV gh 269 (my 0 k7) jS true jS (mH (mZ Syntax.row) k7) jS j8 (vg (pI n)):=(lI n).2.2.2.2.2.2.2.2.2.2.2.2.1
def akb:sV gh 275 (my 0 k7) jS true jS (mH (lJ Syntax.ku) k7) jS j8 (kY (n5 n)):=(lI n).2.2.2.2.2.2.2.2.2.2.2.2.2.1
def apv:sV gh 282 (my 0 k7) jS true jS (mH (lJ Syntax.ku) k7) jS j8 (kY (lF n)):=(lI n).2.2.2.2.2.2.2.2.2.2.2.2.2.2.1
def arp:sV gh 290 (my 0 (my 1 k7)) kN true kN k7 kN j8 (oX (qy n)):=(lI n).2.2.2.2.2.2.2.2.2.2.2.2.2.2.2.1
def arq:sV gh 291 (my 0 (my 1 k7)) kN true kN k7 kN j8 (oX (rq n)):=(lI n).2.2.2.2.2.2.2.2.2.2.2.2.2.2.2.2.1
def aoI:sV gh 77 sB jS true jS (mH (lJ Syntax.ku) k7) jS j8 (s8 (pJ n)):=(lI n).2.2.2.2.2.2.2.2.2.2.2.2.2.2.2.2.2
open Go.Proofs
@[reducible] def afU:kR TK:=nX gh f14 n (aEQ (QH [(31,Mf [.arg 0 [],.arg 1 [],.arg 2 []] kB (my 0 (my 1 (my 2 k7))) kB k7 (fun(b:Tj)(a:Unit)=>(xc n) b.1.1 b.2.1.1 b.2.2.1.1))]) (QH [(31,Mf [.arg 0 [],.arg 1 [],.arg 2 []] kB ww kB k7 (fun(b:Tj)(a:T9)=>(tE n) a.1 b.1.1 b.2.1.1 b.2.2.1.1))]) gh [.cell 4 29,.cell 5 3,.cell 6 30] (ty3 (lJ Syntax.ku) (lR .i64) (lR .i64))) (pT:=ayf (QH [(31,Mf [.arg 0 [],.arg 1 [],.arg 2 []] kB (my 0 (my 1 (my 2 k7))) kB k7 (fun(b:Tj)(a:Unit)=>(xc n) b.1.1 b.2.1.1 b.2.2.1.1))]) (QH [(31,Mf [.arg 0 [],.arg 1 [],.arg 2 []] kB ww kB k7 (fun(b:Tj)(a:T9)=>(tE n) a.1 b.1.1 b.2.1.1 b.2.2.1.1))]) gh [.cell 4 29,.cell 5 3,.cell 6 30] (ty3 (lJ Syntax.ku) (lR .i64) (lR .i64))) (cp:=Aj [(33,Rw (zr n)),(34,mR (kL n)),(35,Ll (xI n))]) (wF:=mc [33,34,35])
def VJ:{B:Str->(List jV)->Option TK //∀(a0:Str)(a1:(List jV)),run (afU n) [.at []] (UJ [mb.enc a0,(mZ jV.row).enc a1] 23)=B a0 a1}:=yp
def OV:=fu fun n=>(VJ n).1
def adr:∀(n:Nat)(a0:Str)(a1:(List jV))(r:TK),OV n a0 a1=some r->Ku gh 14 [mb.enc a0,(mZ jV.row).enc a1] (fun v=>v=(ty3 (lJ Syntax.ku) (lR .i64) (lR .i64)).enc r)
 |0,_,_,_,h=>by cases h
 |n+1,a0,a1,r,h=>by
  exact atL (M:=afU n) (t:=(ty3 (lJ Syntax.ku) (lR .i64) (lR .i64))) (cr:=(QH [(31,Mf [.arg 0 [],.arg 1 [],.arg 2 []] kB (my 0 (my 1 (my 2 k7))) kB k7 (fun(b:Tj)(a:Unit)=>(xc n) b.1.1 b.2.1.1 b.2.2.1.1))])) (cp:=(QH [(31,Mf [.arg 0 [],.arg 1 [],.arg 2 []] kB ww kB k7 (fun(b:Tj)(a:T9)=>(tE n) a.1 b.1.1 b.2.1.1 b.2.2.1.1))])) ⟨j9,ke,mU _,nn _,oR,oS,(kz (kS (aeD n)) (kz (kS (abd n)) (kz (kS (aMc n)) lT))),qe⟩ (Kz (V9 aiY (fun _ _ _ _=>rfl) (jR) (fun b a r h=>(aee n) b.1.1 b.2.1.1 b.2.2.1.1 r h)) N7) (Kz (V9 aiZ (fun _ _ _ _=>rfl) (jR) (fun b a r h=>(aeo n) a.1 b.1.1 b.2.1.1 b.2.2.1.1 r h)) N7) func14 rfl rfl ⟨mb.nb 0 _,(mZ jV.row).nb 0 _,trivial⟩ ntmps14 results14 rfl rfl (((VJ n).2 a0 a1).trans h)
open Go.Proofs
@[reducible] def aoJ:kR Bool:=nX gh f13 n (nT gh [.tmp 0] nk) (cl:=ni [(14,rL mb (mZ jV.row) (ty3 (lJ Syntax.ku) (lR .i64) (lR .i64)) (OV n))])
def afV:SC0 (aoJ n) 133:=mB
def Ke:=fu fun n=>(afV n).1
def anc:∀n:Nat,azE gh 13 nk (Ke n):=aHz fun n=>aHy (afV n) (gd (jW (pg (adr n)) j9) ke) func13 ntmps13 results13
open Go.Proofs
@[reducible] def ae0:kR Bool:=nX gh f3 n (nT gh [.tmp 4] nk) (cl:=ni [(12,mD (mZ jV.row) nk (adW n)),(13,ata nk (Ke n)),(14,rL mb (mZ jV.row) (ty3 (lJ Syntax.ku) (lR .i64) (lR .i64)) (OV n)),(15,rL mb (mZ jV.row) (ty3 (lJ Syntax.ku) (lR .i64) (lR .i64)) (Ze n)),(16,X1 (lJ Syntax.ku) (lJ Syntax.ku) nk nk (uW n))])
def Hx:SC2 (ae0 n) mb (mZ jV.row) 50:=mB
def L4:=fu fun n=>(Hx n).1
def aui:∀n:Nat,Gx gh 3 mb (mZ jV.row) nk (L4 n):=IT fun n=>IS (Hx n) (gd (jW (lU (ari n)) (jW (ahu (anc n)) (jW (pg (adr n)) (jW (pg (aoG n)) (jW (adN (acq n)) j9))))) ke) func3 ntmps3 results3
end Go.Abs
end
