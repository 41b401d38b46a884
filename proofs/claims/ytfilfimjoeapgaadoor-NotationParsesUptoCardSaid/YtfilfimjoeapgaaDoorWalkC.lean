/- A part of the proof: what the functions compute. -/
import Derived.Test.YtfilfimjoeapgaaDoorDataA
import Derived.Test.YtfilfimjoeapgaaDoorWalkA
import Derived.Test.YtfilfimjoeapgaaDoorWalkB
set_option linter.all false
open Nat renaming reduceLeDiff → jf,reduceEqDiff → jg,reduceAdd → jj,reduceSub → jk,reduceBEq → jl,reduceMul → jm,reduceLT → jq,le_trans → jw,le_of_eq → jx
open Option renaming getD_some → jh
open Int renaming reduceToNat → ji,reduceBEq → jo,reduceLE → jr,reduceLT → jt,reduceEq → ju
open Subtype renaming mk → jv
open List renaming replicate → jy
open Go.Abs.AV renaming any → qA
namespace Go.Abs
open Go.Proofs
set_option maxRecDepth 100000
set_option maxHeartbeats 4000000
noncomputable def nN (n:Nat):pO Bool where
 body:=(Tryd.f38.body).getD .skip
 P:=Tryd.prog
 cl:=om [(65,tH (oa p8) (O3 39) (o9 .i64) (sw n))]
 cd:=oo []
 qT:=ot []
 cut:=ou []
 n:=n
 out:=pW Tryd.prog [.tmp 4] pe
 qZ:=nj []
theorem AH (n:Nat):(nN n).P=Tryd.prog∧(nN n).cl=om [(65,tH (oa p8) (O3 39) (o9 .i64) (sw n))]∧(nN n).cd=oo []∧(nN n).qT=ot []∧(nN n).cut=ou []∧(nN n).n=n∧(nN n).out=pW Tryd.prog [.tmp 4] pe∧(nN n).qZ=nj []:=⟨rfl,rfl,rfl,rfl,rfl,rfl,rfl,rfl⟩
theorem AI (n:Nat):(nN n).body=(Tryd.f38.body).getD .skip:=rfl
noncomputable def tB (n:Nat):{B:(List Str)→Unit→Option Bool // ∀ (a0:(List Str)) (a1:Unit),run (nN n) [.at []] {slots:=[(oa p8).enc a0,(O3 39).enc a1]++jy (9-[(oa p8).enc a0,(O3 39).enc a1].length) qA,heap:=[]}=B a0 a1}:=by
 apply jv
 intro a0 a1
 simp (config:={maxSteps:=100000000}) only[go_sem,jj,jk,jf,jg,jl,jm,jq,jr,jt,ji,jo,ju,AH,AI,Tryd.f38,jh,mixed]
 exact rfl
noncomputable def qR:Nat→(List Str)→Unit→Option Bool
 |0,_,_=>none
 |n+1,a0,a1=>(tB n).1 a0 a1
theorem Ao: ∀ (n:Nat) (a0:(List Str)) (a1:Unit) (r:Bool),qR n a0 a1=some r→xS Tryd.prog 38 [(oa p8).enc a0,(O3 39).enc a1] (fun v=>v=pe.enc r)
 |0,_,_,_,h=>by cases h
 |n+1,a0,a1,r,h=>by
  exact pL (M:=nN n) ⟨(mV (uH (Bg n)) mY),mZ,nH _,nI _,oh,oH,oV,oG⟩ Tryd.func38 rfl rfl ⟨(oa p8).nb 0 _,(O3 39).nb 0 _,trivial⟩ Tryd.ntmps38 Tryd.results38 (fun σ hs=>pz (P:=Tryd.prog) (rs:=[.tmp 4]) (t:=pe) (σ:=σ) (r:=r) hs) (((tB n).2 a0 a1).trans h)
noncomputable def rM (n:Nat):pO TE where
 body:=(Tryd.f97.body).getD .skip
 P:=Tryd.prog
 cl:=om [(108,qj sD (YJ 112 (tyP cS)) (DP n)),(112,entX [.arg 0 [],.obj 0 1 [],.obj 1 0 []] oS (xg 0 (qy (tyP cS) pP)) qH pP (fun (b:Ts) (a:(Str×Unit))=>(Cx n) a.1 b.2.2.1))]
 cd:=oo []
 qT:=ot []
 cut:=ou []
 n:=n
 out:=Ca Tryd.prog [.tmp 0] [.arg 0 []] [] 0 (sZ K1 wX) (xg 0 pP)
 qZ:=nj []
 js:=tabJ [([0,1,0,1,1],[])]
theorem PJ (n:Nat):(rM n).P=Tryd.prog∧(rM n).cl=om [(108,qj sD (YJ 112 (tyP cS)) (DP n)),(112,entX [.arg 0 [],.obj 0 1 [],.obj 1 0 []] oS (xg 0 (qy (tyP cS) pP)) qH pP (fun (b:Ts) (a:(Str×Unit))=>(Cx n) a.1 b.2.2.1))]∧(rM n).cd=oo []∧(rM n).qT=ot []∧(rM n).cut=ou []∧(rM n).n=n∧(rM n).out=Ca Tryd.prog [.tmp 0] [.arg 0 []] [] 0 (sZ K1 wX) (xg 0 pP)∧(rM n).qZ=nj []∧(rM n).js=tabJ [([0,1,0,1,1],[])]:=⟨rfl,rfl,rfl,rfl,rfl,rfl,rfl,rfl,rfl⟩
theorem PK (n:Nat):(rM n).body=(Tryd.f97.body).getD .skip:=rfl
theorem NN (n:Nat):lkM (rM n) [0,1,0,1,1]=n8:=rfl
noncomputable def JI (n:Nat):{B:Option TE // run (rM n) [.at []] {slots:=(pP.enc (wX.lens ()) ())++jy (9-(pP.enc (wX.lens ()) ()).length) qA,heap:=(wX.enc (wX.lens ()) ()),low:=(wX.enc (wX.lens ()) ()).length}=B}:=by
 apply jv
 simp (config:={maxSteps:=100000000}) only[go_sem,jj,jk,jf,jg,jl,jm,jq,jr,jt,ji,jo,ju,PJ,PK,Tryd.f97,jh,mixed,oS,qH,vA,NN]
 exact rfl
noncomputable def BM:Nat→Option TE
 |0=>none
 |n+1=>(JI n).1
theorem OH: ∀ (n:Nat) (r:TE),BM n=some r→Ob Tryd.prog 97 (pP.enc (wX.lens ()) ()) (wX.enc (wX.lens ()) ()) (fun o H'=>o= .ret (uR ((xg 0 pP).enc ((sZ K1 wX).lens r.1) r.2))∧H'=(sZ K1 wX).enc ((sZ K1 wX).lens r.1) r.1)
 |0,_,h=>by cases h
 |n+1,r,h=>by
  exact wW (M:=rM n) ⟨(mV (qi (LG n)) (mV (zF (fun b a r h=>(Kx n) a.1 b.2.2.1 r h)) mY)),mZ,nH _,nI _,oh,oH,oV,oG⟩ Tryd.func97 rfl rfl (sE (jw (of_decide_eq_true (by kernel_rfl)) (jx (wX.sz _ _).symm)) _ (pP.nb _ _)) (fun x hx=>tN (jw (of_decide_eq_true (by kernel_rfl)) (jx (wX.sz _ _).symm)) _ (wX.nb _ _ x hx)) Tryd.ntmps97 Tryd.results97 (fun σ hs=>AA (P:=Tryd.prog) (rs:=[.tmp 0]) (pos:=[.arg 0 []]) (base:=[]) (low:=0) (os:=(sZ K1 wX)) (s:=(xg 0 pP)) (σ:=σ) (r:=r) (by rfl) hs) (((JI n).2).trans h)
noncomputable def wY:Nrm:=⟨[],[],[zK,zK,zA,zA,zK,zA,zK,zK,zA,zA,zA,zA,zA,zA,zA,zA,zA,zA,zA,zA,zA,zA,zA,zA,zA,zA,zA,zA,zA,zA,zA,zA,zA,zA,zA,zA,zA,zA,zA,zA,zA,zA,zA,zA,zA,zA,zA,zA,zA,zA,zA,zA,zA,zA,zA,zA,zA,zA,zA,zA,zA,zA,zA],[oC [zK,zT (oa Syntax.row),zK],oC [zK,zK,zK,zK],oM (nF Notation.cel),oM (nF Notation.cel),oK,oK,oT Syntax.cel],none,none⟩
noncomputable def nC:OL T0:=(sZ (BF (tI 1 (qy (oa Syntax.row) (qy (o9 .i64) pP)))) (sZ (BF (xg 2 (xg 3 (xg 4 (qy (o9 .i64) pP))))) (sZ (wh (nF Notation.cel)) (sZ (wh (nF Notation.cel)) (sZ K1 wX)))))
noncomputable def pI:OL T0:=(sZ (BF (tI 1 (qy (oa Syntax.row) (qy (o9 .i64) pP)))) (sZ (BF (xg 2 (xg 3 (xg 4 (qy (o9 .i64) pP))))) (sZ (wh (nF Notation.cel)) (sZ (wh (nF Notation.cel)) (sZ K1 wX)))))
noncomputable def pJ:AL (Syntax×(Int×Unit)):=(qy (nF Syntax.cel) (qy (o9 .i64) pP))
noncomputable def pK:OL T0:=(sZ (BF (tI 1 (qy (oa Syntax.row) (qy (o9 .i64) pP)))) (sZ (BF (xg 2 (xg 3 (xg 4 (qy (o9 .i64) pP))))) (sZ (wh (nF Notation.cel)) (sZ (wh (nF Notation.cel)) (sZ K1 wX)))))
noncomputable def nX:OL T0:=(sZ (BF (tI 1 (qy (oa Syntax.row) (qy (o9 .i64) pP)))) (sZ (BF (xg 2 (xg 3 (xg 4 (qy (o9 .i64) pP))))) (sZ (wh (nF Notation.cel)) (sZ (wh (nF Notation.cel)) (sZ K1 wX)))))
noncomputable def q5:OL T0:=(sZ (BF (tI 1 (qy (oa Syntax.row) (qy (o9 .i64) pP)))) (sZ (BF (xg 2 (xg 3 (xg 4 (qy (o9 .i64) pP))))) (sZ (wh (nF Notation.cel)) (sZ (wh (nF Notation.cel)) (sZ K1 wX)))))
noncomputable def q6:AL (Syntax×(Int×Unit)):=(qy (nF Syntax.cel) (qy (o9 .i64) pP))
noncomputable def q7:OL T0:=(sZ (BF (tI 1 (qy (oa Syntax.row) (qy (o9 .i64) pP)))) (sZ (BF (xg 2 (xg 3 (xg 4 (qy (o9 .i64) pP))))) (sZ (wh (nF Notation.cel)) (sZ (wh (nF Notation.cel)) (sZ K1 wX)))))
noncomputable def n6:AL Td:=(tI 0 (qy (nF Notation.cel) (qy (o9 .i64) (qy (UC Syntax.row) (qy (o9 .i64) pP)))))
noncomputable def nr:OL T0:=(sZ (BF (tI 1 (qy (oa Syntax.row) (qy (o9 .i64) pP)))) (sZ (BF (xg 2 (xg 3 (xg 4 (qy (o9 .i64) pP))))) (sZ (wh (nF Notation.cel)) (sZ (wh (nF Notation.cel)) (sZ K1 wX)))))
noncomputable def ow:OL T0:=(sZ (BF (tI 1 (qy (oa Syntax.row) (qy (o9 .i64) pP)))) (sZ (BF (xg 2 (xg 3 (xg 4 (qy (o9 .i64) pP))))) (sZ (wh (nF Notation.cel)) (sZ (wh (nF Notation.cel)) (sZ K1 wX)))))
noncomputable def oz:OL T0:=(sZ (BF (tI 1 (qy (oa Syntax.row) (qy (o9 .i64) pP)))) (sZ (BF (xg 2 (xg 3 (xg 4 (qy (o9 .i64) pP))))) (sZ (wh (nF Notation.cel)) (sZ (wh (nF Notation.cel)) (sZ K1 wX)))))
noncomputable def pE (mN:Int→(List Syntax)→Int→Int→T3→T3→T4→Option T5) (mL:Int→(List Syntax)→Int→Int→T3→T3→T4→Option T5) (mM:Notation→Int→(List Syntax)→Int→(List Syntax)→Int→Int→T3→T3→T4→Option T7) (n:Nat):pO T5 where
 body:=(Tryd.f53.body).getD .skip
 P:=Tryd.prog
 cl:=om [(80,entX [.arg 0 [],.obj 0 0 [],.obj 1 0 [],.obj 1 1 [],.obj 1 2 []] ni (tI 0 pP) nU (qy sD (qy pe pP)) (fun (b:T0) (a:Unit)=>(tA n) b.1.1 b.1.2.1 b.2.1.1 b.2.2.1 b.2.2.2.1 b.2.2.2.2.1)),(81,tH (nF Notation.cel) (o9 .i64) (o9 .i64) (vg n))]
 cd:=oo []
 qT:=ot [([0,1,1],wY)]
 cut:=ou []
 n:=n
 out:=Ov Tryd.prog [.cell 4 36,.tmp 5] [] [0,1,2,3,4] 5 pI pJ
 wU:=Ow [] [0,1,2,3,4] 5 pK (qy (FI 83 FJ) pP)
 cp:=Jz [(79,entXP true [.arg 0 [],.obj 0 0 [],.obj 1 0 [],.obj 1 1 [],.obj 1 2 []] nX (tI 0 (qy (o9 .i64) pP)) q5 q6 q7 (qy (FI 83 FJ) pP) (fun (b:T0) (a:(Int×Unit))=>mL a.1 b.1.1 b.1.2.1 b.2.1.1 b.2.2.1 b.2.2.2.1 b.2.2.2.2.1)),(82,entXP true [.arg 0 [],.obj 0 0 [],.obj 1 0 [],.obj 1 1 [],.obj 1 2 []] nr n6 ow (qy (nF Syntax.cel) pP) oz (qy (FI 83 FJ) pP) (fun (b:T0) (a:Td)=>mM a.1 a.2.1 a.2.2.1 a.2.2.2.1 b.1.1 b.1.2.1 b.2.1.1 b.2.2.1 b.2.2.2.1 b.2.2.2.2.1))]
 qZ:=nj [79,82]
theorem Ei (mN:Int→(List Syntax)→Int→Int→T3→T3→T4→Option T5) (mL:Int→(List Syntax)→Int→Int→T3→T3→T4→Option T5) (mM:Notation→Int→(List Syntax)→Int→(List Syntax)→Int→Int→T3→T3→T4→Option T7) (n:Nat):(pE mN mL mM n).P=Tryd.prog∧(pE mN mL mM n).cl=om [(80,entX [.arg 0 [],.obj 0 0 [],.obj 1 0 [],.obj 1 1 [],.obj 1 2 []] ni (tI 0 pP) nU (qy sD (qy pe pP)) (fun (b:T0) (a:Unit)=>(tA n) b.1.1 b.1.2.1 b.2.1.1 b.2.2.1 b.2.2.2.1 b.2.2.2.2.1)),(81,tH (nF Notation.cel) (o9 .i64) (o9 .i64) (vg n))]∧(pE mN mL mM n).cd=oo []∧(pE mN mL mM n).qT=ot [([0,1,1],wY)]∧(pE mN mL mM n).cut=ou []∧(pE mN mL mM n).n=n∧(pE mN mL mM n).out=Ov Tryd.prog [.cell 4 36,.tmp 5] [] [0,1,2,3,4] 5 pI pJ∧(pE mN mL mM n).wU=Ow [] [0,1,2,3,4] 5 pK (qy (FI 83 FJ) pP)∧(pE mN mL mM n).cp=Jz [(79,entXP true [.arg 0 [],.obj 0 0 [],.obj 1 0 [],.obj 1 1 [],.obj 1 2 []] nX (tI 0 (qy (o9 .i64) pP)) q5 q6 q7 (qy (FI 83 FJ) pP) (fun (b:T0) (a:(Int×Unit))=>mL a.1 b.1.1 b.1.2.1 b.2.1.1 b.2.2.1 b.2.2.2.1 b.2.2.2.2.1)),(82,entXP true [.arg 0 [],.obj 0 0 [],.obj 1 0 [],.obj 1 1 [],.obj 1 2 []] nr n6 ow (qy (nF Syntax.cel) pP) oz (qy (FI 83 FJ) pP) (fun (b:T0) (a:Td)=>mM a.1 a.2.1 a.2.2.1 a.2.2.2.1 b.1.1 b.1.2.1 b.2.1.1 b.2.2.1 b.2.2.2.1 b.2.2.2.2.1))]∧(pE mN mL mM n).qZ=nj [79,82]:=⟨rfl,rfl,rfl,rfl,rfl,rfl,rfl,rfl,rfl,rfl⟩
theorem Ej (mN:Int→(List Syntax)→Int→Int→T3→T3→T4→Option T5) (mL:Int→(List Syntax)→Int→Int→T3→T3→T4→Option T5) (mM:Notation→Int→(List Syntax)→Int→(List Syntax)→Int→Int→T3→T3→T4→Option T7) (n:Nat):(pE mN mL mM n).body=(Tryd.f53.body).getD .skip:=rfl
noncomputable def vp (mN:Int→(List Syntax)→Int→Int→T3→T3→T4→Option T5) (mL:Int→(List Syntax)→Int→Int→T3→T3→T4→Option T5) (mM:Notation→Int→(List Syntax)→Int→(List Syntax)→Int→Int→T3→T3→T4→Option T7) (n:Nat):{B:(Int→Int→(List Syntax)→Int→Int→T3→T3→T4→Syntax→Option T5)→Int→Int→(List Syntax)→Int→Int→T3→T3→T4→Syntax→Option T5 // ∀m X0,(∀ (v0:Int) (v1:Int) (v2:List Syntax) (v3:Int) (v4:Int) (r2:List (Str×Notation)) (r3:List (Str×Notation)) (r4:List (Str×Bool)) (o6:Syntax),run (pE mN mL mM n) [.lq m [0,1,1],.qC 0] ⟨[.ptr 0 0,.int .i64 v0,qA,qA,.ptr 5 0,qA,.ptr 6 0,.int .i64 v1,qA,qA,qA,qA,qA,qA,qA,qA,qA,qA,qA,qA,qA,qA,qA,qA,qA,qA,qA,qA,qA,qA,qA,qA,qA,qA,qA,qA,qA,qA,qA,qA,qA,qA,qA,qA,qA,qA,qA,qA,qA,qA,qA,qA,qA,qA,qA,qA,qA,qA,qA,qA,qA,qA,qA],[.cells [.ptr 1 0,.nE false 8 (mp Syntax.cells v2),.int .i64 v3],.cells [.map 2,.map 3,.map 4,.int .i64 v4],.map (mp (mcT (nF Notation.cel)) r2),.map (mp (mcT (nF Notation.cel)) r3),.map (mp mcB r4),.cells [.int .i64 0,.str (sb []),.int .i64 0,.nE true 0 [],.nE true 0 [],.nE true 0 [],.int .i64 0,.int .i64 0],.cells (Syntax.cells o6)],5,[]⟩=X0 v0 v1 v2 v3 v4 r2 r3 r4 o6)→ ∀ (v0:Int) (v1:Int) (v2:List Syntax) (v3:Int) (v4:Int) (r2:List (Str×Notation)) (r3:List (Str×Notation)) (r4:List (Str×Bool)) (o6:Syntax),run (pE mN mL mM n) [.at [0,0,1,1],.lp m [0,1,1],.qC 0] ⟨[.ptr 0 0,.int .i64 v0,qA,qA,.ptr 5 0,qA,.ptr 6 0,.int .i64 v1,qA,qA,qA,qA,qA,qA,qA,qA,qA,qA,qA,qA,qA,qA,qA,qA,qA,qA,qA,qA,qA,qA,qA,qA,qA,qA,qA,qA,qA,qA,qA,qA,qA,qA,qA,qA,qA,qA,qA,qA,qA,qA,qA,qA,qA,qA,qA,qA,qA,qA,qA,qA,qA,qA,qA],[.cells [.ptr 1 0,.nE false 8 (mp Syntax.cells v2),.int .i64 v3],.cells [.map 2,.map 3,.map 4,.int .i64 v4],.map (mp (mcT (nF Notation.cel)) r2),.map (mp (mcT (nF Notation.cel)) r3),.map (mp mcB r4),.cells [.int .i64 0,.str (sb []),.int .i64 0,.nE true 0 [],.nE true 0 [],.nE true 0 [],.int .i64 0,.int .i64 0],.cells (Syntax.cells o6)],5,[]⟩=B X0 v0 v1 v2 v3 v4 r2 r3 r4 o6}:=by
 apply jv
 intro m X0 ih v0 v1 v2 v3 v4 r2 r3 r4 o6
 simp (config:={maxSteps:=100000000,implicitDefEqProofs:=false}) only[go_sem,jj,jk,jf,jg,jl,jm,jq,jr,jt,ji,jo,ju,Ei,Ej,Tryd.f53,jh,mixed,nC,pI,pJ,pK,nX,q5,q6,q7,n6,nr,ow,oz,ni,nU,wY,ih]
 exact rfl
noncomputable def qP (mN:Int→(List Syntax)→Int→Int→T3→T3→T4→Option T5) (mL:Int→(List Syntax)→Int→Int→T3→T3→T4→Option T5) (mM:Notation→Int→(List Syntax)→Int→(List Syntax)→Int→Int→T3→T3→T4→Option T7) (n:Nat):Nat→Int→Int→(List Syntax)→Int→Int→T3→T3→T4→Syntax→Option T5
 |0,_,_,_,_,_,_,_,_,_=>none
 |m+1,v0,v1,v2,v3,v4,r2,r3,r4,o6=>(vp mN mL mM n).1 (qP mN mL mM n m) v0 v1 v2 v3 v4 r2 r3 r4 o6
theorem BN (mN:Int→(List Syntax)→Int→Int→T3→T3→T4→Option T5) (mL:Int→(List Syntax)→Int→Int→T3→T3→T4→Option T5) (mM:Notation→Int→(List Syntax)→Int→(List Syntax)→Int→Int→T3→T3→T4→Option T7) (n:Nat): ∀ (m:Nat),(∀ (v0:Int) (v1:Int) (v2:List Syntax) (v3:Int) (v4:Int) (r2:List (Str×Notation)) (r3:List (Str×Notation)) (r4:List (Str×Bool)) (o6:Syntax),run (pE mN mL mM n) [.lq m [0,1,1],.qC 0] ⟨[.ptr 0 0,.int .i64 v0,qA,qA,.ptr 5 0,qA,.ptr 6 0,.int .i64 v1,qA,qA,qA,qA,qA,qA,qA,qA,qA,qA,qA,qA,qA,qA,qA,qA,qA,qA,qA,qA,qA,qA,qA,qA,qA,qA,qA,qA,qA,qA,qA,qA,qA,qA,qA,qA,qA,qA,qA,qA,qA,qA,qA,qA,qA,qA,qA,qA,qA,qA,qA,qA,qA,qA,qA],[.cells [.ptr 1 0,.nE false 8 (mp Syntax.cells v2),.int .i64 v3],.cells [.map 2,.map 3,.map 4,.int .i64 v4],.map (mp (mcT (nF Notation.cel)) r2),.map (mp (mcT (nF Notation.cel)) r3),.map (mp mcB r4),.cells [.int .i64 0,.str (sb []),.int .i64 0,.nE true 0 [],.nE true 0 [],.nE true 0 [],.int .i64 0,.int .i64 0],.cells (Syntax.cells o6)],5,[]⟩=qP mN mL mM n m v0 v1 v2 v3 v4 r2 r3 r4 o6)
 |0=>by intros;exact nk
 |m+1=>by
  have ih:=BN mN mL mM n m
  intro v0 v1 v2 v3 v4 r2 r3 r4 o6
  rw[nq]
  exact (vp mN mL mM n).2 m _ ih v0 v1 v2 v3 v4 r2 r3 r4 o6
noncomputable def xO (mN:Int→(List Syntax)→Int→Int→T3→T3→T4→Option T5) (mL:Int→(List Syntax)→Int→Int→T3→T3→T4→Option T5) (mM:Notation→Int→(List Syntax)→Int→(List Syntax)→Int→Int→T3→T3→T4→Option T7) (n:Nat):{B:Int→(List Syntax)→Int→Int→T3→T3→T4→Option T5 // ∀ (a0:Int) (o0:(List Syntax)) (o1:Int) (o2:Int) (o3:T3) (o4:T3) (o5:T4),run (pE mN mL mM n) [.at []] {slots:=((tI 0 (qy (o9 .i64) pP)).enc (nC.lens ((o0,o1,()),(o2,()),o3,o4,o5,())) (a0,()))++jy (63-((tI 0 (qy (o9 .i64) pP)).enc (nC.lens ((o0,o1,()),(o2,()),o3,o4,o5,())) (a0,())).length) qA,heap:=(nC.enc (nC.lens ((o0,o1,()),(o2,()),o3,o4,o5,())) ((o0,o1,()),(o2,()),o3,o4,o5,())),low:=(nC.enc (nC.lens ((o0,o1,()),(o2,()),o3,o4,o5,())) ((o0,o1,()),(o2,()),o3,o4,o5,())).length}=B a0 o0 o1 o2 o3 o4 o5}:=by
 apply jv
 intro a0 o0 o1 o2 o3 o4 o5
 simp (config:={maxSteps:=100000000,implicitDefEqProofs:=false}) only[go_sem,jj,jk,jf,jg,jl,jm,jq,jr,jt,ji,jo,ju,Ei,Ej,Tryd.f53,jh,mixed,nC,pI,pJ,pK,nX,q5,q6,q7,n6,nr,ow,oz,ni,nU,wY,BN mN mL mM n]
 exact rfl
noncomputable def mX (mN:Int→(List Syntax)→Int→Int→T3→T3→T4→Option T5) (mL:Int→(List Syntax)→Int→Int→T3→T3→T4→Option T5) (mM:Notation→Int→(List Syntax)→Int→(List Syntax)→Int→Int→T3→T3→T4→Option T7) (n:Nat):pO T5 where
 body:=(Tryd.f79.body).getD .skip
 P:=Tryd.prog
 cl:=om [(44,qj (nF Notation.cel) pe (sN n))]
 cd:=oo []
 qT:=ot []
 cut:=ou []
 n:=n
 out:=Ov Tryd.prog [.cell 4 36,.tmp 5] [] [0,1,2,3,4] 5 q5 q6
 wU:=Ow [] [0,1,2,3,4] 5 q7 (qy (FI 83 FJ) pP)
 co:=Py [(82,Oo [.arg 0 [],.obj 0 0 [],.obj 1 0 [],.obj 1 1 [],.obj 1 2 []] nr n6 ow (qy (nF Syntax.cel) pP) oz (qy (FI 83 FJ) pP) (fun (b:T0) (a:Td)=>mM a.1 a.2.1 a.2.2.1 a.2.2.2.1 b.1.1 b.1.2.1 b.2.1.1 b.2.2.1 b.2.2.2.1 b.2.2.2.2.1))]
 cp:=Jz [(82,entXP true [.arg 0 [],.obj 0 0 [],.obj 1 0 [],.obj 1 1 [],.obj 1 2 []] nr n6 ow (qy (nF Syntax.cel) pP) oz (qy (FI 83 FJ) pP) (fun (b:T0) (a:Td)=>mM a.1 a.2.1 a.2.2.1 a.2.2.2.1 b.1.1 b.1.2.1 b.2.1.1 b.2.2.1 b.2.2.2.1 b.2.2.2.2.1))]
 qZ:=nj [82]
 Ay:=nj [82]
 Ax:=nj []
theorem HB (mN:Int→(List Syntax)→Int→Int→T3→T3→T4→Option T5) (mL:Int→(List Syntax)→Int→Int→T3→T3→T4→Option T5) (mM:Notation→Int→(List Syntax)→Int→(List Syntax)→Int→Int→T3→T3→T4→Option T7) (n:Nat):(mX mN mL mM n).P=Tryd.prog∧(mX mN mL mM n).cl=om [(44,qj (nF Notation.cel) pe (sN n))]∧(mX mN mL mM n).cd=oo []∧(mX mN mL mM n).qT=ot []∧(mX mN mL mM n).cut=ou []∧(mX mN mL mM n).n=n∧(mX mN mL mM n).out=Ov Tryd.prog [.cell 4 36,.tmp 5] [] [0,1,2,3,4] 5 q5 q6∧(mX mN mL mM n).wU=Ow [] [0,1,2,3,4] 5 q7 (qy (FI 83 FJ) pP)∧(mX mN mL mM n).co=Py [(82,Oo [.arg 0 [],.obj 0 0 [],.obj 1 0 [],.obj 1 1 [],.obj 1 2 []] nr n6 ow (qy (nF Syntax.cel) pP) oz (qy (FI 83 FJ) pP) (fun (b:T0) (a:Td)=>mM a.1 a.2.1 a.2.2.1 a.2.2.2.1 b.1.1 b.1.2.1 b.2.1.1 b.2.2.1 b.2.2.2.1 b.2.2.2.2.1))]∧(mX mN mL mM n).cp=Jz [(82,entXP true [.arg 0 [],.obj 0 0 [],.obj 1 0 [],.obj 1 1 [],.obj 1 2 []] nr n6 ow (qy (nF Syntax.cel) pP) oz (qy (FI 83 FJ) pP) (fun (b:T0) (a:Td)=>mM a.1 a.2.1 a.2.2.1 a.2.2.2.1 b.1.1 b.1.2.1 b.2.1.1 b.2.2.1 b.2.2.2.1 b.2.2.2.2.1))]∧(mX mN mL mM n).qZ=nj [82]∧(mX mN mL mM n).Ay=nj [82]∧(mX mN mL mM n).Ax=nj []:=⟨rfl,rfl,rfl,rfl,rfl,rfl,rfl,rfl,rfl,rfl,rfl,rfl,rfl⟩
theorem HC (mN:Int→(List Syntax)→Int→Int→T3→T3→T4→Option T5) (mL:Int→(List Syntax)→Int→Int→T3→T3→T4→Option T5) (mM:Notation→Int→(List Syntax)→Int→(List Syntax)→Int→Int→T3→T3→T4→Option T7) (n:Nat):(mX mN mL mM n).body=(Tryd.f79.body).getD .skip:=rfl
theorem HD (mN:Int→(List Syntax)→Int→Int→T3→T3→T4→Option T5) (mL:Int→(List Syntax)→Int→Int→T3→T3→T4→Option T5) (mM:Notation→Int→(List Syntax)→Int→(List Syntax)→Int→Int→T3→T3→T4→Option T7) (n:Nat):tY (mX mN mL mM n) [0,0,1]=true∧tY (mX mN mL mM n) [0,0,1,1,1,0,0,1,1,1,1,1]=true∧tY (mX mN mL mM n) [0,1,1]=true∧tY (mX mN mL mM n) [0,1,1,1,1]=true:=⟨by kernel_rfl,by kernel_rfl,by kernel_rfl,by kernel_rfl⟩
theorem HE (mN:Int→(List Syntax)→Int→Int→T3→T3→T4→Option T5) (mL:Int→(List Syntax)→Int→Int→T3→T3→T4→Option T5) (mM:Notation→Int→(List Syntax)→Int→(List Syntax)→Int→Int→T3→T3→T4→Option T7) (n:Nat):sX (mX mN mL mM n) [0,0,1,1,1,0,0,1,1,1,1,1] 1 7=true∧sX (mX mN mL mM n) [0,0,1,1,1,0,0,1,1,1,1,1] 3 7=true∧sX (mX mN mL mM n) [0,0,1,1,1,0,0,1,1,1,1,1] 4 7=true∧sX (mX mN mL mM n) [0,1,1] 3 11=true∧sX (mX mN mL mM n) [0,1,1] 7 11=true∧sX (mX mN mL mM n) [0,1,1] 8 11=true∧sX (mX mN mL mM n) [0,1,1] 9 11=true∧sX (mX mN mL mM n) [0,1,1] 10 11=true∧sX (mX mN mL mM n) [0,1,1,1,1] 3 14=true∧sX (mX mN mL mM n) [0,1,1,1,1] 6 14=true∧sX (mX mN mL mM n) [0,1,1,1,1] 8 14=true∧sX (mX mN mL mM n) [0,1,1,1,1] 9 14=true∧sX (mX mN mL mM n) [0,1,1,1,1] 13 14=true:=⟨by kernel_rfl,by kernel_rfl,by kernel_rfl,by kernel_rfl,by kernel_rfl,by kernel_rfl,by kernel_rfl,by kernel_rfl,by kernel_rfl,by kernel_rfl,by kernel_rfl,by kernel_rfl,by kernel_rfl⟩
theorem HF (mN:Int→(List Syntax)→Int→Int→T3→T3→T4→Option T5) (mL:Int→(List Syntax)→Int→Int→T3→T3→T4→Option T5) (mM:Notation→Int→(List Syntax)→Int→(List Syntax)→Int→Int→T3→T3→T4→Option T7) (n:Nat):Yq (mX mN mL mM n) [0,0,1,1,1,0,0,1,1,1,1,1] 4 5=false∧Yq (mX mN mL mM n) [0,0,1,1,1,0,0,1,1,1,1,1] 4 6=false∧Yq (mX mN mL mM n) [0,0,1,1,1,0,0,1,1,1,1,1] 4 7=true∧Yq (mX mN mL mM n) [0,0,1,1,1,0,0,1,1,1,1,1] 4 8=true:=⟨by kernel_rfl,by kernel_rfl,by kernel_rfl,by kernel_rfl⟩
noncomputable def sn (mN:Int→(List Syntax)→Int→Int→T3→T3→T4→Option T5) (mL:Int→(List Syntax)→Int→Int→T3→T3→T4→Option T5) (mM:Notation→Int→(List Syntax)→Int→(List Syntax)→Int→Int→T3→T3→T4→Option T7) (n:Nat):{B:Int→(List Syntax)→Int→Int→T3→T3→T4→Option T5 // ∀ (a0:Int) (o0:(List Syntax)) (o1:Int) (o2:Int) (o3:T3) (o4:T3) (o5:T4),run (mX mN mL mM n) [.at []] {slots:=((tI 0 (qy (o9 .i64) pP)).enc (nX.lens ((o0,o1,()),(o2,()),o3,o4,o5,())) (a0,()))++jy (83-((tI 0 (qy (o9 .i64) pP)).enc (nX.lens ((o0,o1,()),(o2,()),o3,o4,o5,())) (a0,())).length) qA,heap:=(nX.enc (nX.lens ((o0,o1,()),(o2,()),o3,o4,o5,())) ((o0,o1,()),(o2,()),o3,o4,o5,())),low:=(nX.enc (nX.lens ((o0,o1,()),(o2,()),o3,o4,o5,())) ((o0,o1,()),(o2,()),o3,o4,o5,())).length}=B a0 o0 o1 o2 o3 o4 o5}:=by
 apply jv
 intro a0 o0 o1 o2 o3 o4 o5
 simp (config:={maxSteps:=100000000,implicitDefEqProofs:=false}) only[go_sem,jj,jk,jf,jg,jl,jm,jq,jr,jt,ji,jo,ju,HB,HC,Tryd.f79,jh,mixed,nX,q5,q6,q7,n6,nr,ow,oz,HD,HE,HF]
 exact rfl
noncomputable def sO:Nrm:=⟨[],[],[zA,zA,zA,zA,zK,zA,zA,zA,zA,zA,zK,zK,zA,zA,zA,zA,zA,zA,zK,zA,zA,zA,zA,zA,zA,zA,zA,zA,zA,zA,zA,zA,zA,zA,zA,zA,zA,zA,zA,zA,zA,zA,zA,zA,zA,zA,zA,zA,zA,zA,zA,zA,zA,zA,zA,zA,zA,zA,zA,zA,zA,zA,zA,zA,zA,zA,zA,zA,zA,zA,zA,zA,zA,zA,zA,zA,zA,zA,zA,zA,zA,zA,zA,zA,zA,zA,zA,zK,zK,zK,zA,zA,zA,zA,zA,zA,zA,zA,zA,zA,zA],[oC [zK,zT (oa Syntax.row),zK],oC [zK,zK,zK,zK],oM (nF Notation.cel),oM (nF Notation.cel),oK,oD,oK,oD,oA Syntax.row,oC [zK,zK,zK,zK,zK,zT (oa Syntax.row),zK,zK]],none,none⟩
noncomputable def sP:Nrm:=⟨[],[],[zA,zA,zA,zA,zK,zA,zA,zA,zA,zA,zK,zK,zA,zA,zA,zA,zA,zA,zK,zA,zA,zA,zA,zA,zA,zA,zA,zA,zA,zA,zA,zA,zA,zA,zA,zA,zA,zA,zA,zA,zA,zA,zA,zA,zA,zA,zA,zA,zA,zA,zA,zA,zA,zA,zA,zA,zA,zA,zA,zA,zA,zA,zA,zA,zA,zA,zA,zA,zA,zA,zA,zA,zA,zA,zA,zA,zA,zA,zA,zA,zA,zA,zA,zA,zA,zA,zA,zL Syntax.row,zK,zK,zA,zA,zA,zA,zA,zA,zA,zA,zA,zA,zA],[oC [zK,zT (oa Syntax.row),zK],oC [zK,zK,zK,zK],oM (nF Notation.cel),oM (nF Notation.cel),oK,oD,oK,oC [zK,zK,zK,zK,zK,zT (oa Syntax.row),zK,zK]],(some 87),none⟩
noncomputable def sQ:Nrm:=⟨[],[],[zK,zA,zK,zK,zK,zA,zK,zA,zA,zA,zK,zK,zA,zA,zA,zA,zA,zA,zA,zA,zA,zA,zA,zA,zT (oa p8),zK,zK,zA,zA,zA,zA,zA,zA,zA,zA,zA,zA,zA,zA,zA,zA,zA,zA,zA,zA,zA,zA,zA,zA,zA,zA,zA,zA,zA,zA,zA,zA,zA,zA,zA,zA,zA,zA,zA,zA,zA,zA,zA,zA,zA,zA,zA,zA,zA,zA,zA,zA,zA,zA,zA,zA,zA,zA,zA,zA,zA,zA,zA,zA,zA,zA,zA,zA,zA,zA,zA,zA,zA,zA,zA,zA],[oC [zK,zT (oa Syntax.row),zK],oC [zK,zK,zK,zK],oM (nF Notation.cel),oM (nF Notation.cel),oK,oT Notation.cel,oK,oD,oA Syntax.row],none,none⟩
noncomputable def sS:Nrm:=⟨[],[],[zK,zA,zK,zL Syntax.row,zK,zA,zK,zA,zA,zA,zK,zK,zA,zA,zA,zA,zA,zA,zA,zA,zA,zA,zA,zA,zT (oa p8),zK,zK,zA,zA,zA,zA,zA,zA,zA,zA,zA,zA,zA,zA,zA,zA,zA,zA,zA,zA,zA,zA,zA,zA,zA,zA,zA,zA,zA,zA,zA,zA,zA,zA,zA,zA,zA,zA,zA,zA,zA,zA,zA,zA,zA,zA,zA,zA,zA,zA,zA,zA,zA,zA,zA,zA,zA,zA,zA,zA,zA,zA,zA,zA,zA,zA,zA,zA,zA,zA,zA,zA,zA,zA,zA,zA],[oC [zK,zT (oa Syntax.row),zK],oC [zK,zK,zK,zK],oM (nF Notation.cel),oM (nF Notation.cel),oK,oT Notation.cel,oK],(some 3),none⟩
noncomputable def nh (mN:Int→(List Syntax)→Int→Int→T3→T3→T4→Option T5) (mL:Int→(List Syntax)→Int→Int→T3→T3→T4→Option T5) (mM:Notation→Int→(List Syntax)→Int→(List Syntax)→Int→Int→T3→T3→T4→Option T7) (n:Nat):pO T7 where
 body:=(Tryd.f82.body).getD .skip
 P:=Tryd.prog
 cl:=om [(80,entX [.arg 0 [],.obj 0 0 [],.obj 1 0 [],.obj 1 1 [],.obj 1 2 []] ni (tI 0 pP) nU (qy sD (qy pe pP)) (fun (b:T0) (a:Unit)=>(tA n) b.1.1 b.1.2.1 b.2.1.1 b.2.2.1 b.2.2.2.1 b.2.2.2.2.1)),(81,tH (nF Notation.cel) (o9 .i64) (o9 .i64) (vg n))]
 cd:=oo []
 qT:=ot [([0,1,0,1,1],sS),([0,1,0,1,1],sQ),([0,1,0,1,1,1,1],sP),([0,1,0,1,1,1,1],sO)]
 cut:=ou []
 n:=n
 out:=Ov Tryd.prog [.cell 10 36] [] [0,1,2,3,4] 5 ow (qy (nF Syntax.cel) pP)
 wU:=Ow [] [0,1,2,3,4] 5 oz (qy (FI 83 FJ) pP)
 cp:=Jz [(53,entXP true [.arg 0 [],.obj 0 0 [],.obj 1 0 [],.obj 1 1 [],.obj 1 2 []] nC (tI 0 (qy (o9 .i64) pP)) pI pJ pK (qy (FI 83 FJ) pP) (fun (b:T0) (a:(Int×Unit))=>mN a.1 b.1.1 b.1.2.1 b.2.1.1 b.2.2.1 b.2.2.2.1 b.2.2.2.2.1))]
 qZ:=nj [53]
 Ay:=nj []
 Ax:=nj []
theorem vQ (mN:Int→(List Syntax)→Int→Int→T3→T3→T4→Option T5) (mL:Int→(List Syntax)→Int→Int→T3→T3→T4→Option T5) (mM:Notation→Int→(List Syntax)→Int→(List Syntax)→Int→Int→T3→T3→T4→Option T7) (n:Nat):(nh mN mL mM n).P=Tryd.prog∧(nh mN mL mM n).cl=om [(80,entX [.arg 0 [],.obj 0 0 [],.obj 1 0 [],.obj 1 1 [],.obj 1 2 []] ni (tI 0 pP) nU (qy sD (qy pe pP)) (fun (b:T0) (a:Unit)=>(tA n) b.1.1 b.1.2.1 b.2.1.1 b.2.2.1 b.2.2.2.1 b.2.2.2.2.1)),(81,tH (nF Notation.cel) (o9 .i64) (o9 .i64) (vg n))]∧(nh mN mL mM n).cd=oo []∧(nh mN mL mM n).qT=ot [([0,1,0,1,1],sS),([0,1,0,1,1],sQ),([0,1,0,1,1,1,1],sP),([0,1,0,1,1,1,1],sO)]∧(nh mN mL mM n).cut=ou []∧(nh mN mL mM n).n=n∧(nh mN mL mM n).out=Ov Tryd.prog [.cell 10 36] [] [0,1,2,3,4] 5 ow (qy (nF Syntax.cel) pP)∧(nh mN mL mM n).wU=Ow [] [0,1,2,3,4] 5 oz (qy (FI 83 FJ) pP)∧(nh mN mL mM n).cp=Jz [(53,entXP true [.arg 0 [],.obj 0 0 [],.obj 1 0 [],.obj 1 1 [],.obj 1 2 []] nC (tI 0 (qy (o9 .i64) pP)) pI pJ pK (qy (FI 83 FJ) pP) (fun (b:T0) (a:(Int×Unit))=>mN a.1 b.1.1 b.1.2.1 b.2.1.1 b.2.2.1 b.2.2.2.1 b.2.2.2.2.1))]∧(nh mN mL mM n).qZ=nj [53]∧(nh mN mL mM n).Ay=nj []∧(nh mN mL mM n).Ax=nj []:=⟨rfl,rfl,rfl,rfl,rfl,rfl,rfl,rfl,rfl,rfl,rfl,rfl⟩
theorem vR (mN:Int→(List Syntax)→Int→Int→T3→T3→T4→Option T5) (mL:Int→(List Syntax)→Int→Int→T3→T3→T4→Option T5) (mM:Notation→Int→(List Syntax)→Int→(List Syntax)→Int→Int→T3→T3→T4→Option T7) (n:Nat):(nh mN mL mM n).body=(Tryd.f82.body).getD .skip:=rfl
theorem vS (mN:Int→(List Syntax)→Int→Int→T3→T3→T4→Option T5) (mL:Int→(List Syntax)→Int→Int→T3→T3→T4→Option T5) (mM:Notation→Int→(List Syntax)→Int→(List Syntax)→Int→Int→T3→T3→T4→Option T7) (n:Nat):tY (nh mN mL mM n) [0,1,1,1,0,0,1,1,0,0,1,0,1,1]=true:=by kernel_rfl
noncomputable def wZ (mN:Int→(List Syntax)→Int→Int→T3→T3→T4→Option T5) (mL:Int→(List Syntax)→Int→Int→T3→T3→T4→Option T5) (mM:Notation→Int→(List Syntax)→Int→(List Syntax)→Int→Int→T3→T3→T4→Option T7) (n:Nat):{B:(Int→Int→Int→Int→(List Syntax)→Int→Int→T3→T3→T4→(List Syntax)→Int→Str→(List Syntax)→Int→Int→Option T7)→Int→Int→Int→Int→(List Syntax)→Int→Int→T3→T3→T4→(List Syntax)→Int→Str→(List Syntax)→Int→Int→Option T7 // ∀m X0,(∀ (v0:Int) (v1:Int) (v2:Int) (v3:Int) (v4:List Syntax) (v5:Int) (v6:Int) (r2:List (Str×Notation)) (r3:List (Str×Notation)) (r4:List (Str×Bool)) (r8:List Syntax) (v11:Int) (v12:Str) (PL:List Syntax) (PM:Int) (PN:Int) (c8:Nat),c8=r8.length→run (nh mN mL mM n) [.lq m [0,1,0,1,1,1,1],.qC 2,.cut [1,1,1,1,1],.at [1,1,1,1,1]] ⟨[qA,qA,qA,qA,.int .i64 v0,qA,qA,qA,qA,qA,.ptr 6 0,.int .i64 v1,qA,qA,qA,qA,qA,qA,.ptr 9 0,qA,qA,qA,qA,qA,qA,qA,qA,qA,qA,qA,qA,qA,qA,qA,qA,qA,qA,qA,qA,qA,qA,qA,qA,qA,qA,qA,qA,qA,qA,qA,qA,qA,qA,qA,qA,qA,qA,qA,qA,qA,qA,qA,qA,qA,qA,qA,qA,qA,qA,qA,qA,qA,qA,qA,qA,qA,qA,qA,qA,qA,qA,qA,qA,qA,qA,qA,qA,.acc 8 c8,.int .i64 v2,.int .i64 v3,qA,qA,qA,qA,qA,qA,qA,qA,qA,qA,qA],[.cells [.ptr 1 0,.nE false 8 (mp Syntax.cells v4),.int .i64 v5],.cells [.map 2,.map 3,.map 4,.int .i64 v6],.map (mp (mcT (nF Notation.cel)) r2),.map (mp (mcT (nF Notation.cel)) r3),.map (mp mcB r4),.dead,.cells [.int .i64 0,.str (sb []),.int .i64 0,.nE true 0 [],.nE true 0 [],.nE true 0 [],.int .i64 0,.int .i64 0],.dead,.acc true 8 (mp Syntax.cells r8),.cells [.int .i64 v11,.str (sb v12),.int .i64 0,.nE true 0 [],.nE true 0 [],.nE false 8 (mp Syntax.cells PL),.int .i64 PM,.int .i64 PN]],5,[]⟩=X0 v0 v1 v2 v3 v4 v5 v6 r2 r3 r4 r8 v11 v12 PL PM PN)→ ∀ (v0:Int) (v1:Int) (v2:Int) (v3:Int) (v4:List Syntax) (v5:Int) (v6:Int) (r2:List (Str×Notation)) (r3:List (Str×Notation)) (r4:List (Str×Bool)) (r8:List Syntax) (v11:Int) (v12:Str) (PL:List Syntax) (PM:Int) (PN:Int),run (nh mN mL mM n) [.at [0,0,1,0,1,1,1,1],.lp m [0,1,0,1,1,1,1],.qC 2,.cut [1,1,1,1,1],.at [1,1,1,1,1]] ⟨[qA,qA,qA,qA,.int .i64 v0,qA,qA,qA,qA,qA,.ptr 6 0,.int .i64 v1,qA,qA,qA,qA,qA,qA,.ptr 9 0,qA,qA,qA,qA,qA,qA,qA,qA,qA,qA,qA,qA,qA,qA,qA,qA,qA,qA,qA,qA,qA,qA,qA,qA,qA,qA,qA,qA,qA,qA,qA,qA,qA,qA,qA,qA,qA,qA,qA,qA,qA,qA,qA,qA,qA,qA,qA,qA,qA,qA,qA,qA,qA,qA,qA,qA,qA,qA,qA,qA,qA,qA,qA,qA,qA,qA,qA,qA,.acc 8 r8.length,.int .i64 v2,.int .i64 v3,qA,qA,qA,qA,qA,qA,qA,qA,qA,qA,qA],[.cells [.ptr 1 0,.nE false 8 (mp Syntax.cells v4),.int .i64 v5],.cells [.map 2,.map 3,.map 4,.int .i64 v6],.map (mp (mcT (nF Notation.cel)) r2),.map (mp (mcT (nF Notation.cel)) r3),.map (mp mcB r4),.dead,.cells [.int .i64 0,.str (sb []),.int .i64 0,.nE true 0 [],.nE true 0 [],.nE true 0 [],.int .i64 0,.int .i64 0],.dead,.acc true 8 (mp Syntax.cells r8),.cells [.int .i64 v11,.str (sb v12),.int .i64 0,.nE true 0 [],.nE true 0 [],.nE false 8 (mp Syntax.cells PL),.int .i64 PM,.int .i64 PN]],5,[]⟩=B X0 v0 v1 v2 v3 v4 v5 v6 r2 r3 r4 r8 v11 v12 PL PM PN}:=by
 apply jv
 intro m X0 ih v0 v1 v2 v3 v4 v5 v6 r2 r3 r4 r8 v11 v12 PL PM PN
 simp (config:={maxSteps:=100000000,implicitDefEqProofs:=false}) only[go_sem,jj,jk,jf,jg,jl,jm,jq,jr,jt,ji,jo,ju,vQ,vR,Tryd.f82,jh,mixed,n6,nr,ow,oz,nC,pI,pJ,pK,ni,nU,vS,sO,sP,sQ,sS,ih]
 exact rfl
noncomputable def uw (mN:Int→(List Syntax)→Int→Int→T3→T3→T4→Option T5) (mL:Int→(List Syntax)→Int→Int→T3→T3→T4→Option T5) (mM:Notation→Int→(List Syntax)→Int→(List Syntax)→Int→Int→T3→T3→T4→Option T7) (n:Nat):Nat→Int→Int→Int→Int→(List Syntax)→Int→Int→T3→T3→T4→(List Syntax)→Int→Str→(List Syntax)→Int→Int→Option T7
 |0,_,_,_,_,_,_,_,_,_,_,_,_,_,_,_,_=>none
 |m+1,v0,v1,v2,v3,v4,v5,v6,r2,r3,r4,r8,v11,v12,PL,PM,PN=>(wZ mN mL mM n).1 (uw mN mL mM n m) v0 v1 v2 v3 v4 v5 v6 r2 r3 r4 r8 v11 v12 PL PM PN
theorem uE (mN:Int→(List Syntax)→Int→Int→T3→T3→T4→Option T5) (mL:Int→(List Syntax)→Int→Int→T3→T3→T4→Option T5) (mM:Notation→Int→(List Syntax)→Int→(List Syntax)→Int→Int→T3→T3→T4→Option T7) (n:Nat): ∀ (m:Nat),(∀ (v0:Int) (v1:Int) (v2:Int) (v3:Int) (v4:List Syntax) (v5:Int) (v6:Int) (r2:List (Str×Notation)) (r3:List (Str×Notation)) (r4:List (Str×Bool)) (r8:List Syntax) (v11:Int) (v12:Str) (PL:List Syntax) (PM:Int) (PN:Int) (c8:Nat),c8=r8.length→run (nh mN mL mM n) [.lq m [0,1,0,1,1,1,1],.qC 2,.cut [1,1,1,1,1],.at [1,1,1,1,1]] ⟨[qA,qA,qA,qA,.int .i64 v0,qA,qA,qA,qA,qA,.ptr 6 0,.int .i64 v1,qA,qA,qA,qA,qA,qA,.ptr 9 0,qA,qA,qA,qA,qA,qA,qA,qA,qA,qA,qA,qA,qA,qA,qA,qA,qA,qA,qA,qA,qA,qA,qA,qA,qA,qA,qA,qA,qA,qA,qA,qA,qA,qA,qA,qA,qA,qA,qA,qA,qA,qA,qA,qA,qA,qA,qA,qA,qA,qA,qA,qA,qA,qA,qA,qA,qA,qA,qA,qA,qA,qA,qA,qA,qA,qA,qA,qA,.acc 8 c8,.int .i64 v2,.int .i64 v3,qA,qA,qA,qA,qA,qA,qA,qA,qA,qA,qA],[.cells [.ptr 1 0,.nE false 8 (mp Syntax.cells v4),.int .i64 v5],.cells [.map 2,.map 3,.map 4,.int .i64 v6],.map (mp (mcT (nF Notation.cel)) r2),.map (mp (mcT (nF Notation.cel)) r3),.map (mp mcB r4),.dead,.cells [.int .i64 0,.str (sb []),.int .i64 0,.nE true 0 [],.nE true 0 [],.nE true 0 [],.int .i64 0,.int .i64 0],.dead,.acc true 8 (mp Syntax.cells r8),.cells [.int .i64 v11,.str (sb v12),.int .i64 0,.nE true 0 [],.nE true 0 [],.nE false 8 (mp Syntax.cells PL),.int .i64 PM,.int .i64 PN]],5,[]⟩=uw mN mL mM n m v0 v1 v2 v3 v4 v5 v6 r2 r3 r4 r8 v11 v12 PL PM PN)
 |0=>by intros;exact nk
 |m+1=>by
  have ih:=uE mN mL mM n m
  intro v0 v1 v2 v3 v4 v5 v6 r2 r3 r4 r8 v11 v12 PL PM PN c8 ec8
  subst ec8
  rw[nq]
  exact (wZ mN mL mM n).2 m _ ih v0 v1 v2 v3 v4 v5 v6 r2 r3 r4 r8 v11 v12 PL PM PN
noncomputable def w8 (mN:Int→(List Syntax)→Int→Int→T3→T3→T4→Option T5) (mL:Int→(List Syntax)→Int→Int→T3→T3→T4→Option T5) (mM:Notation→Int→(List Syntax)→Int→(List Syntax)→Int→Int→T3→T3→T4→Option T7) (n:Nat):{B:(Int→Int→(List Syntax)→Int→Int→(List Syntax)→Int→Int→T3→T3→T4→Int→Str→(List Syntax)→Int→Int→Option T7)→Int→Int→(List Syntax)→Int→Int→(List Syntax)→Int→Int→T3→T3→T4→Int→Str→(List Syntax)→Int→Int→Option T7 // ∀m X0,(∀ (v0:Int) (v1:Int) (v2:List Syntax) (v3:Int) (v4:Int) (v5:List Syntax) (v6:Int) (v7:Int) (r2:List (Str×Notation)) (r3:List (Str×Notation)) (r4:List (Str×Bool)) (v11:Int) (v12:Str) (PL:List Syntax) (PM:Int) (PN:Int),run (nh mN mL mM n) [.lq m [0,1,0,1,1,1,1],.qC 2,.cut [1,1,1,1,1],.at [1,1,1,1,1]] ⟨[qA,qA,qA,qA,.int .i64 v0,qA,qA,qA,qA,qA,.ptr 6 0,.int .i64 v1,qA,qA,qA,qA,qA,qA,.ptr 7 0,qA,qA,qA,qA,qA,qA,qA,qA,qA,qA,qA,qA,qA,qA,qA,qA,qA,qA,qA,qA,qA,qA,qA,qA,qA,qA,qA,qA,qA,qA,qA,qA,qA,qA,qA,qA,qA,qA,qA,qA,qA,qA,qA,qA,qA,qA,qA,qA,qA,qA,qA,qA,qA,qA,qA,qA,qA,qA,qA,qA,qA,qA,qA,qA,qA,qA,qA,qA,.nE true 8 (mp Syntax.cells v2),.int .i64 v3,.int .i64 v4,qA,qA,qA,qA,qA,qA,qA,qA,qA,qA,qA],[.cells [.ptr 1 0,.nE false 8 (mp Syntax.cells v5),.int .i64 v6],.cells [.map 2,.map 3,.map 4,.int .i64 v7],.map (mp (mcT (nF Notation.cel)) r2),.map (mp (mcT (nF Notation.cel)) r3),.map (mp mcB r4),.dead,.cells [.int .i64 0,.str (sb []),.int .i64 0,.nE true 0 [],.nE true 0 [],.nE true 0 [],.int .i64 0,.int .i64 0],.cells [.int .i64 v11,.str (sb v12),.int .i64 0,.nE true 0 [],.nE true 0 [],.nE false 8 (mp Syntax.cells PL),.int .i64 PM,.int .i64 PN]],5,[]⟩=X0 v0 v1 v2 v3 v4 v5 v6 v7 r2 r3 r4 v11 v12 PL PM PN)→ ∀ (v0:Int) (v1:Int) (v2:List Syntax) (v3:Int) (v4:Int) (v5:List Syntax) (v6:Int) (v7:Int) (r2:List (Str×Notation)) (r3:List (Str×Notation)) (r4:List (Str×Bool)) (v11:Int) (v12:Str) (PL:List Syntax) (PM:Int) (PN:Int),run (nh mN mL mM n) [.at [0,0,1,0,1,1,1,1],.lp m [0,1,0,1,1,1,1],.qC 2,.cut [1,1,1,1,1],.at [1,1,1,1,1]] ⟨[qA,qA,qA,qA,.int .i64 v0,qA,qA,qA,qA,qA,.ptr 6 0,.int .i64 v1,qA,qA,qA,qA,qA,qA,.ptr 7 0,qA,qA,qA,qA,qA,qA,qA,qA,qA,qA,qA,qA,qA,qA,qA,qA,qA,qA,qA,qA,qA,qA,qA,qA,qA,qA,qA,qA,qA,qA,qA,qA,qA,qA,qA,qA,qA,qA,qA,qA,qA,qA,qA,qA,qA,qA,qA,qA,qA,qA,qA,qA,qA,qA,qA,qA,qA,qA,qA,qA,qA,qA,qA,qA,qA,qA,qA,qA,.nE true 8 (mp Syntax.cells v2),.int .i64 v3,.int .i64 v4,qA,qA,qA,qA,qA,qA,qA,qA,qA,qA,qA],[.cells [.ptr 1 0,.nE false 8 (mp Syntax.cells v5),.int .i64 v6],.cells [.map 2,.map 3,.map 4,.int .i64 v7],.map (mp (mcT (nF Notation.cel)) r2),.map (mp (mcT (nF Notation.cel)) r3),.map (mp mcB r4),.dead,.cells [.int .i64 0,.str (sb []),.int .i64 0,.nE true 0 [],.nE true 0 [],.nE true 0 [],.int .i64 0,.int .i64 0],.cells [.int .i64 v11,.str (sb v12),.int .i64 0,.nE true 0 [],.nE true 0 [],.nE false 8 (mp Syntax.cells PL),.int .i64 PM,.int .i64 PN]],5,[]⟩=B X0 v0 v1 v2 v3 v4 v5 v6 v7 r2 r3 r4 v11 v12 PL PM PN}:=by
 apply jv
 intro m X0 ih v0 v1 v2 v3 v4 v5 v6 v7 r2 r3 r4 v11 v12 PL PM PN
 simp (config:={maxSteps:=100000000,implicitDefEqProofs:=false}) only[go_sem,jj,jk,jf,jg,jl,jm,jq,jr,jt,ji,jo,ju,vQ,vR,Tryd.f82,jh,mixed,n6,nr,ow,oz,nC,pI,pJ,pK,ni,nU,vS,sO,sP,sQ,sS,uE mN mL mM n,ih]
 exact rfl
noncomputable def ux (mN:Int→(List Syntax)→Int→Int→T3→T3→T4→Option T5) (mL:Int→(List Syntax)→Int→Int→T3→T3→T4→Option T5) (mM:Notation→Int→(List Syntax)→Int→(List Syntax)→Int→Int→T3→T3→T4→Option T7) (n:Nat):Nat→Int→Int→(List Syntax)→Int→Int→(List Syntax)→Int→Int→T3→T3→T4→Int→Str→(List Syntax)→Int→Int→Option T7
 |0,_,_,_,_,_,_,_,_,_,_,_,_,_,_,_,_=>none
 |m+1,v0,v1,v2,v3,v4,v5,v6,v7,r2,r3,r4,v11,v12,PL,PM,PN=>(w8 mN mL mM n).1 (ux mN mL mM n m) v0 v1 v2 v3 v4 v5 v6 v7 r2 r3 r4 v11 v12 PL PM PN
theorem vT (mN:Int→(List Syntax)→Int→Int→T3→T3→T4→Option T5) (mL:Int→(List Syntax)→Int→Int→T3→T3→T4→Option T5) (mM:Notation→Int→(List Syntax)→Int→(List Syntax)→Int→Int→T3→T3→T4→Option T7) (n:Nat): ∀ (m:Nat),(∀ (v0:Int) (v1:Int) (v2:List Syntax) (v3:Int) (v4:Int) (v5:List Syntax) (v6:Int) (v7:Int) (r2:List (Str×Notation)) (r3:List (Str×Notation)) (r4:List (Str×Bool)) (v11:Int) (v12:Str) (PL:List Syntax) (PM:Int) (PN:Int),run (nh mN mL mM n) [.lq m [0,1,0,1,1,1,1],.qC 2,.cut [1,1,1,1,1],.at [1,1,1,1,1]] ⟨[qA,qA,qA,qA,.int .i64 v0,qA,qA,qA,qA,qA,.ptr 6 0,.int .i64 v1,qA,qA,qA,qA,qA,qA,.ptr 7 0,qA,qA,qA,qA,qA,qA,qA,qA,qA,qA,qA,qA,qA,qA,qA,qA,qA,qA,qA,qA,qA,qA,qA,qA,qA,qA,qA,qA,qA,qA,qA,qA,qA,qA,qA,qA,qA,qA,qA,qA,qA,qA,qA,qA,qA,qA,qA,qA,qA,qA,qA,qA,qA,qA,qA,qA,qA,qA,qA,qA,qA,qA,qA,qA,qA,qA,qA,qA,.nE true 8 (mp Syntax.cells v2),.int .i64 v3,.int .i64 v4,qA,qA,qA,qA,qA,qA,qA,qA,qA,qA,qA],[.cells [.ptr 1 0,.nE false 8 (mp Syntax.cells v5),.int .i64 v6],.cells [.map 2,.map 3,.map 4,.int .i64 v7],.map (mp (mcT (nF Notation.cel)) r2),.map (mp (mcT (nF Notation.cel)) r3),.map (mp mcB r4),.dead,.cells [.int .i64 0,.str (sb []),.int .i64 0,.nE true 0 [],.nE true 0 [],.nE true 0 [],.int .i64 0,.int .i64 0],.cells [.int .i64 v11,.str (sb v12),.int .i64 0,.nE true 0 [],.nE true 0 [],.nE false 8 (mp Syntax.cells PL),.int .i64 PM,.int .i64 PN]],5,[]⟩=ux mN mL mM n m v0 v1 v2 v3 v4 v5 v6 v7 r2 r3 r4 v11 v12 PL PM PN)
 |0=>by intros;exact nk
 |m+1=>by
  have ih:=vT mN mL mM n m
  intro v0 v1 v2 v3 v4 v5 v6 v7 r2 r3 r4 v11 v12 PL PM PN
  rw[nq]
  exact (w8 mN mL mM n).2 m _ ih v0 v1 v2 v3 v4 v5 v6 v7 r2 r3 r4 v11 v12 PL PM PN
noncomputable def sU (mN:Int→(List Syntax)→Int→Int→T3→T3→T4→Option T5) (mL:Int→(List Syntax)→Int→Int→T3→T3→T4→Option T5) (mM:Notation→Int→(List Syntax)→Int→(List Syntax)→Int→Int→T3→T3→T4→Option T7) (n:Nat):{B:(Int→Int→Int→(List Str)→Int→Int→(List Syntax)→Int→Int→T3→T3→T4→Notation→(List Syntax)→Option T7)→Int→Int→Int→(List Str)→Int→Int→(List Syntax)→Int→Int→T3→T3→T4→Notation→(List Syntax)→Option T7 // ∀m X0,(∀ (v0:Int) (v1:Int) (v2:Int) (v3:List Str) (v4:Int) (v5:Int) (v6:List Syntax) (v7:Int) (v8:Int) (r2:List (Str×Notation)) (r3:List (Str×Notation)) (r4:List (Str×Bool)) (o5:Notation) (r8:List Syntax) (c8:Nat),c8=r8.length→run (nh mN mL mM n) [.lq m [0,1,0,1,1],.qC 0,.cut [1,1,1],.at [1,1,1]] ⟨[.ptr 0 0,qA,.int .i64 v0,.acc 8 c8,.int .i64 v1,qA,.ptr 5 0,qA,qA,qA,.ptr 6 0,.int .i64 v2,qA,qA,qA,qA,qA,qA,qA,qA,qA,qA,qA,qA,.nE false 1 (mp n4 v3),.int .i64 v4,.int .i64 v5,qA,qA,qA,qA,qA,qA,qA,qA,qA,qA,qA,qA,qA,qA,qA,qA,qA,qA,qA,qA,qA,qA,qA,qA,qA,qA,qA,qA,qA,qA,qA,qA,qA,qA,qA,qA,qA,qA,qA,qA,qA,qA,qA,qA,qA,qA,qA,qA,qA,qA,qA,qA,qA,qA,qA,qA,qA,qA,qA,qA,qA,qA,qA,qA,qA,qA,qA,qA,qA,qA,qA,qA,qA,qA],[.cells [.ptr 1 0,.nE false 8 (mp Syntax.cells v6),.int .i64 v7],.cells [.map 2,.map 3,.map 4,.int .i64 v8],.map (mp (mcT (nF Notation.cel)) r2),.map (mp (mcT (nF Notation.cel)) r3),.map (mp mcB r4),.cells (Notation.cells o5),.cells [.int .i64 0,.str (sb []),.int .i64 0,.nE true 0 [],.nE true 0 [],.nE true 0 [],.int .i64 0,.int .i64 0],.dead,.acc true 8 (mp Syntax.cells r8)],5,[]⟩=X0 v0 v1 v2 v3 v4 v5 v6 v7 v8 r2 r3 r4 o5 r8)→ ∀ (v0:Int) (v1:Int) (v2:Int) (v3:List Str) (v4:Int) (v5:Int) (v6:List Syntax) (v7:Int) (v8:Int) (r2:List (Str×Notation)) (r3:List (Str×Notation)) (r4:List (Str×Bool)) (o5:Notation) (r8:List Syntax),run (nh mN mL mM n) [.at [0,0,1,0,1,1],.lp m [0,1,0,1,1],.qC 0,.cut [1,1,1],.at [1,1,1]] ⟨[.ptr 0 0,qA,.int .i64 v0,.acc 8 r8.length,.int .i64 v1,qA,.ptr 5 0,qA,qA,qA,.ptr 6 0,.int .i64 v2,qA,qA,qA,qA,qA,qA,qA,qA,qA,qA,qA,qA,.nE false 1 (mp n4 v3),.int .i64 v4,.int .i64 v5,qA,qA,qA,qA,qA,qA,qA,qA,qA,qA,qA,qA,qA,qA,qA,qA,qA,qA,qA,qA,qA,qA,qA,qA,qA,qA,qA,qA,qA,qA,qA,qA,qA,qA,qA,qA,qA,qA,qA,qA,qA,qA,qA,qA,qA,qA,qA,qA,qA,qA,qA,qA,qA,qA,qA,qA,qA,qA,qA,qA,qA,qA,qA,qA,qA,qA,qA,qA,qA,qA,qA,qA,qA,qA],[.cells [.ptr 1 0,.nE false 8 (mp Syntax.cells v6),.int .i64 v7],.cells [.map 2,.map 3,.map 4,.int .i64 v8],.map (mp (mcT (nF Notation.cel)) r2),.map (mp (mcT (nF Notation.cel)) r3),.map (mp mcB r4),.cells (Notation.cells o5),.cells [.int .i64 0,.str (sb []),.int .i64 0,.nE true 0 [],.nE true 0 [],.nE true 0 [],.int .i64 0,.int .i64 0],.dead,.acc true 8 (mp Syntax.cells r8)],5,[]⟩=B X0 v0 v1 v2 v3 v4 v5 v6 v7 v8 r2 r3 r4 o5 r8}:=by
 apply jv
 intro m X0 ih v0 v1 v2 v3 v4 v5 v6 v7 v8 r2 r3 r4 o5 r8
 simp (config:={maxSteps:=100000000,implicitDefEqProofs:=false}) only[go_sem,jj,jk,jf,jg,jl,jm,jq,jr,jt,ji,jo,ju,vQ,vR,Tryd.f82,jh,mixed,n6,nr,ow,oz,nC,pI,pJ,pK,ni,nU,vS,sO,sP,sQ,sS,uE mN mL mM n,vT mN mL mM n,ih]
 exact rfl
noncomputable def rZ (mN:Int→(List Syntax)→Int→Int→T3→T3→T4→Option T5) (mL:Int→(List Syntax)→Int→Int→T3→T3→T4→Option T5) (mM:Notation→Int→(List Syntax)→Int→(List Syntax)→Int→Int→T3→T3→T4→Option T7) (n:Nat):Nat→Int→Int→Int→(List Str)→Int→Int→(List Syntax)→Int→Int→T3→T3→T4→Notation→(List Syntax)→Option T7
 |0,_,_,_,_,_,_,_,_,_,_,_,_,_,_=>none
 |m+1,v0,v1,v2,v3,v4,v5,v6,v7,v8,r2,r3,r4,o5,r8=>(sU mN mL mM n).1 (rZ mN mL mM n m) v0 v1 v2 v3 v4 v5 v6 v7 v8 r2 r3 r4 o5 r8
theorem yx (mN:Int→(List Syntax)→Int→Int→T3→T3→T4→Option T5) (mL:Int→(List Syntax)→Int→Int→T3→T3→T4→Option T5) (mM:Notation→Int→(List Syntax)→Int→(List Syntax)→Int→Int→T3→T3→T4→Option T7) (n:Nat): ∀ (m:Nat),(∀ (v0:Int) (v1:Int) (v2:Int) (v3:List Str) (v4:Int) (v5:Int) (v6:List Syntax) (v7:Int) (v8:Int) (r2:List (Str×Notation)) (r3:List (Str×Notation)) (r4:List (Str×Bool)) (o5:Notation) (r8:List Syntax) (c8:Nat),c8=r8.length→run (nh mN mL mM n) [.lq m [0,1,0,1,1],.qC 0,.cut [1,1,1],.at [1,1,1]] ⟨[.ptr 0 0,qA,.int .i64 v0,.acc 8 c8,.int .i64 v1,qA,.ptr 5 0,qA,qA,qA,.ptr 6 0,.int .i64 v2,qA,qA,qA,qA,qA,qA,qA,qA,qA,qA,qA,qA,.nE false 1 (mp n4 v3),.int .i64 v4,.int .i64 v5,qA,qA,qA,qA,qA,qA,qA,qA,qA,qA,qA,qA,qA,qA,qA,qA,qA,qA,qA,qA,qA,qA,qA,qA,qA,qA,qA,qA,qA,qA,qA,qA,qA,qA,qA,qA,qA,qA,qA,qA,qA,qA,qA,qA,qA,qA,qA,qA,qA,qA,qA,qA,qA,qA,qA,qA,qA,qA,qA,qA,qA,qA,qA,qA,qA,qA,qA,qA,qA,qA,qA,qA,qA,qA],[.cells [.ptr 1 0,.nE false 8 (mp Syntax.cells v6),.int .i64 v7],.cells [.map 2,.map 3,.map 4,.int .i64 v8],.map (mp (mcT (nF Notation.cel)) r2),.map (mp (mcT (nF Notation.cel)) r3),.map (mp mcB r4),.cells (Notation.cells o5),.cells [.int .i64 0,.str (sb []),.int .i64 0,.nE true 0 [],.nE true 0 [],.nE true 0 [],.int .i64 0,.int .i64 0],.dead,.acc true 8 (mp Syntax.cells r8)],5,[]⟩=rZ mN mL mM n m v0 v1 v2 v3 v4 v5 v6 v7 v8 r2 r3 r4 o5 r8)
 |0=>by intros;exact nk
 |m+1=>by
  have ih:=yx mN mL mM n m
  intro v0 v1 v2 v3 v4 v5 v6 v7 v8 r2 r3 r4 o5 r8 c8 ec8
  subst ec8
  rw[nq]
  exact (sU mN mL mM n).2 m _ ih v0 v1 v2 v3 v4 v5 v6 v7 v8 r2 r3 r4 o5 r8
noncomputable def sV (mN:Int→(List Syntax)→Int→Int→T3→T3→T4→Option T5) (mL:Int→(List Syntax)→Int→Int→T3→T3→T4→Option T5) (mM:Notation→Int→(List Syntax)→Int→(List Syntax)→Int→Int→T3→T3→T4→Option T7) (n:Nat):{B:Nat→(Int→(List Syntax)→Int→Int→(List Str)→Int→Int→(List Syntax)→Int→Int→T3→T3→T4→Notation→Option T7)→Int→(List Syntax)→Int→Int→(List Str)→Int→Int→(List Syntax)→Int→Int→T3→T3→T4→Notation→Option T7 // ∀m X0,(∀ (v0:Int) (v1:List Syntax) (v2:Int) (v3:Int) (v4:List Str) (v5:Int) (v6:Int) (v7:List Syntax) (v8:Int) (v9:Int) (r2:List (Str×Notation)) (r3:List (Str×Notation)) (r4:List (Str×Bool)) (o5:Notation),run (nh mN mL mM n) [.lq m [0,1,0,1,1],.qC 0,.cut [1,1,1],.at [1,1,1]] ⟨[.ptr 0 0,qA,.int .i64 v0,.nE true 8 (mp Syntax.cells v1),.int .i64 v2,qA,.ptr 5 0,qA,qA,qA,.ptr 6 0,.int .i64 v3,qA,qA,qA,qA,qA,qA,qA,qA,qA,qA,qA,qA,.nE false 1 (mp n4 v4),.int .i64 v5,.int .i64 v6,qA,qA,qA,qA,qA,qA,qA,qA,qA,qA,qA,qA,qA,qA,qA,qA,qA,qA,qA,qA,qA,qA,qA,qA,qA,qA,qA,qA,qA,qA,qA,qA,qA,qA,qA,qA,qA,qA,qA,qA,qA,qA,qA,qA,qA,qA,qA,qA,qA,qA,qA,qA,qA,qA,qA,qA,qA,qA,qA,qA,qA,qA,qA,qA,qA,qA,qA,qA,qA,qA,qA,qA,qA,qA],[.cells [.ptr 1 0,.nE false 8 (mp Syntax.cells v7),.int .i64 v8],.cells [.map 2,.map 3,.map 4,.int .i64 v9],.map (mp (mcT (nF Notation.cel)) r2),.map (mp (mcT (nF Notation.cel)) r3),.map (mp mcB r4),.cells (Notation.cells o5),.cells [.int .i64 0,.str (sb []),.int .i64 0,.nE true 0 [],.nE true 0 [],.nE true 0 [],.int .i64 0,.int .i64 0]],5,[]⟩=X0 v0 v1 v2 v3 v4 v5 v6 v7 v8 v9 r2 r3 r4 o5)→ ∀ (v0:Int) (v1:List Syntax) (v2:Int) (v3:Int) (v4:List Str) (v5:Int) (v6:Int) (v7:List Syntax) (v8:Int) (v9:Int) (r2:List (Str×Notation)) (r3:List (Str×Notation)) (r4:List (Str×Bool)) (o5:Notation),run (nh mN mL mM n) [.at [0,0,1,0,1,1],.lp m [0,1,0,1,1],.qC 0,.cut [1,1,1],.at [1,1,1]] ⟨[.ptr 0 0,qA,.int .i64 v0,.nE true 8 (mp Syntax.cells v1),.int .i64 v2,qA,.ptr 5 0,qA,qA,qA,.ptr 6 0,.int .i64 v3,qA,qA,qA,qA,qA,qA,qA,qA,qA,qA,qA,qA,.nE false 1 (mp n4 v4),.int .i64 v5,.int .i64 v6,qA,qA,qA,qA,qA,qA,qA,qA,qA,qA,qA,qA,qA,qA,qA,qA,qA,qA,qA,qA,qA,qA,qA,qA,qA,qA,qA,qA,qA,qA,qA,qA,qA,qA,qA,qA,qA,qA,qA,qA,qA,qA,qA,qA,qA,qA,qA,qA,qA,qA,qA,qA,qA,qA,qA,qA,qA,qA,qA,qA,qA,qA,qA,qA,qA,qA,qA,qA,qA,qA,qA,qA,qA,qA],[.cells [.ptr 1 0,.nE false 8 (mp Syntax.cells v7),.int .i64 v8],.cells [.map 2,.map 3,.map 4,.int .i64 v9],.map (mp (mcT (nF Notation.cel)) r2),.map (mp (mcT (nF Notation.cel)) r3),.map (mp mcB r4),.cells (Notation.cells o5),.cells [.int .i64 0,.str (sb []),.int .i64 0,.nE true 0 [],.nE true 0 [],.nE true 0 [],.int .i64 0,.int .i64 0]],5,[]⟩=B m X0 v0 v1 v2 v3 v4 v5 v6 v7 v8 v9 r2 r3 r4 o5}:=by
 apply jv
 intro m X0 ih v0 v1 v2 v3 v4 v5 v6 v7 v8 v9 r2 r3 r4 o5
 simp (config:={maxSteps:=100000000,implicitDefEqProofs:=false}) only[go_sem,jj,jk,jf,jg,jl,jm,jq,jr,jt,ji,jo,ju,vQ,vR,Tryd.f82,jh,mixed,n6,nr,ow,oz,nC,pI,pJ,pK,ni,nU,vS,sO,sP,sQ,sS,uE mN mL mM n,vT mN mL mM n,yx mN mL mM n,ih]
 exact rfl
noncomputable def rj (mN:Int→(List Syntax)→Int→Int→T3→T3→T4→Option T5) (mL:Int→(List Syntax)→Int→Int→T3→T3→T4→Option T5) (mM:Notation→Int→(List Syntax)→Int→(List Syntax)→Int→Int→T3→T3→T4→Option T7) (n:Nat):Nat→Int→(List Syntax)→Int→Int→(List Str)→Int→Int→(List Syntax)→Int→Int→T3→T3→T4→Notation→Option T7
 |0,_,_,_,_,_,_,_,_,_,_,_,_,_,_=>none
 |m+1,v0,v1,v2,v3,v4,v5,v6,v7,v8,v9,r2,r3,r4,o5=>(sV mN mL mM n).1 m (rj mN mL mM n m) v0 v1 v2 v3 v4 v5 v6 v7 v8 v9 r2 r3 r4 o5
theorem BO (mN:Int→(List Syntax)→Int→Int→T3→T3→T4→Option T5) (mL:Int→(List Syntax)→Int→Int→T3→T3→T4→Option T5) (mM:Notation→Int→(List Syntax)→Int→(List Syntax)→Int→Int→T3→T3→T4→Option T7) (n:Nat): ∀ (m:Nat),(∀ (v0:Int) (v1:List Syntax) (v2:Int) (v3:Int) (v4:List Str) (v5:Int) (v6:Int) (v7:List Syntax) (v8:Int) (v9:Int) (r2:List (Str×Notation)) (r3:List (Str×Notation)) (r4:List (Str×Bool)) (o5:Notation),run (nh mN mL mM n) [.lq m [0,1,0,1,1],.qC 0,.cut [1,1,1],.at [1,1,1]] ⟨[.ptr 0 0,qA,.int .i64 v0,.nE true 8 (mp Syntax.cells v1),.int .i64 v2,qA,.ptr 5 0,qA,qA,qA,.ptr 6 0,.int .i64 v3,qA,qA,qA,qA,qA,qA,qA,qA,qA,qA,qA,qA,.nE false 1 (mp n4 v4),.int .i64 v5,.int .i64 v6,qA,qA,qA,qA,qA,qA,qA,qA,qA,qA,qA,qA,qA,qA,qA,qA,qA,qA,qA,qA,qA,qA,qA,qA,qA,qA,qA,qA,qA,qA,qA,qA,qA,qA,qA,qA,qA,qA,qA,qA,qA,qA,qA,qA,qA,qA,qA,qA,qA,qA,qA,qA,qA,qA,qA,qA,qA,qA,qA,qA,qA,qA,qA,qA,qA,qA,qA,qA,qA,qA,qA,qA,qA,qA],[.cells [.ptr 1 0,.nE false 8 (mp Syntax.cells v7),.int .i64 v8],.cells [.map 2,.map 3,.map 4,.int .i64 v9],.map (mp (mcT (nF Notation.cel)) r2),.map (mp (mcT (nF Notation.cel)) r3),.map (mp mcB r4),.cells (Notation.cells o5),.cells [.int .i64 0,.str (sb []),.int .i64 0,.nE true 0 [],.nE true 0 [],.nE true 0 [],.int .i64 0,.int .i64 0]],5,[]⟩=rj mN mL mM n m v0 v1 v2 v3 v4 v5 v6 v7 v8 v9 r2 r3 r4 o5)
 |0=>by intros;exact nk
 |m+1=>by
  have ih:=BO mN mL mM n m
  intro v0 v1 v2 v3 v4 v5 v6 v7 v8 v9 r2 r3 r4 o5
  rw[nq]
  exact (sV mN mL mM n).2 m _ ih v0 v1 v2 v3 v4 v5 v6 v7 v8 v9 r2 r3 r4 o5
noncomputable def AJ (mN:Int→(List Syntax)→Int→Int→T3→T3→T4→Option T5) (mL:Int→(List Syntax)→Int→Int→T3→T3→T4→Option T5) (mM:Notation→Int→(List Syntax)→Int→(List Syntax)→Int→Int→T3→T3→T4→Option T7) (n:Nat):{B:Notation→Int→(List Syntax)→Int→(List Syntax)→Int→Int→T3→T3→T4→Option T7 // ∀ (a0:Notation) (a1:Int) (a2:(List Syntax)) (a3:Int) (o0:(List Syntax)) (o1:Int) (o2:Int) (o3:T3) (o4:T3) (o5:T4),run (nh mN mL mM n) [.at []] {slots:=(n6.enc (nr.lens ((o0,o1,()),(o2,()),o3,o4,o5,())) (a0,a1,a2,a3,()))++jy (101-(n6.enc (nr.lens ((o0,o1,()),(o2,()),o3,o4,o5,())) (a0,a1,a2,a3,())).length) qA,heap:=(nr.enc (nr.lens ((o0,o1,()),(o2,()),o3,o4,o5,())) ((o0,o1,()),(o2,()),o3,o4,o5,())),low:=(nr.enc (nr.lens ((o0,o1,()),(o2,()),o3,o4,o5,())) ((o0,o1,()),(o2,()),o3,o4,o5,())).length}=B a0 a1 a2 a3 o0 o1 o2 o3 o4 o5}:=by
 apply jv
 intro a0 a1 a2 a3 o0 o1 o2 o3 o4 o5
 simp (config:={maxSteps:=100000000,implicitDefEqProofs:=false}) only[go_sem,jj,jk,jf,jg,jl,jm,jq,jr,jt,ji,jo,ju,vQ,vR,Tryd.f82,jh,mixed,n6,nr,ow,oz,nC,pI,pJ,pK,ni,nU,vS,sO,sP,sQ,sS,uE mN mL mM n,vT mN mL mM n,yx mN mL mM n,BO mN mL mM n]
 exact rfl
mutual
noncomputable def ng:Nat→Int→(List Syntax)→Int→Int→T3→T3→T4→Option T5
 |0,_,_,_,_,_,_,_=>none
 |n+1,a0,o0,o1,o2,o3,o4,o5=>(xO (ng n) (m0 n) (nK n) n).1 a0 o0 o1 o2 o3 o4 o5
noncomputable def m0:Nat→Int→(List Syntax)→Int→Int→T3→T3→T4→Option T5
 |0,_,_,_,_,_,_,_=>none
 |n+1,a0,o0,o1,o2,o3,o4,o5=>(sn (ng n) (m0 n) (nK n) n).1 a0 o0 o1 o2 o3 o4 o5
noncomputable def nK:Nat→Notation→Int→(List Syntax)→Int→(List Syntax)→Int→Int→T3→T3→T4→Option T7
 |0,_,_,_,_,_,_,_,_,_,_=>none
 |n+1,a0,a1,a2,a3,o0,o1,o2,o3,o4,o5=>(AJ (ng n) (m0 n) (nK n) n).1 a0 a1 a2 a3 o0 o1 o2 o3 o4 o5
end
mutual
theorem w9: ∀ (n:Nat) (a0:Int) (o0:(List Syntax)) (o1:Int) (o2:Int) (o3:T3) (o4:T3) (o5:T4) (r:T5),ng n a0 o0 o1 o2 o3 o4 o5=some r→FnP Tryd.prog 53 ((tI 0 (qy (o9 .i64) pP)).enc (nC.lens ((o0,o1,()),(o2,()),o3,o4,o5,())) (a0,())) (nC.enc (nC.lens ((o0,o1,()),(o2,()),o3,o4,o5,())) ((o0,o1,()),(o2,()),o3,o4,o5,())) (enP true pI pJ pK (qy (FI 83 FJ) pP) r)
 |0,_,_,_,_,_,_,_,_,h=>by simp only[ng] at h;cases h
 |n+1,a0,o0,o1,o2,o3,o4,o5,r,h=>by
  simp only[ng] at h
  have Ai:=w9 n
  have yy:=yz n
  have vq:=Aj n
  exact WO (p1:=[]) (p2:=[]) (b1:=[0,1,2,3,4]) (b2:=[0,1,2,3,4]) (M:=pE (ng n) (m0 n) (nK n) n) ⟨(mV (zF (fun b a r h=>(Cn n) b.1.1 b.1.2.1 b.2.1.1 b.2.2.1 b.2.2.2.1 b.2.2.2.2.1 r h)) (mV (uH (Ce n)) mY)),mZ,nH _,nI _,oh,oH,(xF (CG (fun b a r h=>(yy) a.1 b.1.1 b.1.2.1 b.2.1.1 b.2.2.1 b.2.2.2.1 b.2.2.2.2.1 r h)) (xF (CG (fun b a r h=>(vq) a.1 a.2.1 a.2.2.1 a.2.2.2.1 b.1.1 b.1.2.1 b.2.1.1 b.2.2.1 b.2.2.2.1 b.2.2.2.2.1 r h)) BG)),oG⟩ Tryd.func53 rfl rfl (sE (jw (of_decide_eq_true (by kernel_rfl)) (jx (nC.sz _ _).symm)) _ ((tI 0 (qy (o9 .i64) pP)).nb _ _)) (fun x hx=>tN (jw (of_decide_eq_true (by kernel_rfl)) (jx (nC.sz _ _).symm)) _ (nC.nb _ _ x hx)) Tryd.ntmps53 Tryd.results53 (low:=5) (by rfl) (by rfl) (fun b a=>⟨_,rfl⟩) rfl rfl (((xO (ng n) (m0 n) (nK n) n).2 a0 o0 o1 o2 o3 o4 o5).trans h)
theorem yz: ∀ (n:Nat) (a0:Int) (o0:(List Syntax)) (o1:Int) (o2:Int) (o3:T3) (o4:T3) (o5:T4) (r:T5),m0 n a0 o0 o1 o2 o3 o4 o5=some r→FnP Tryd.prog 79 ((tI 0 (qy (o9 .i64) pP)).enc (nX.lens ((o0,o1,()),(o2,()),o3,o4,o5,())) (a0,())) (nX.enc (nX.lens ((o0,o1,()),(o2,()),o3,o4,o5,())) ((o0,o1,()),(o2,()),o3,o4,o5,())) (enP true q5 q6 q7 (qy (FI 83 FJ) pP) r)
 |0,_,_,_,_,_,_,_,_,h=>by simp only[m0] at h;cases h
 |n+1,a0,o0,o1,o2,o3,o4,o5,r,h=>by
  simp only[m0] at h
  have Ai:=w9 n
  have yy:=yz n
  have vq:=Aj n
  exact WO (p1:=[]) (p2:=[]) (b1:=[0,1,2,3,4]) (b2:=[0,1,2,3,4]) (M:=mX (ng n) (m0 n) (nK n) n) ⟨(mV (qi (yY n)) mY),mZ,nH _,nI _,oh,oH,(xF (CG (fun b a r h=>(vq) a.1 a.2.1 a.2.2.1 a.2.2.2.1 b.1.1 b.1.2.1 b.2.1.1 b.2.2.1 b.2.2.2.1 b.2.2.2.2.1 r h)) BG),(Oq (Zi (fun b a r h=>(vq) a.1 a.2.1 a.2.2.1 a.2.2.2.1 b.1.1 b.1.2.1 b.2.1.1 b.2.2.1 b.2.2.2.1 b.2.2.2.2.1 r h)) Qt)⟩ Tryd.func79 rfl rfl (sE (jw (of_decide_eq_true (by kernel_rfl)) (jx (nX.sz _ _).symm)) _ ((tI 0 (qy (o9 .i64) pP)).nb _ _)) (fun x hx=>tN (jw (of_decide_eq_true (by kernel_rfl)) (jx (nX.sz _ _).symm)) _ (nX.nb _ _ x hx)) Tryd.ntmps79 Tryd.results79 (low:=5) (by rfl) (by rfl) (fun b a=>⟨_,rfl⟩) rfl rfl (((sn (ng n) (m0 n) (nK n) n).2 a0 o0 o1 o2 o3 o4 o5).trans h)
theorem Aj: ∀ (n:Nat) (a0:Notation) (a1:Int) (a2:(List Syntax)) (a3:Int) (o0:(List Syntax)) (o1:Int) (o2:Int) (o3:T3) (o4:T3) (o5:T4) (r:T7),nK n a0 a1 a2 a3 o0 o1 o2 o3 o4 o5=some r→FnP Tryd.prog 82 (n6.enc (nr.lens ((o0,o1,()),(o2,()),o3,o4,o5,())) (a0,a1,a2,a3,())) (nr.enc (nr.lens ((o0,o1,()),(o2,()),o3,o4,o5,())) ((o0,o1,()),(o2,()),o3,o4,o5,())) (enP true ow (qy (nF Syntax.cel) pP) oz (qy (FI 83 FJ) pP) r)
 |0,_,_,_,_,_,_,_,_,_,_,_,h=>by simp only[nK] at h;cases h
 |n+1,a0,a1,a2,a3,o0,o1,o2,o3,o4,o5,r,h=>by
  simp only[nK] at h
  have Ai:=w9 n
  have yy:=yz n
  have vq:=Aj n
  exact WO (p1:=[]) (p2:=[]) (b1:=[0,1,2,3,4]) (b2:=[0,1,2,3,4]) (M:=nh (ng n) (m0 n) (nK n) n) ⟨(mV (zF (fun b a r h=>(Cn n) b.1.1 b.1.2.1 b.2.1.1 b.2.2.1 b.2.2.2.1 b.2.2.2.2.1 r h)) (mV (uH (Ce n)) mY)),mZ,nH _,nI _,oh,oH,(xF (CG (fun b a r h=>(Ai) a.1 b.1.1 b.1.2.1 b.2.1.1 b.2.2.1 b.2.2.2.1 b.2.2.2.2.1 r h)) BG),oG⟩ Tryd.func82 rfl rfl (sE (jw (of_decide_eq_true (by kernel_rfl)) (jx (nr.sz _ _).symm)) _ (n6.nb _ _)) (fun x hx=>tN (jw (of_decide_eq_true (by kernel_rfl)) (jx (nr.sz _ _).symm)) _ (nr.nb _ _ x hx)) Tryd.ntmps82 Tryd.results82 (low:=5) (by rfl) (by rfl) (fun b a=>⟨_,rfl⟩) rfl rfl (((AJ (ng n) (m0 n) (nK n) n).2 a0 a1 a2 a3 o0 o1 o2 o3 o4 o5).trans h)
end
end Go.Abs
namespace Go.Abs
open Go.Proofs
set_option maxRecDepth 100000
set_option maxHeartbeats 4000000
noncomputable def pR:AL Tq:=(tI 0 (qy (nF Notation.cel) (qy (o9 .i64) (qy (nF Syntax.cel) pP))))
noncomputable def nD:OL Tb:=(sZ (BF (xg 1 pP)) (sZ (wh (nF Notation.cel)) wX))
noncomputable def oO:OL Tb:=(sZ (BF (xg 1 pP)) (sZ (wh (nF Notation.cel)) wX))
noncomputable def nQ:OL Tb:=(sZ (BF (xg 1 pP)) (sZ (wh (nF Notation.cel)) wX))
noncomputable def oQ:OL Tb:=(sZ (BF (xg 1 pP)) (sZ (wh (nF Notation.cel)) wX))
noncomputable def oJ (mW:Notation→Int→Syntax→T3→Option Tl) (mU:Syntax→T3→Option Th) (n:Nat):pO Tl where
 body:=(Tryd.f90.body).getD .skip
 P:=Tryd.prog
 cl:=om [(89,entX [.arg 0 [],.obj 0 0 []] m5 (tI 0 (qy (nF Syntax.cel) pP)) nB nP (fun (b:Tb) (a:(Syntax×Unit))=>(qY n) a.1 b.2.1))]
 cd:=oo [(43,vY (qj (nF Notation.cel) pe (tO n))),(44,vY (qj (nF Notation.cel) pe (sN n))),(81,vY (tH (nF Notation.cel) (o9 .i64) (o9 .i64) (vg n)))]
 qT:=ot []
 cut:=ou []
 n:=n
 out:=Ca Tryd.prog [.tmp 8] [] [0,1] 2 oO (qy pe pP)
 co:=Py [(104,Oo [.arg 0 [],.obj 0 0 []] nQ (tI 0 (qy (nF Syntax.cel) pP)) oQ (qy (o9 .i64) pP) oQ (qy (o9 .i64) pP) (fun (b:Tb) (a:(Syntax×Unit))=>(mU a.1 b.2.1).map fun r=>(PR.ok r:PR Th Th)))]
 qZ:=nj []
 Ay:=nj [104]
 Ax:=nj []
theorem I8 (mW:Notation→Int→Syntax→T3→Option Tl) (mU:Syntax→T3→Option Th) (n:Nat):(oJ mW mU n).P=Tryd.prog∧(oJ mW mU n).cl=om [(89,entX [.arg 0 [],.obj 0 0 []] m5 (tI 0 (qy (nF Syntax.cel) pP)) nB nP (fun (b:Tb) (a:(Syntax×Unit))=>(qY n) a.1 b.2.1))]∧(oJ mW mU n).cd=oo [(43,vY (qj (nF Notation.cel) pe (tO n))),(44,vY (qj (nF Notation.cel) pe (sN n))),(81,vY (tH (nF Notation.cel) (o9 .i64) (o9 .i64) (vg n)))]∧(oJ mW mU n).qT=ot []∧(oJ mW mU n).cut=ou []∧(oJ mW mU n).n=n∧(oJ mW mU n).out=Ca Tryd.prog [.tmp 8] [] [0,1] 2 oO (qy pe pP)∧(oJ mW mU n).co=Py [(104,Oo [.arg 0 [],.obj 0 0 []] nQ (tI 0 (qy (nF Syntax.cel) pP)) oQ (qy (o9 .i64) pP) oQ (qy (o9 .i64) pP) (fun (b:Tb) (a:(Syntax×Unit))=>(mU a.1 b.2.1).map fun r=>(PR.ok r:PR Th Th)))]∧(oJ mW mU n).qZ=nj []∧(oJ mW mU n).Ay=nj [104]∧(oJ mW mU n).Ax=nj []:=⟨rfl,rfl,rfl,rfl,rfl,rfl,rfl,rfl,rfl,rfl,rfl⟩
theorem I9 (mW:Notation→Int→Syntax→T3→Option Tl) (mU:Syntax→T3→Option Th) (n:Nat):(oJ mW mU n).body=(Tryd.f90.body).getD .skip:=rfl
theorem Ja (mW:Notation→Int→Syntax→T3→Option Tl) (mU:Syntax→T3→Option Th) (n:Nat):tY (oJ mW mU n) [0,0,1,1]=true∧tY (oJ mW mU n) [0,1,1,1]=true:=⟨by kernel_rfl,by kernel_rfl⟩
noncomputable def zw (mW:Notation→Int→Syntax→T3→Option Tl) (mU:Syntax→T3→Option Th) (n:Nat):{B:Notation→Int→Syntax→T3→Option Tl // ∀ (a0:Notation) (a1:Int) (a2:Syntax) (o0:T3),run (oJ mW mU n) [.at []] {slots:=(pR.enc (nD.lens ((),o0,())) (a0,a1,a2,()))++jy (47-(pR.enc (nD.lens ((),o0,())) (a0,a1,a2,())).length) qA,heap:=(nD.enc (nD.lens ((),o0,())) ((),o0,())),low:=(nD.enc (nD.lens ((),o0,())) ((),o0,())).length}=B a0 a1 a2 o0}:=by
 apply jv
 intro a0 a1 a2 o0
 simp (config:={maxSteps:=100000000,implicitDefEqProofs:=false}) only[go_sem,jj,jk,jf,jg,jl,jm,jq,jr,jt,ji,jo,ju,I8,I9,Tryd.f90,jh,mixed,pR,nD,oO,nQ,oQ,m5,nB,nP,Ja]
 exact rfl
noncomputable def vl:Nrm:=⟨[],[],[zK,zA,zA,zK,zA,zK,zA,zA,zA,zA,zA,zA,zA,zA,zA,zA,zA,zA,zA,zA,zA,zA,zA,zA,zA,zA,zA,zA,zA,zA,zA,zA,zA,zA,zA,zA,zA,zA,zA,zA,zA,zA,zA,zA,zA,zA,zA],[oC [zK],oM (nF Notation.cel),oT Syntax.cel],none,none⟩
noncomputable def oI (mW:Notation→Int→Syntax→T3→Option Tl) (mU:Syntax→T3→Option Th) (n:Nat):pO Th where
 body:=(Tryd.f104.body).getD .skip
 P:=Tryd.prog
 cl:=om [(44,qj (nF Notation.cel) pe (sN n)),(81,tH (nF Notation.cel) (o9 .i64) (o9 .i64) (vg n)),(89,entX [.arg 0 [],.obj 0 0 []] m5 (tI 0 (qy (nF Syntax.cel) pP)) nB nP (fun (b:Tb) (a:(Syntax×Unit))=>(qY n) a.1 b.2.1)),(90,entX [.arg 0 [],.obj 0 0 []] nD pR oO (qy pe pP) (fun (b:Tb) (a:Tq)=>mW a.1 a.2.1 a.2.2.1 b.2.1))]
 cd:=oo []
 qT:=ot [([0,1,1],vl)]
 cut:=ou []
 n:=n
 out:=Ca Tryd.prog [.tmp 4] [] [0,1] 2 oQ (qy (o9 .i64) pP)
 qZ:=nj []
theorem Bq (mW:Notation→Int→Syntax→T3→Option Tl) (mU:Syntax→T3→Option Th) (n:Nat):(oI mW mU n).P=Tryd.prog∧(oI mW mU n).cl=om [(44,qj (nF Notation.cel) pe (sN n)),(81,tH (nF Notation.cel) (o9 .i64) (o9 .i64) (vg n)),(89,entX [.arg 0 [],.obj 0 0 []] m5 (tI 0 (qy (nF Syntax.cel) pP)) nB nP (fun (b:Tb) (a:(Syntax×Unit))=>(qY n) a.1 b.2.1)),(90,entX [.arg 0 [],.obj 0 0 []] nD pR oO (qy pe pP) (fun (b:Tb) (a:Tq)=>mW a.1 a.2.1 a.2.2.1 b.2.1))]∧(oI mW mU n).cd=oo []∧(oI mW mU n).qT=ot [([0,1,1],vl)]∧(oI mW mU n).cut=ou []∧(oI mW mU n).n=n∧(oI mW mU n).out=Ca Tryd.prog [.tmp 4] [] [0,1] 2 oQ (qy (o9 .i64) pP)∧(oI mW mU n).qZ=nj []:=⟨rfl,rfl,rfl,rfl,rfl,rfl,rfl,rfl⟩
theorem Br (mW:Notation→Int→Syntax→T3→Option Tl) (mU:Syntax→T3→Option Th) (n:Nat):(oI mW mU n).body=(Tryd.f104.body).getD .skip:=rfl
noncomputable def xh (mW:Notation→Int→Syntax→T3→Option Tl) (mU:Syntax→T3→Option Th) (n:Nat):{B:(Int→T3→Syntax→Option Th)→Int→T3→Syntax→Option Th // ∀m X0,(∀ (v0:Int) (r1:List (Str×Notation)) (o2:Syntax),run (oI mW mU n) [.lq m [0,1,1],.qC 0] ⟨[.ptr 0 0,qA,qA,.ptr 2 0,qA,.int .i64 v0,qA,qA,qA,qA,qA,qA,qA,qA,qA,qA,qA,qA,qA,qA,qA,qA,qA,qA,qA,qA,qA,qA,qA,qA,qA,qA,qA,qA,qA,qA,qA,qA,qA,qA,qA,qA,qA,qA,qA,qA,qA],[.cells [.map 1],.map (mp (mcT (nF Notation.cel)) r1),.cells (Syntax.cells o2)],2,[]⟩=X0 v0 r1 o2)→ ∀ (v0:Int) (r1:List (Str×Notation)) (o2:Syntax),run (oI mW mU n) [.at [0,0,1,1],.lp m [0,1,1],.qC 0] ⟨[.ptr 0 0,qA,qA,.ptr 2 0,qA,.int .i64 v0,qA,qA,qA,qA,qA,qA,qA,qA,qA,qA,qA,qA,qA,qA,qA,qA,qA,qA,qA,qA,qA,qA,qA,qA,qA,qA,qA,qA,qA,qA,qA,qA,qA,qA,qA,qA,qA,qA,qA,qA,qA],[.cells [.map 1],.map (mp (mcT (nF Notation.cel)) r1),.cells (Syntax.cells o2)],2,[]⟩=B X0 v0 r1 o2}:=by
 apply jv
 intro m X0 ih v0 r1 o2
 simp (config:={maxSteps:=100000000}) only[go_sem,jj,jk,jf,jg,jl,jm,jq,jr,jt,ji,jo,ju,Bq,Br,Tryd.f104,jh,mixed,nQ,oQ,m5,nB,nP,pR,nD,oO,vl,ih]
 exact rfl
noncomputable def so (mW:Notation→Int→Syntax→T3→Option Tl) (mU:Syntax→T3→Option Th) (n:Nat):Nat→Int→T3→Syntax→Option Th
 |0,_,_,_=>none
 |m+1,v0,r1,o2=>(xh mW mU n).1 (so mW mU n m) v0 r1 o2
theorem zz (mW:Notation→Int→Syntax→T3→Option Tl) (mU:Syntax→T3→Option Th) (n:Nat): ∀ (m:Nat),(∀ (v0:Int) (r1:List (Str×Notation)) (o2:Syntax),run (oI mW mU n) [.lq m [0,1,1],.qC 0] ⟨[.ptr 0 0,qA,qA,.ptr 2 0,qA,.int .i64 v0,qA,qA,qA,qA,qA,qA,qA,qA,qA,qA,qA,qA,qA,qA,qA,qA,qA,qA,qA,qA,qA,qA,qA,qA,qA,qA,qA,qA,qA,qA,qA,qA,qA,qA,qA,qA,qA,qA,qA,qA,qA],[.cells [.map 1],.map (mp (mcT (nF Notation.cel)) r1),.cells (Syntax.cells o2)],2,[]⟩=so mW mU n m v0 r1 o2)
 |0=>by intros;exact nk
 |m+1=>by
  have ih:=zz mW mU n m
  intro v0 r1 o2
  rw[nq]
  exact (xh mW mU n).2 m _ ih v0 r1 o2
noncomputable def xP (mW:Notation→Int→Syntax→T3→Option Tl) (mU:Syntax→T3→Option Th) (n:Nat):{B:Syntax→T3→Option Th // ∀ (a0:Syntax) (o0:T3),run (oI mW mU n) [.at []] {slots:=((tI 0 (qy (nF Syntax.cel) pP)).enc (nQ.lens ((),o0,())) (a0,()))++jy (47-((tI 0 (qy (nF Syntax.cel) pP)).enc (nQ.lens ((),o0,())) (a0,())).length) qA,heap:=(nQ.enc (nQ.lens ((),o0,())) ((),o0,())),low:=(nQ.enc (nQ.lens ((),o0,())) ((),o0,())).length}=B a0 o0}:=by
 apply jv
 intro a0 o0
 simp (config:={maxSteps:=100000000}) only[go_sem,jj,jk,jf,jg,jl,jm,jq,jr,jt,ji,jo,ju,Bq,Br,Tryd.f104,jh,mixed,nQ,oQ,m5,nB,nP,pR,nD,oO,vl,zz mW mU n]
 exact rfl
mutual
noncomputable def pF:Nat→Notation→Int→Syntax→T3→Option Tl
 |0,_,_,_,_=>none
 |n+1,a0,a1,a2,o0=>(zw (pF n) (n9 n) n).1 a0 a1 a2 o0
noncomputable def n9:Nat→Syntax→T3→Option Th
 |0,_,_=>none
 |n+1,a0,o0=>(xP (pF n) (n9 n) n).1 a0 o0
end
mutual
theorem yM: ∀ (n:Nat) (a0:Notation) (a1:Int) (a2:Syntax) (o0:T3) (r:Tl),pF n a0 a1 a2 o0=some r→Ob Tryd.prog 90 (pR.enc (nD.lens ((),o0,())) (a0,a1,a2,())) (nD.enc (nD.lens ((),o0,())) ((),o0,())) (fun o H'=>o= .ret (uR ((qy pe pP).enc (oO.lens r.1) r.2))∧H'=oO.enc (oO.lens r.1) r.1)
 |0,_,_,_,_,_,h=>by simp only[pF] at h;cases h
 |n+1,a0,a1,a2,o0,r,h=>by
  simp only[pF] at h
  have Cs:=yM n
  have AX:=AY n
  exact wW (M:=oJ (pF n) (n9 n) n) ⟨(mV (zF (fun b a r h=>(xN n) a.1 b.2.1 r h)) mY),(qE (BD (zZ n)) (qE (BD (yY n)) (qE (DL (Ce n)) mZ))),nH _,nI _,oh,oH,oV,(Oq (entXO_ok (fun b a r h=>(AX) a.1 b.2.1 r h)) Qt)⟩ Tryd.func90 rfl rfl (sE (jw (of_decide_eq_true (by kernel_rfl)) (jx (nD.sz _ _).symm)) _ (pR.nb _ _)) (fun x hx=>tN (jw (of_decide_eq_true (by kernel_rfl)) (jx (nD.sz _ _).symm)) _ (nD.nb _ _ x hx)) Tryd.ntmps90 Tryd.results90 (fun σ hs=>AA (P:=Tryd.prog) (rs:=[.tmp 8]) (pos:=[]) (base:=[0,1]) (low:=2) (os:=oO) (s:=(qy pe pP)) (σ:=σ) (r:=r) (by rfl) hs) (((zw (pF n) (n9 n) n).2 a0 a1 a2 o0).trans h)
theorem AY: ∀ (n:Nat) (a0:Syntax) (o0:T3) (r:Th),n9 n a0 o0=some r→Ob Tryd.prog 104 ((tI 0 (qy (nF Syntax.cel) pP)).enc (nQ.lens ((),o0,())) (a0,())) (nQ.enc (nQ.lens ((),o0,())) ((),o0,())) (fun o H'=>o= .ret (uR ((qy (o9 .i64) pP).enc (oQ.lens r.1) r.2))∧H'=oQ.enc (oQ.lens r.1) r.1)
 |0,_,_,_,h=>by simp only[n9] at h;cases h
 |n+1,a0,o0,r,h=>by
  simp only[n9] at h
  have Cs:=yM n
  have AX:=AY n
  exact wW (M:=oI (pF n) (n9 n) n) ⟨(mV (qi (yY n)) (mV (uH (Ce n)) (mV (zF (fun b a r h=>(xN n) a.1 b.2.1 r h)) (mV (zF (fun b a r h=>(Cs) a.1 a.2.1 a.2.2.1 b.2.1 r h)) mY)))),mZ,nH _,nI _,oh,oH,oV,oG⟩ Tryd.func104 rfl rfl (sE (jw (of_decide_eq_true (by kernel_rfl)) (jx (nQ.sz _ _).symm)) _ ((tI 0 (qy (nF Syntax.cel) pP)).nb _ _)) (fun x hx=>tN (jw (of_decide_eq_true (by kernel_rfl)) (jx (nQ.sz _ _).symm)) _ (nQ.nb _ _ x hx)) Tryd.ntmps104 Tryd.results104 (fun σ hs=>AA (P:=Tryd.prog) (rs:=[.tmp 4]) (pos:=[]) (base:=[0,1]) (low:=2) (os:=oQ) (s:=(qy (o9 .i64) pP)) (σ:=σ) (r:=r) (by rfl) hs) (((xP (pF n) (n9 n) n).2 a0 o0).trans h)
end
noncomputable def ref24_component_n1:Nrm:=⟨[],[],[zK,zK,zA,zA,zA,zA,zA,zA,zA,zA,zA,zA,zA,zA,zA,zA,zA,zA,zA,zA,zA,zA,zA,zA,zA,zA,zA,zA,zA,zA],[],none,none⟩
noncomputable def qU (n:Nat):pO Int where
 body:=(Tryd.f73.body).getD .skip
 P:=Tryd.prog
 cl:=om [(72,qj (o9 .u8) pe (AG n)),(101,qj (o9 .u8) pe (FR n))]
 cd:=oo []
 qT:=ot [([0,0,1],ref24_component_n1)]
 cut:=ou []
 n:=n
 out:=pW Tryd.prog [.tmp 4] (o9 .i64)
 qZ:=nj []
theorem Ig (n:Nat):(qU n).P=Tryd.prog∧(qU n).cl=om [(72,qj (o9 .u8) pe (AG n)),(101,qj (o9 .u8) pe (FR n))]∧(qU n).cd=oo []∧(qU n).qT=ot [([0,0,1],ref24_component_n1)]∧(qU n).cut=ou []∧(qU n).n=n∧(qU n).out=pW Tryd.prog [.tmp 4] (o9 .i64)∧(qU n).qZ=nj []:=⟨rfl,rfl,rfl,rfl,rfl,rfl,rfl,rfl⟩
theorem Ih (n:Nat):(qU n).body=(Tryd.f73.body).getD .skip:=rfl
noncomputable def AK (n:Nat):{B:(Str→Int→Option Int)→Str→Int→Option Int // ∀m X0,(∀ (v0:Str) (v1:Int),run (qU n) [.lq m [0,0,1],.qC 0,.cut [1,1],.at [1,1]] ⟨[.str (sb v0),.int .i64 v1,qA,qA,qA,qA,qA,qA,qA,qA,qA,qA,qA,qA,qA,qA,qA,qA,qA,qA,qA,qA,qA,qA,qA,qA,qA,qA,qA,qA],[],0,[]⟩=X0 v0 v1)→ ∀ (v0:Str) (v1:Int),run (qU n) [.at [0,0,0,1],.lp m [0,0,1],.qC 0,.cut [1,1],.at [1,1]] ⟨[.str (sb v0),.int .i64 v1,qA,qA,qA,qA,qA,qA,qA,qA,qA,qA,qA,qA,qA,qA,qA,qA,qA,qA,qA,qA,qA,qA,qA,qA,qA,qA,qA,qA],[],0,[]⟩=B X0 v0 v1}:=by
 apply jv
 intro m X0 ih v0 v1
 simp (config:={maxSteps:=100000000}) only[go_sem,jj,jk,jf,jg,jl,jm,jq,jr,jt,ji,jo,ju,Ig,Ih,Tryd.f73,jh,mixed,ref24_component_n1,ih]
 exact rfl
noncomputable def wB (n:Nat):Nat→Str→Int→Option Int
 |0,_,_=>none
 |m+1,v0,v1=>(AK n).1 (wB n m) v0 v1
theorem EL (n:Nat): ∀ (m:Nat),(∀ (v0:Str) (v1:Int),run (qU n) [.lq m [0,0,1],.qC 0,.cut [1,1],.at [1,1]] ⟨[.str (sb v0),.int .i64 v1,qA,qA,qA,qA,qA,qA,qA,qA,qA,qA,qA,qA,qA,qA,qA,qA,qA,qA,qA,qA,qA,qA,qA,qA,qA,qA,qA,qA],[],0,[]⟩=wB n m v0 v1)
 |0=>by intros;exact nk
 |m+1=>by
  have ih:=EL n m
  intro v0 v1
  rw[nq]
  exact (AK n).2 m _ ih v0 v1
noncomputable def Ek (n:Nat):{B:Str→Int→Option Int // ∀ (a0:Str) (a1:Int),run (qU n) [.at []] {slots:=[sD.enc a0,(o9 .i64).enc a1]++jy (30-[sD.enc a0,(o9 .i64).enc a1].length) qA,heap:=[]}=B a0 a1}:=by
 apply jv
 intro a0 a1
 simp (config:={maxSteps:=100000000}) only[go_sem,jj,jk,jf,jg,jl,jm,jq,jr,jt,ji,jo,ju,Ig,Ih,Tryd.f73,jh,mixed,ref24_component_n1,EL n]
 exact rfl
noncomputable def AZ:Nat→Str→Int→Option Int
 |0,_,_=>none
 |n+1,a0,a1=>(Ek n).1 a0 a1
theorem NO: ∀ (n:Nat) (a0:Str) (a1:Int) (r:Int),AZ n a0 a1=some r→xS Tryd.prog 73 [sD.enc a0,(o9 .i64).enc a1] (fun v=>v=(o9 .i64).enc r)
 |0,_,_,_,h=>by cases h
 |n+1,a0,a1,r,h=>by
  exact pL (M:=qU n) ⟨(mV (qi (K8 n)) (mV (qi (SK n)) mY)),mZ,nH _,nI _,oh,oH,oV,oG⟩ Tryd.func73 rfl rfl ⟨sD.nb 0 _,(o9 .i64).nb 0 _,trivial⟩ Tryd.ntmps73 Tryd.results73 (fun σ hs=>pz (P:=Tryd.prog) (rs:=[.tmp 4]) (t:=(o9 .i64)) (σ:=σ) (r:=r) hs) (((Ek n).2 a0 a1).trans h)
noncomputable def rq (n:Nat):pO Bool where
 body:=(Tryd.f93.body).getD .skip
 P:=Tryd.prog
 cl:=om []
 cd:=oo [(47,vY (qj (nF Notation.cel) pe (tS n))),(94,vY (qj (nF Notation.cel) sD (zu n))),(106,vY (tH (nF Notation.cel) sD pe (DA n)))]
 qT:=ot []
 cut:=ou []
 n:=n
 out:=pW Tryd.prog [.tmp 4] pe
 qZ:=nj []
 Ay:=nj []
 Ax:=nj []
theorem PO (n:Nat):(rq n).P=Tryd.prog∧(rq n).cl=om []∧(rq n).cd=oo [(47,vY (qj (nF Notation.cel) pe (tS n))),(94,vY (qj (nF Notation.cel) sD (zu n))),(106,vY (tH (nF Notation.cel) sD pe (DA n)))]∧(rq n).qT=ot []∧(rq n).cut=ou []∧(rq n).n=n∧(rq n).out=pW Tryd.prog [.tmp 4] pe∧(rq n).qZ=nj []∧(rq n).Ay=nj []∧(rq n).Ax=nj []:=⟨rfl,rfl,rfl,rfl,rfl,rfl,rfl,rfl,rfl,rfl⟩
theorem PS (n:Nat):(rq n).body=(Tryd.f93.body).getD .skip:=rfl
theorem PT (n:Nat):tY (rq n) [0,1]=true:=by kernel_rfl
noncomputable def E5 (n:Nat):{B:Notation→Notation→Option Bool // ∀ (a0:Notation) (a1:Notation),run (rq n) [.at []] {slots:=[(nF Notation.cel).enc a0,(nF Notation.cel).enc a1]++jy (23-[(nF Notation.cel).enc a0,(nF Notation.cel).enc a1].length) qA,heap:=[]}=B a0 a1}:=by
 apply jv
 intro a0 a1
 simp (config:={maxSteps:=100000000}) only[go_sem,jj,jk,jf,jg,jl,jm,jq,jr,jt,ji,jo,ju,PO,PS,Tryd.f93,jh,mixed,PT]
 exact rfl
noncomputable def wP:Nat→Notation→Notation→Option Bool
 |0,_,_=>none
 |n+1,a0,a1=>(E5 n).1 a0 a1
theorem Ii: ∀ (n:Nat) (a0:Notation) (a1:Notation) (r:Bool),wP n a0 a1=some r→xS Tryd.prog 93 [(nF Notation.cel).enc a0,(nF Notation.cel).enc a1] (fun v=>v=pe.enc r)
 |0,_,_,_,h=>by cases h
 |n+1,a0,a1,r,h=>by
  exact pL (M:=rq n) ⟨mY,(qE (BD (zm n)) (qE (BD (I5 n)) (qE (DL (SX n)) mZ))),nH _,nI _,oh,oH,oV,oG⟩ Tryd.func93 rfl rfl ⟨(nF Notation.cel).nb 0 _,(nF Notation.cel).nb 0 _,trivial⟩ Tryd.ntmps93 Tryd.results93 (fun σ hs=>pz (P:=Tryd.prog) (rs:=[.tmp 4]) (t:=pe) (σ:=σ) (r:=r) hs) (((E5 n).2 a0 a1).trans h)
noncomputable def Fw:Nrm:=⟨[],[],[zT (oa Notation.row),zK,zK,zA,zA,zA,zK,zA,zK,zA,zA,zA,zA,zA,zA,zA,zA,zA,zA,zA,zA,zA,zA,zA,zA,zA,zA,zA,zA,zA,zA,zA,zA,zA,zA,zA],[oK],none,none⟩
noncomputable def uo (n:Nat):pO (Notation×Bool) where
 body:=(Tryd.f85.body).getD .skip
 P:=Tryd.prog
 cl:=om [(47,qj (nF Notation.cel) pe (tS n)),(94,qj (nF Notation.cel) sD (zu n))]
 cd:=oo []
 qT:=ot [([0,1,0,1],Fw)]
 cut:=ou []
 n:=n
 out:=pW Tryd.prog [.cell 6 24,.tmp 7] (K0 (nF Notation.cel) pe)
 qZ:=nj []
theorem OI (n:Nat):(uo n).P=Tryd.prog∧(uo n).cl=om [(47,qj (nF Notation.cel) pe (tS n)),(94,qj (nF Notation.cel) sD (zu n))]∧(uo n).cd=oo []∧(uo n).qT=ot [([0,1,0,1],Fw)]∧(uo n).cut=ou []∧(uo n).n=n∧(uo n).out=pW Tryd.prog [.cell 6 24,.tmp 7] (K0 (nF Notation.cel) pe)∧(uo n).qZ=nj []:=⟨rfl,rfl,rfl,rfl,rfl,rfl,rfl,rfl⟩
theorem OJ (n:Nat):(uo n).body=(Tryd.f85.body).getD .skip:=rfl
noncomputable def Fx (n:Nat):{B:((List Notation)→Str→Bool→Int→Option (Notation×Bool))→(List Notation)→Str→Bool→Int→Option (Notation×Bool) // ∀m X0,(∀ (v0:List Notation) (v1:Str) (v2:Bool) (v3:Int),run (uo n) [.lq m [0,1,0,1],.qC 0,.cut [1,1],.at [1,1]] ⟨[.nE false 4 (mp Notation.cells v0),.str (sb v1),.bool v2,qA,qA,qA,.ptr 0 0,qA,.int .i64 v3,qA,qA,qA,qA,qA,qA,qA,qA,qA,qA,qA,qA,qA,qA,qA,qA,qA,qA,qA,qA,qA,qA,qA,qA,qA,qA,qA],[.cells [.nE true 0 [],.int .i64 0,.int .i64 0,.str (sb [])]],0,[]⟩=X0 v0 v1 v2 v3)→ ∀ (v0:List Notation) (v1:Str) (v2:Bool) (v3:Int),run (uo n) [.at [0,0,1,0,1],.lp m [0,1,0,1],.qC 0,.cut [1,1],.at [1,1]] ⟨[.nE false 4 (mp Notation.cells v0),.str (sb v1),.bool v2,qA,qA,qA,.ptr 0 0,qA,.int .i64 v3,qA,qA,qA,qA,qA,qA,qA,qA,qA,qA,qA,qA,qA,qA,qA,qA,qA,qA,qA,qA,qA,qA,qA,qA,qA,qA,qA],[.cells [.nE true 0 [],.int .i64 0,.int .i64 0,.str (sb [])]],0,[]⟩=B X0 v0 v1 v2 v3}:=by
 apply jv
 intro m X0 ih v0 v1 v2 v3
 simp (config:={maxSteps:=100000000}) only[go_sem,jj,jk,jf,jg,jl,jm,jq,jr,jt,ji,jo,ju,OI,OJ,Tryd.f85,jh,mixed,Fw,ih]
 exact rfl
noncomputable def A8 (n:Nat):Nat→(List Notation)→Str→Bool→Int→Option (Notation×Bool)
 |0,_,_,_,_=>none
 |m+1,v0,v1,v2,v3=>(Fx n).1 (A8 n m) v0 v1 v2 v3
theorem JJ (n:Nat): ∀ (m:Nat),(∀ (v0:List Notation) (v1:Str) (v2:Bool) (v3:Int),run (uo n) [.lq m [0,1,0,1],.qC 0,.cut [1,1],.at [1,1]] ⟨[.nE false 4 (mp Notation.cells v0),.str (sb v1),.bool v2,qA,qA,qA,.ptr 0 0,qA,.int .i64 v3,qA,qA,qA,qA,qA,qA,qA,qA,qA,qA,qA,qA,qA,qA,qA,qA,qA,qA,qA,qA,qA,qA,qA,qA,qA,qA,qA],[.cells [.nE true 0 [],.int .i64 0,.int .i64 0,.str (sb [])]],0,[]⟩=A8 n m v0 v1 v2 v3)
 |0=>by intros;exact nk
 |m+1=>by
  have ih:=JJ n m
  intro v0 v1 v2 v3
  rw[nq]
  exact (Fx n).2 m _ ih v0 v1 v2 v3
noncomputable def KB (n:Nat):{B:(List Notation)→Str→Bool→Option (Notation×Bool) // ∀ (a0:(List Notation)) (a1:Str) (a2:Bool),run (uo n) [.at []] {slots:=[(oa Notation.row).enc a0,sD.enc a1,pe.enc a2]++jy (36-[(oa Notation.row).enc a0,sD.enc a1,pe.enc a2].length) qA,heap:=[]}=B a0 a1 a2}:=by
 apply jv
 intro a0 a1 a2
 simp (config:={maxSteps:=100000000}) only[go_sem,jj,jk,jf,jg,jl,jm,jq,jr,jt,ji,jo,ju,OI,OJ,Tryd.f85,jh,mixed,Fw,JJ n]
 exact rfl
noncomputable def BP:Nat→(List Notation)→Str→Bool→Option (Notation×Bool)
 |0,_,_,_=>none
 |n+1,a0,a1,a2=>(KB n).1 a0 a1 a2
theorem Nl: ∀ (n:Nat) (a0:(List Notation)) (a1:Str) (a2:Bool) (r:(Notation×Bool)),BP n a0 a1 a2=some r→xS Tryd.prog 85 [(oa Notation.row).enc a0,sD.enc a1,pe.enc a2] (fun v=>v=(K0 (nF Notation.cel) pe).enc r)
 |0,_,_,_,_,h=>by cases h
 |n+1,a0,a1,a2,r,h=>by
  exact pL (M:=uo n) ⟨(mV (qi (zm n)) (mV (qi (I5 n)) mY)),mZ,nH _,nI _,oh,oH,oV,oG⟩ Tryd.func85 rfl rfl ⟨(oa Notation.row).nb 0 _,sD.nb 0 _,pe.nb 0 _,trivial⟩ Tryd.ntmps85 Tryd.results85 (fun σ hs=>pz (P:=Tryd.prog) (rs:=[.cell 6 24,.tmp 7]) (t:=(K0 (nF Notation.cel) pe)) (σ:=σ) (r:=r) hs) (((KB n).2 a0 a1 a2).trans h)
end Go.Abs
