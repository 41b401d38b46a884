/- A part of the proof: what the functions compute. -/
import Derived.Test.YtfilfimjoeapgaaDoorDataA
import Derived.Test.YtfilfimjoeapgaaDoorWalkA
import Derived.Test.YtfilfimjoeapgaaDoorWalkC
import Derived.Test.YtfilfimjoeapgaaDoorWalkD
import Derived.Test.YtfilfimjoeapgaaDoorWalkB
set_option linter.all false
open Nat renaming reduceLeDiff → jQ,reduceEqDiff → jR,reduceAdd → jU,reduceSub → jV,reduceBEq → jW,reduceMul → jX,reduceLT → jZ
open Option renaming getD_some → jS
open Int renaming reduceToNat → jT,reduceBEq → jY,reduceLE → j3,reduceLT → j4,reduceEq → j5
open List renaming replicate → j6
open Subtype renaming mk → j7
open Go.Abs.AV renaming any → qA
namespace Go.Abs
open Go.Proofs
set_option maxRecDepth 100000
set_option maxHeartbeats 4000000
noncomputable def rN (n:Nat):pO Tu where
 body:=(Tryd.f15.body).getD .skip
 P:=Tryd.prog
 cl:=om []
 cd:=oo []
 qT:=ot []
 cut:=ou []
 n:=n
 out:=outU (ME [(52,K2 [.arg 0 [],.arg 1 [],.arg 2 [],.arg 3 [],.obj 0 0 [],.obj 4 0 [],.obj 5 0 [],.obj 5 1 [],.obj 5 2 []] nS (tI 0 (tI 1 (tI 2 (tI 3 pP)))) qF pP (fun (b:Ta) (a:Unit)=>(uP n) b.2.1.1 b.2.2.1.1 b.2.2.2.1.1 b.2.2.2.2.1.1 b.2.2.2.2.1.2.1 b.2.2.2.2.2.1.1 b.2.2.2.2.2.2.1 b.2.2.2.2.2.2.2.1 b.2.2.2.2.2.2.2.2.1))]) (ME [(52,K2 [.arg 0 [],.arg 1 [],.arg 2 [],.arg 3 [],.obj 0 0 [],.obj 4 0 [],.obj 5 0 [],.obj 5 1 [],.obj 5 2 []] nT rI qG pP (fun (b:Ta) (a:(Unit×Unit))=>(tP n) a.1 b.2.1.1 b.2.2.1.1 b.2.2.2.1.1 b.2.2.2.2.1.1 b.2.2.2.2.1.2.1 b.2.2.2.2.2.1.1 b.2.2.2.2.2.2.1 b.2.2.2.2.2.2.2.1 b.2.2.2.2.2.2.2.2.1))]) Tryd.prog [.cell 4 36,.cell 5 3,.cell 6 28] (Ud (nF Syntax.cel) (o9 .i64) (o9 .i64))
 wU:=outUP (ME [(52,K2 [.arg 0 [],.arg 1 [],.arg 2 [],.arg 3 [],.obj 0 0 [],.obj 4 0 [],.obj 5 0 [],.obj 5 1 [],.obj 5 2 []] nS (tI 0 (tI 1 (tI 2 (tI 3 pP)))) qF pP (fun (b:Ta) (a:Unit)=>(uP n) b.2.1.1 b.2.2.1.1 b.2.2.2.1.1 b.2.2.2.2.1.1 b.2.2.2.2.1.2.1 b.2.2.2.2.2.1.1 b.2.2.2.2.2.2.1 b.2.2.2.2.2.2.2.1 b.2.2.2.2.2.2.2.2.1))]) (ME [(52,K2 [.arg 0 [],.arg 1 [],.arg 2 [],.arg 3 [],.obj 0 0 [],.obj 4 0 [],.obj 5 0 [],.obj 5 1 [],.obj 5 2 []] nT rI qG pP (fun (b:Ta) (a:(Unit×Unit))=>(tP n) a.1 b.2.1.1 b.2.2.1.1 b.2.2.2.1.1 b.2.2.2.2.1.1 b.2.2.2.2.1.2.1 b.2.2.2.2.2.1.1 b.2.2.2.2.2.2.1 b.2.2.2.2.2.2.2.1 b.2.2.2.2.2.2.2.2.1))]) Tryd.prog [.cell 4 36,.cell 5 3,.cell 6 28] (Ud (nF Syntax.cel) (o9 .i64) (o9 .i64))
 cp:=Jz [(51,entXP false [] wX (qy (oa Notation.row) pP) wX p9 qa (tI 0 (alK (.bool true) MX pP)) (fun (b:Unit) (a:Ti)=>(uK n) a.1)),(53,entXP true [.arg 0 [],.obj 0 0 [],.obj 1 0 [],.obj 1 1 [],.obj 1 2 []] nC (tI 0 (qy (o9 .i64) pP)) pI pJ pK (qy (FI 83 FJ) pP) (fun (b:T0) (a:(Int×Unit))=>(ng n) a.1 b.1.1 b.1.2.1 b.2.1.1 b.2.2.1 b.2.2.2.1 b.2.2.2.2.1))]
 qZ:=nj [51,53]
theorem PV (n:Nat):(rN n).P=Tryd.prog∧(rN n).cl=om []∧(rN n).cd=oo []∧(rN n).qT=ot []∧(rN n).cut=ou []∧(rN n).n=n∧(rN n).out=outU (ME [(52,K2 [.arg 0 [],.arg 1 [],.arg 2 [],.arg 3 [],.obj 0 0 [],.obj 4 0 [],.obj 5 0 [],.obj 5 1 [],.obj 5 2 []] nS (tI 0 (tI 1 (tI 2 (tI 3 pP)))) qF pP (fun (b:Ta) (a:Unit)=>(uP n) b.2.1.1 b.2.2.1.1 b.2.2.2.1.1 b.2.2.2.2.1.1 b.2.2.2.2.1.2.1 b.2.2.2.2.2.1.1 b.2.2.2.2.2.2.1 b.2.2.2.2.2.2.2.1 b.2.2.2.2.2.2.2.2.1))]) (ME [(52,K2 [.arg 0 [],.arg 1 [],.arg 2 [],.arg 3 [],.obj 0 0 [],.obj 4 0 [],.obj 5 0 [],.obj 5 1 [],.obj 5 2 []] nT rI qG pP (fun (b:Ta) (a:(Unit×Unit))=>(tP n) a.1 b.2.1.1 b.2.2.1.1 b.2.2.2.1.1 b.2.2.2.2.1.1 b.2.2.2.2.1.2.1 b.2.2.2.2.2.1.1 b.2.2.2.2.2.2.1 b.2.2.2.2.2.2.2.1 b.2.2.2.2.2.2.2.2.1))]) Tryd.prog [.cell 4 36,.cell 5 3,.cell 6 28] (Ud (nF Syntax.cel) (o9 .i64) (o9 .i64))∧(rN n).wU=outUP (ME [(52,K2 [.arg 0 [],.arg 1 [],.arg 2 [],.arg 3 [],.obj 0 0 [],.obj 4 0 [],.obj 5 0 [],.obj 5 1 [],.obj 5 2 []] nS (tI 0 (tI 1 (tI 2 (tI 3 pP)))) qF pP (fun (b:Ta) (a:Unit)=>(uP n) b.2.1.1 b.2.2.1.1 b.2.2.2.1.1 b.2.2.2.2.1.1 b.2.2.2.2.1.2.1 b.2.2.2.2.2.1.1 b.2.2.2.2.2.2.1 b.2.2.2.2.2.2.2.1 b.2.2.2.2.2.2.2.2.1))]) (ME [(52,K2 [.arg 0 [],.arg 1 [],.arg 2 [],.arg 3 [],.obj 0 0 [],.obj 4 0 [],.obj 5 0 [],.obj 5 1 [],.obj 5 2 []] nT rI qG pP (fun (b:Ta) (a:(Unit×Unit))=>(tP n) a.1 b.2.1.1 b.2.2.1.1 b.2.2.2.1.1 b.2.2.2.2.1.1 b.2.2.2.2.1.2.1 b.2.2.2.2.2.1.1 b.2.2.2.2.2.2.1 b.2.2.2.2.2.2.2.1 b.2.2.2.2.2.2.2.2.1))]) Tryd.prog [.cell 4 36,.cell 5 3,.cell 6 28] (Ud (nF Syntax.cel) (o9 .i64) (o9 .i64))∧(rN n).cp=Jz [(51,entXP false [] wX (qy (oa Notation.row) pP) wX p9 qa (tI 0 (alK (.bool true) MX pP)) (fun (b:Unit) (a:Ti)=>(uK n) a.1)),(53,entXP true [.arg 0 [],.obj 0 0 [],.obj 1 0 [],.obj 1 1 [],.obj 1 2 []] nC (tI 0 (qy (o9 .i64) pP)) pI pJ pK (qy (FI 83 FJ) pP) (fun (b:T0) (a:(Int×Unit))=>(ng n) a.1 b.1.1 b.1.2.1 b.2.1.1 b.2.2.1 b.2.2.2.1 b.2.2.2.2.1))]∧(rN n).qZ=nj [51,53]:=⟨rfl,rfl,rfl,rfl,rfl,rfl,rfl,rfl,rfl,rfl⟩
theorem PW (n:Nat):(rN n).body=(Tryd.f15.body).getD .skip:=rfl
noncomputable def Al (n:Nat):{B:(List Notation)→(List Syntax)→Option Tu // ∀ (a0:(List Notation)) (a1:(List Syntax)),run (rN n) [.at []] {slots:=[(oa Notation.row).enc a0,(oa Syntax.row).enc a1]++j6 (42-[(oa Notation.row).enc a0,(oa Syntax.row).enc a1].length) qA,heap:=[]}=B a0 a1}:=by
 apply j7
 intro a0 a1
 simp (config:={maxSteps:=100000000,implicitDefEqProofs:=false}) only[go_sem,jU,jV,jQ,jR,jW,jX,jZ,j3,j4,jT,jY,j5,PV,PW,Tryd.f15,jS,mixed,nS,qF,rI,nT,qG,p9,qa,nC,pI,pJ,pK]
 exact rfl
noncomputable def rF:Nat→(List Notation)→(List Syntax)→Option Tu
 |0,_,_=>none
 |n+1,a0,a1=>(Al n).1 a0 a1
theorem Bu: ∀ (n:Nat) (a0:(List Notation)) (a1:(List Syntax)) (r:Tu),rF n a0 a1=some r→xS Tryd.prog 15 [(oa Notation.row).enc a0,(oa Syntax.row).enc a1] (fun v=>v=(Ud (nF Syntax.cel) (o9 .i64) (o9 .i64)).enc r)
 |0,_,_,_,h=>by cases h
 |n+1,a0,a1,r,h=>by
  exact fnC_runU (M:=rN n) (t:=(Ud (nF Syntax.cel) (o9 .i64) (o9 .i64))) (cr:=(ME [(52,K2 [.arg 0 [],.arg 1 [],.arg 2 [],.arg 3 [],.obj 0 0 [],.obj 4 0 [],.obj 5 0 [],.obj 5 1 [],.obj 5 2 []] nS (tI 0 (tI 1 (tI 2 (tI 3 pP)))) qF pP (fun (b:Ta) (a:Unit)=>(uP n) b.2.1.1 b.2.2.1.1 b.2.2.2.1.1 b.2.2.2.2.1.1 b.2.2.2.2.1.2.1 b.2.2.2.2.2.1.1 b.2.2.2.2.2.2.1 b.2.2.2.2.2.2.2.1 b.2.2.2.2.2.2.2.2.1))])) (cp:=(ME [(52,K2 [.arg 0 [],.arg 1 [],.arg 2 [],.arg 3 [],.obj 0 0 [],.obj 4 0 [],.obj 5 0 [],.obj 5 1 [],.obj 5 2 []] nT rI qG pP (fun (b:Ta) (a:(Unit×Unit))=>(tP n) a.1 b.2.1.1 b.2.2.1.1 b.2.2.2.1.1 b.2.2.2.2.1.1 b.2.2.2.2.1.2.1 b.2.2.2.2.2.1.1 b.2.2.2.2.2.2.1 b.2.2.2.2.2.2.2.1 b.2.2.2.2.2.2.2.2.1))])) ⟨mY,mZ,nH _,nI _,oh,oH,(xF (CG (fun b a r h=>(Cy n) a.1 r h)) (xF (CG (fun b a r h=>(w9 n) a.1 b.1.1 b.1.2.1 b.2.1.1 b.2.2.1 b.2.2.2.1 b.2.2.2.2.1 r h)) BG)),oG⟩ (Ou (Zl Vp (fun _ _ _ _=>rfl) (by kernel_rfl) (fun b a r h=>(Ko n) b.2.1.1 b.2.2.1.1 b.2.2.2.1.1 b.2.2.2.2.1.1 b.2.2.2.2.1.2.1 b.2.2.2.2.2.1.1 b.2.2.2.2.2.2.1 b.2.2.2.2.2.2.2.1 b.2.2.2.2.2.2.2.2.1 r h)) Qu) (Ou (Zl Vq (fun _ _ _ _=>rfl) (by kernel_rfl) (fun b a r h=>(Kp n) a.1 b.2.1.1 b.2.2.1.1 b.2.2.2.1.1 b.2.2.2.2.1.1 b.2.2.2.2.1.2.1 b.2.2.2.2.2.1.1 b.2.2.2.2.2.2.1 b.2.2.2.2.2.2.2.1 b.2.2.2.2.2.2.2.2.1 r h)) Qu) Tryd.func15 rfl rfl ⟨(oa Notation.row).nb 0 _,(oa Syntax.row).nb 0 _,trivial⟩ Tryd.ntmps15 Tryd.results15 rfl rfl (((Al n).2 a0 a1).trans h)
noncomputable def Bv:Nrm:=⟨[],[],[zA,zA,zA,zK,zA,zA,zA,zA,zK,zA,zA,zA,zA,zA,zA,zA,zA,zA,zA,zA,zA,zA,zA,zA,zT (oa Notation.row),zK,zK,zA,zA,zA,zA,zA,zA,zA,zA,zA,zA,zA,zA,zA,zA,zA,zA,zA,zA,zA,zA,zA,zA,zA,zA,zA,zA,zA,zA,zA,zA],[oT Syntax.cel,oD,oD,oD,oD,oM (nF Notation.cel),oC [zK]],none,none⟩
noncomputable def oF (n:Nat):pO Tw where
 body:=(Tryd.f20.body).getD .skip
 P:=Tryd.prog
 cl:=om [(58,Oh 1 true 8 (entX [.arg 0 [],.arg 1 [],.obj 0 0 []] nM pY oZ (alA 1 pP) (fun (b:Tc) (a:(Syntax×Unit))=>(qI n) a.1 b.2.1 b.2.2.1)))]
 cd:=oo []
 qT:=ot [([0,1,0,1,1,1],Bv)]
 cut:=ou []
 n:=n
 out:=pW Tryd.prog [.tmp 4,.tmp 5] (K0 (oa Syntax.row) (o9 .i64))
 cp:=Jz [(51,entXP false [] wX (qy (oa Notation.row) pP) wX p9 qa (tI 0 (alK (.bool true) MX pP)) (fun (b:Unit) (a:Ti)=>(uK n) a.1))]
 qZ:=nj [51]
 Ay:=nj []
 Ax:=nj []
theorem JK (n:Nat):(oF n).P=Tryd.prog∧(oF n).cl=om [(58,Oh 1 true 8 (entX [.arg 0 [],.arg 1 [],.obj 0 0 []] nM pY oZ (alA 1 pP) (fun (b:Tc) (a:(Syntax×Unit))=>(qI n) a.1 b.2.1 b.2.2.1)))]∧(oF n).cd=oo []∧(oF n).qT=ot [([0,1,0,1,1,1],Bv)]∧(oF n).cut=ou []∧(oF n).n=n∧(oF n).out=pW Tryd.prog [.tmp 4,.tmp 5] (K0 (oa Syntax.row) (o9 .i64))∧(oF n).cp=Jz [(51,entXP false [] wX (qy (oa Notation.row) pP) wX p9 qa (tI 0 (alK (.bool true) MX pP)) (fun (b:Unit) (a:Ti)=>(uK n) a.1))]∧(oF n).qZ=nj [51]∧(oF n).Ay=nj []∧(oF n).Ax=nj []:=⟨rfl,rfl,rfl,rfl,rfl,rfl,rfl,rfl,rfl,rfl,rfl⟩
theorem JL (n:Nat):(oF n).body=(Tryd.f20.body).getD .skip:=rfl
theorem JM (n:Nat):tY (oF n) [0,1,0,0,1,1,0,0,1,0,1,1,1]=true∧tY (oF n) [0,1,1,1,0,0,1,1,0,0,1,0,1,1,1]=true:=⟨by kernel_rfl,by kernel_rfl⟩
theorem JN (n:Nat):sX (oF n) [0,1,0,0,1,1,0,0,1,0,1,1,1] 3 11=true∧sX (oF n) [0,1,0,0,1,1,0,0,1,0,1,1,1] 5 11=true∧sX (oF n) [0,1,0,0,1,1,0,0,1,0,1,1,1] 6 11=true∧sX (oF n) [0,1,0,0,1,1,0,0,1,0,1,1,1] 10 11=true∧sX (oF n) [0,1,1,1,0,0,1,1,0,0,1,0,1,1,1] 3 7=true∧sX (oF n) [0,1,1,1,0,0,1,1,0,0,1,0,1,1,1] 5 7=true∧sX (oF n) [0,1,1,1,0,0,1,1,0,0,1,0,1,1,1] 6 7=true:=⟨by kernel_rfl,by kernel_rfl,by kernel_rfl,by kernel_rfl,by kernel_rfl,by kernel_rfl,by kernel_rfl⟩
noncomputable def Ip (n:Nat):{B:((List Notation)→Int→Int→Syntax→T3→Option Tw)→(List Notation)→Int→Int→Syntax→T3→Option Tw // ∀m X0,(∀ (v0:List Notation) (v1:Int) (v2:Int) (o0:Syntax) (r5:List (Str×Notation)),run (oF n) [.lq m [0,1,0,1,1,1],.qC 0,.cut [1,1,1,1],.at [1,1,1,1]] ⟨[qA,qA,qA,.ptr 0 0,qA,qA,qA,qA,.ptr 6 0,qA,qA,qA,qA,qA,qA,qA,qA,qA,qA,qA,qA,qA,qA,qA,.nE false 4 (mp Notation.cells v0),.int .i64 v1,.int .i64 v2,qA,qA,qA,qA,qA,qA,qA,qA,qA,qA,qA,qA,qA,qA,qA,qA,qA,qA,qA,qA,qA,qA,qA,qA,qA,qA,qA,qA,qA,qA],[.cells (Syntax.cells o0),.dead,.dead,.dead,.dead,.map (mp (mcT (nF Notation.cel)) r5),.cells [.map 5]],0,[]⟩=X0 v0 v1 v2 o0 r5)→ ∀ (v0:List Notation) (v1:Int) (v2:Int) (o0:Syntax) (r5:List (Str×Notation)),run (oF n) [.at [0,0,1,0,1,1,1],.lp m [0,1,0,1,1,1],.qC 0,.cut [1,1,1,1],.at [1,1,1,1]] ⟨[qA,qA,qA,.ptr 0 0,qA,qA,qA,qA,.ptr 6 0,qA,qA,qA,qA,qA,qA,qA,qA,qA,qA,qA,qA,qA,qA,qA,.nE false 4 (mp Notation.cells v0),.int .i64 v1,.int .i64 v2,qA,qA,qA,qA,qA,qA,qA,qA,qA,qA,qA,qA,qA,qA,qA,qA,qA,qA,qA,qA,qA,qA,qA,qA,qA,qA,qA,qA,qA,qA],[.cells (Syntax.cells o0),.dead,.dead,.dead,.dead,.map (mp (mcT (nF Notation.cel)) r5),.cells [.map 5]],0,[]⟩=B X0 v0 v1 v2 o0 r5}:=by
 apply j7
 intro m X0 ih v0 v1 v2 o0 r5
 simp (config:={maxSteps:=100000000,implicitDefEqProofs:=false}) only[go_sem,jU,jV,jQ,jR,jW,jX,jZ,j3,j4,jT,jY,j5,JK,JL,Tryd.f20,jS,mixed,p9,qa,pY,nM,oZ,JM,JN,Bv,ih]
 exact rfl
noncomputable def Iq (n:Nat):Nat→(List Notation)→Int→Int→Syntax→T3→Option Tw
 |0,_,_,_,_,_=>none
 |m+1,v0,v1,v2,o0,r5=>(Ip n).1 (Iq n m) v0 v1 v2 o0 r5
theorem F1 (n:Nat): ∀ (m:Nat),(∀ (v0:List Notation) (v1:Int) (v2:Int) (o0:Syntax) (r5:List (Str×Notation)),run (oF n) [.lq m [0,1,0,1,1,1],.qC 0,.cut [1,1,1,1],.at [1,1,1,1]] ⟨[qA,qA,qA,.ptr 0 0,qA,qA,qA,qA,.ptr 6 0,qA,qA,qA,qA,qA,qA,qA,qA,qA,qA,qA,qA,qA,qA,qA,.nE false 4 (mp Notation.cells v0),.int .i64 v1,.int .i64 v2,qA,qA,qA,qA,qA,qA,qA,qA,qA,qA,qA,qA,qA,qA,qA,qA,qA,qA,qA,qA,qA,qA,qA,qA,qA,qA,qA,qA,qA,qA],[.cells (Syntax.cells o0),.dead,.dead,.dead,.dead,.map (mp (mcT (nF Notation.cel)) r5),.cells [.map 5]],0,[]⟩=Iq n m v0 v1 v2 o0 r5)
 |0=>by intros;exact nk
 |m+1=>by
  have ih:=F1 n m
  intro v0 v1 v2 o0 r5
  rw[nq]
  exact (Ip n).2 m _ ih v0 v1 v2 o0 r5
noncomputable def JO (n:Nat):{B:(List Notation)→Syntax→Option Tw // ∀ (a0:(List Notation)) (a1:Syntax),run (oF n) [.at []] {slots:=[(oa Notation.row).enc a0,(nF Syntax.cel).enc a1]++j6 (57-[(oa Notation.row).enc a0,(nF Syntax.cel).enc a1].length) qA,heap:=[]}=B a0 a1}:=by
 apply j7
 intro a0 a1
 simp (config:={maxSteps:=100000000,implicitDefEqProofs:=false}) only[go_sem,jU,jV,jQ,jR,jW,jX,jZ,j3,j4,jT,jY,j5,JK,JL,Tryd.f20,jS,mixed,p9,qa,pY,nM,oZ,JM,JN,Bv,F1 n]
 exact rfl
noncomputable def Ht:Nat→(List Notation)→Syntax→Option Tw
 |0,_,_=>none
 |n+1,a0,a1=>(JO n).1 a0 a1
theorem OM: ∀ (n:Nat) (a0:(List Notation)) (a1:Syntax) (r:Tw),Ht n a0 a1=some r→xS Tryd.prog 20 [(oa Notation.row).enc a0,(nF Syntax.cel).enc a1] (fun v=>v=(K0 (oa Syntax.row) (o9 .i64)).enc r)
 |0,_,_,_,h=>by cases h
 |n+1,a0,a1,r,h=>by
  exact pL (M:=oF n) ⟨(mV (Sp (zF (fun b a r h=>(Ct n) a.1 b.2.1 b.2.2.1 r h))) mY),mZ,nH _,nI _,oh,oH,(xF (CG (fun b a r h=>(Cy n) a.1 r h)) BG),oG⟩ Tryd.func20 rfl rfl ⟨(oa Notation.row).nb 0 _,(nF Syntax.cel).nb 0 _,trivial⟩ Tryd.ntmps20 Tryd.results20 (fun σ hs=>pz (P:=Tryd.prog) (rs:=[.tmp 4,.tmp 5]) (t:=(K0 (oa Syntax.row) (o9 .i64))) (σ:=σ) (r:=r) hs) (((JO n).2 a0 a1).trans h)
noncomputable def qS (n:Nat):pO Tp where
 body:=(Tryd.f26.body).getD .skip
 P:=Tryd.prog
 cl:=om [(61,entX [.arg 0 [],.obj 0 0 [],.obj 0 1 [],.obj 0 2 []] nR (tI 0 (qy (nF Notation.cel) pP)) pq (qy (o9 .i64) pP) (fun (b:T8) (a:(Notation×Unit))=>(vm n) a.1 b.1.1 b.2.1 b.2.2.1 b.2.2.2.1)),(62,entG [] Ba (Ue (oa p8) Mo) (B9 (NQ true p8) Ba) (rsA 0 (fun (b:Tk)=>b.1.length) Kf) (fun (b:Unit) a=>(yD n) a.1))]
 cd:=oo []
 qT:=ot []
 cut:=ou []
 n:=n
 out:=pW Tryd.prog [.tmp 4,.tmp 5] (K0 (oa Notation.row) (o9 .i64))
 cp:=Jz [(51,entXP false [] wX (qy (oa Notation.row) pP) wX p9 qa (tI 0 (alK (.bool true) MX pP)) (fun (b:Unit) (a:Ti)=>(uK n) a.1))]
 qZ:=nj [51]
 Ay:=nj []
 Ax:=nj [30]
 ce:=Uv [(30,entE (Ue (oa Notation.row) Mo) (B9 (NQ true Notation.row) Ba) (rsA 0 (fun (b:Ti)=>b.1.length) Kf) (fun a=>(uv n) a.1))]
theorem S7 (n:Nat):(qS n).P=Tryd.prog∧(qS n).cl=om [(61,entX [.arg 0 [],.obj 0 0 [],.obj 0 1 [],.obj 0 2 []] nR (tI 0 (qy (nF Notation.cel) pP)) pq (qy (o9 .i64) pP) (fun (b:T8) (a:(Notation×Unit))=>(vm n) a.1 b.1.1 b.2.1 b.2.2.1 b.2.2.2.1)),(62,entG [] Ba (Ue (oa p8) Mo) (B9 (NQ true p8) Ba) (rsA 0 (fun (b:Tk)=>b.1.length) Kf) (fun (b:Unit) a=>(yD n) a.1))]∧(qS n).cd=oo []∧(qS n).qT=ot []∧(qS n).cut=ou []∧(qS n).n=n∧(qS n).out=pW Tryd.prog [.tmp 4,.tmp 5] (K0 (oa Notation.row) (o9 .i64))∧(qS n).cp=Jz [(51,entXP false [] wX (qy (oa Notation.row) pP) wX p9 qa (tI 0 (alK (.bool true) MX pP)) (fun (b:Unit) (a:Ti)=>(uK n) a.1))]∧(qS n).qZ=nj [51]∧(qS n).Ay=nj []∧(qS n).Ax=nj [30]∧(qS n).ce=Uv [(30,entE (Ue (oa Notation.row) Mo) (B9 (NQ true Notation.row) Ba) (rsA 0 (fun (b:Ti)=>b.1.length) Kf) (fun a=>(uv n) a.1))]:=⟨rfl,rfl,rfl,rfl,rfl,rfl,rfl,rfl,rfl,rfl,rfl,rfl⟩
theorem S8 (n:Nat):(qS n).body=(Tryd.f26.body).getD .skip:=rfl
theorem S9 (n:Nat):tY (qS n) [0,1,1,1,1,1]=true:=by kernel_rfl
theorem TG (n:Nat):sX (qS n) [0,1,1,1,1,1] 1 4=true∧sX (qS n) [0,1,1,1,1,1] 2 4=true:=⟨by kernel_rfl,by kernel_rfl⟩
noncomputable def Ex (n:Nat):{B:(List Notation)→Notation→Option Tp // ∀ (a0:(List Notation)) (a1:Notation),run (qS n) [.at []] {slots:=[(oa Notation.row).enc a0,(nF Notation.cel).enc a1]++j6 (31-[(oa Notation.row).enc a0,(nF Notation.cel).enc a1].length) qA,heap:=[]}=B a0 a1}:=by
 apply j7
 intro a0 a1
 simp (config:={maxSteps:=100000000,implicitDefEqProofs:=false}) only[go_sem,jU,jV,jQ,jR,jW,jX,jZ,j3,j4,jT,jY,j5,S7,S8,Tryd.f26,jS,mixed,p9,qa,nR,pq,S9,TG]
 exact rfl
noncomputable def wM:Nat→(List Notation)→Notation→Option Tp
 |0,_,_=>none
 |n+1,a0,a1=>(Ex n).1 a0 a1
theorem La: ∀ (n:Nat) (a0:(List Notation)) (a1:Notation) (r:Tp),wM n a0 a1=some r→xS Tryd.prog 26 [(oa Notation.row).enc a0,(nF Notation.cel).enc a1] (fun v=>v=(K0 (oa Notation.row) (o9 .i64)).enc r)
 |0,_,_,_,h=>by cases h
 |n+1,a0,a1,r,h=>by
  exact pL (M:=qS n) ⟨(mV (zF (fun b a r h=>(EM n) a.1 b.1.1 b.2.1 b.2.2.1 b.2.2.2.1 r h)) (mV (Kh (fun b a r h=>(IV n) a.1 r h)) mY)),mZ,nH _,nI _,oh,(Ki (entE_ok (fun a=>⟨(oa Notation.row).nb 0 _,trivial⟩) (fun a r h=>(BJ n) a.1 r h)) Qo),(xF (CG (fun b a r h=>(Cy n) a.1 r h)) BG),oG⟩ Tryd.func26 rfl rfl ⟨(oa Notation.row).nb 0 _,(nF Notation.cel).nb 0 _,trivial⟩ Tryd.ntmps26 Tryd.results26 (fun σ hs=>pz (P:=Tryd.prog) (rs:=[.tmp 4,.tmp 5]) (t:=(K0 (oa Notation.row) (o9 .i64))) (σ:=σ) (r:=r) hs) (((Ex n).2 a0 a1).trans h)
end Go.Abs
namespace Go.Abs
open Go.Proofs
set_option maxRecDepth 100000
set_option maxHeartbeats 4000000
noncomputable def Ey:Nrm:=⟨[],[],[zA,zK,zK,zK,zA,zA,zA,zA,zA,zA,zA,zA,zA,zA,zA,zA,zA,zA,zA,zA,zA,zA,zA,zA,zA,zA,zA,zA,zA,zA,zA,zA,zA,zA,zA,zA,zA,zA,zA,zA,zA,zA,zA,zA,zA,zA,zA,zA,zA,zA,zA,zA,zA,zA,zA,zA,zA,zA,zA,zA,zA,zA,zA,zA,zA,zA,zA,zA,zA,zA,zA,zA,zT (oa m4.row),zK,zK,zA,zA,zA,zA,zA,zA,zA,zA,zA,zA,zA,zA,zA,zA,zA,zA,zA,zA,zA,zA,zA,zA,zA,zA,zA,zA,zA,zA,zA,zA,zA,zA,zA,zA,zA,zA,zA,zA,zA,zA,zA,zA,zA,zA,zA,zA,zA,zA,zA,zA,zA,zA,zA,zA,zA,zA,zA,zA,zA,zA,zA,zA,zA,zA,zA,zA,zA,zA,zA,zA,zA,zA,zA,zA,zA,zA,zA,zA,zA,zA,zA,zA,zA,zA,zA,zA,zA,zA,zA,zA,zA,zA],[oT Syntax.cel,oT Syntax.cel,oT Syntax.cel],none,none⟩
noncomputable def qt (n:Nat):pO Bool where
 body:=(Tryd.f11.body).getD .skip
 P:=Tryd.prog
 cl:=om [(15,tH (oa Notation.row) (oa Syntax.row) (Ud (nF Syntax.cel) (o9 .i64) (o9 .i64)) (rF n)),(17,Lz (nF Syntax.cel) (nF Syntax.cel) pe pe (sF n)),(27,qj sD (nF Syntax.cel) (x9 n)),(40,qj (oa p8) (oa Syntax.row) (FV n)),(41,G2 (oa Notation.row) (FK n))]
 cd:=oo [(15,vY (tH (oa Notation.row) (oa Syntax.row) (Ud (nF Syntax.cel) (o9 .i64) (o9 .i64)) (rF n))),(20,vY (tH (oa Notation.row) (nF Syntax.cel) (K0 (oa Syntax.row) (o9 .i64)) (Ht n))),(29,vY (tH sD (oa Syntax.row) (nF Syntax.cel) (wO n))),(40,vY (qj (oa p8) (oa Syntax.row) (FV n))),(41,vY (G2 (oa Notation.row) (FK n)))]
 qT:=ot [([0,1,0,1,1],Ey)]
 cut:=ou []
 n:=n
 out:=pW Tryd.prog [.tmp 0] pe
 qZ:=nj []
 Ay:=nj []
 Ax:=nj []
theorem Nq (n:Nat):(qt n).P=Tryd.prog∧(qt n).cl=om [(15,tH (oa Notation.row) (oa Syntax.row) (Ud (nF Syntax.cel) (o9 .i64) (o9 .i64)) (rF n)),(17,Lz (nF Syntax.cel) (nF Syntax.cel) pe pe (sF n)),(27,qj sD (nF Syntax.cel) (x9 n)),(40,qj (oa p8) (oa Syntax.row) (FV n)),(41,G2 (oa Notation.row) (FK n))]∧(qt n).cd=oo [(15,vY (tH (oa Notation.row) (oa Syntax.row) (Ud (nF Syntax.cel) (o9 .i64) (o9 .i64)) (rF n))),(20,vY (tH (oa Notation.row) (nF Syntax.cel) (K0 (oa Syntax.row) (o9 .i64)) (Ht n))),(29,vY (tH sD (oa Syntax.row) (nF Syntax.cel) (wO n))),(40,vY (qj (oa p8) (oa Syntax.row) (FV n))),(41,vY (G2 (oa Notation.row) (FK n)))]∧(qt n).qT=ot [([0,1,0,1,1],Ey)]∧(qt n).cut=ou []∧(qt n).n=n∧(qt n).out=pW Tryd.prog [.tmp 0] pe∧(qt n).qZ=nj []∧(qt n).Ay=nj []∧(qt n).Ax=nj []:=⟨rfl,rfl,rfl,rfl,rfl,rfl,rfl,rfl,rfl,rfl⟩
theorem Nr (n:Nat):(qt n).body=(Tryd.f11.body).getD .skip:=rfl
theorem Ns (n:Nat):tY (qt n) [0,0,1,1]=true∧tY (qt n) [0,1,0,0,1,1,0,0,1,0,1,1]=true∧tY (qt n) [0,1,1,1,1,1]=true∧tY (qt n) [0,1,1,1,1,1,1]=true:=⟨by kernel_rfl,by kernel_rfl,by kernel_rfl,by kernel_rfl⟩
theorem Nt (n:Nat):sX (qt n) [0,1,0,0,1,1,0,0,1,0,1,1] 2 9=true∧sX (qt n) [0,1,0,0,1,1,0,0,1,0,1,1] 8 9=true:=⟨by kernel_rfl,by kernel_rfl⟩
noncomputable def LZ (n:Nat):{B:((List m4)→Int→Int→Syntax→Syntax→Syntax→Option Bool)→(List m4)→Int→Int→Syntax→Syntax→Syntax→Option Bool // ∀m X0,(∀ (v0:List m4) (v1:Int) (v2:Int) (o0:Syntax) (o1:Syntax) (o2:Syntax),run (qt n) [.lq m [0,1,0,1,1],.qC 0,.cut [1,1,1],.at [1,1,1]] ⟨[qA,.ptr 0 0,.ptr 1 0,.ptr 2 0,qA,qA,qA,qA,qA,qA,qA,qA,qA,qA,qA,qA,qA,qA,qA,qA,qA,qA,qA,qA,qA,qA,qA,qA,qA,qA,qA,qA,qA,qA,qA,qA,qA,qA,qA,qA,qA,qA,qA,qA,qA,qA,qA,qA,qA,qA,qA,qA,qA,qA,qA,qA,qA,qA,qA,qA,qA,qA,qA,qA,qA,qA,qA,qA,qA,qA,qA,qA,.nE false 9 (mp m4.cells v0),.int .i64 v1,.int .i64 v2,qA,qA,qA,qA,qA,qA,qA,qA,qA,qA,qA,qA,qA,qA,qA,qA,qA,qA,qA,qA,qA,qA,qA,qA,qA,qA,qA,qA,qA,qA,qA,qA,qA,qA,qA,qA,qA,qA,qA,qA,qA,qA,qA,qA,qA,qA,qA,qA,qA,qA,qA,qA,qA,qA,qA,qA,qA,qA,qA,qA,qA,qA,qA,qA,qA,qA,qA,qA,qA,qA,qA,qA,qA,qA,qA,qA,qA,qA,qA,qA,qA,qA,qA,qA,qA,qA,qA,qA,qA,qA,qA,qA],[.cells (Syntax.cells o0),.cells (Syntax.cells o1),.cells (Syntax.cells o2)],0,[]⟩=X0 v0 v1 v2 o0 o1 o2)→ ∀ (v0:List m4) (v1:Int) (v2:Int) (o0:Syntax) (o1:Syntax) (o2:Syntax),run (qt n) [.at [0,0,1,0,1,1],.lp m [0,1,0,1,1],.qC 0,.cut [1,1,1],.at [1,1,1]] ⟨[qA,.ptr 0 0,.ptr 1 0,.ptr 2 0,qA,qA,qA,qA,qA,qA,qA,qA,qA,qA,qA,qA,qA,qA,qA,qA,qA,qA,qA,qA,qA,qA,qA,qA,qA,qA,qA,qA,qA,qA,qA,qA,qA,qA,qA,qA,qA,qA,qA,qA,qA,qA,qA,qA,qA,qA,qA,qA,qA,qA,qA,qA,qA,qA,qA,qA,qA,qA,qA,qA,qA,qA,qA,qA,qA,qA,qA,qA,.nE false 9 (mp m4.cells v0),.int .i64 v1,.int .i64 v2,qA,qA,qA,qA,qA,qA,qA,qA,qA,qA,qA,qA,qA,qA,qA,qA,qA,qA,qA,qA,qA,qA,qA,qA,qA,qA,qA,qA,qA,qA,qA,qA,qA,qA,qA,qA,qA,qA,qA,qA,qA,qA,qA,qA,qA,qA,qA,qA,qA,qA,qA,qA,qA,qA,qA,qA,qA,qA,qA,qA,qA,qA,qA,qA,qA,qA,qA,qA,qA,qA,qA,qA,qA,qA,qA,qA,qA,qA,qA,qA,qA,qA,qA,qA,qA,qA,qA,qA,qA,qA,qA,qA],[.cells (Syntax.cells o0),.cells (Syntax.cells o1),.cells (Syntax.cells o2)],0,[]⟩=B X0 v0 v1 v2 o0 o1 o2}:=by
 apply j7
 intro m X0 ih v0 v1 v2 o0 o1 o2
 simp (config:={maxSteps:=100000000}) only[go_sem,jU,jV,jQ,jR,jW,jX,jZ,j3,j4,jT,jY,j5,Nq,Nr,Tryd.f11,jS,mixed,Ns,Nt,Ey,ih]
 exact rfl
noncomputable def L0 (n:Nat):Nat→(List m4)→Int→Int→Syntax→Syntax→Syntax→Option Bool
 |0,_,_,_,_,_,_=>none
 |m+1,v0,v1,v2,o0,o1,o2=>(LZ n).1 (L0 n m) v0 v1 v2 o0 o1 o2
theorem Ir (n:Nat): ∀ (m:Nat),(∀ (v0:List m4) (v1:Int) (v2:Int) (o0:Syntax) (o1:Syntax) (o2:Syntax),run (qt n) [.lq m [0,1,0,1,1],.qC 0,.cut [1,1,1],.at [1,1,1]] ⟨[qA,.ptr 0 0,.ptr 1 0,.ptr 2 0,qA,qA,qA,qA,qA,qA,qA,qA,qA,qA,qA,qA,qA,qA,qA,qA,qA,qA,qA,qA,qA,qA,qA,qA,qA,qA,qA,qA,qA,qA,qA,qA,qA,qA,qA,qA,qA,qA,qA,qA,qA,qA,qA,qA,qA,qA,qA,qA,qA,qA,qA,qA,qA,qA,qA,qA,qA,qA,qA,qA,qA,qA,qA,qA,qA,qA,qA,qA,.nE false 9 (mp m4.cells v0),.int .i64 v1,.int .i64 v2,qA,qA,qA,qA,qA,qA,qA,qA,qA,qA,qA,qA,qA,qA,qA,qA,qA,qA,qA,qA,qA,qA,qA,qA,qA,qA,qA,qA,qA,qA,qA,qA,qA,qA,qA,qA,qA,qA,qA,qA,qA,qA,qA,qA,qA,qA,qA,qA,qA,qA,qA,qA,qA,qA,qA,qA,qA,qA,qA,qA,qA,qA,qA,qA,qA,qA,qA,qA,qA,qA,qA,qA,qA,qA,qA,qA,qA,qA,qA,qA,qA,qA,qA,qA,qA,qA,qA,qA,qA,qA,qA,qA],[.cells (Syntax.cells o0),.cells (Syntax.cells o1),.cells (Syntax.cells o2)],0,[]⟩=L0 n m v0 v1 v2 o0 o1 o2)
 |0=>by intros;exact nk
 |m+1=>by
  have ih:=Ir n m
  intro v0 v1 v2 o0 o1 o2
  rw[nq]
  exact (LZ n).2 m _ ih v0 v1 v2 o0 o1 o2
noncomputable def Nu (n:Nat):{B:Option Bool // run (qt n) [.at []] {slots:=([]:List AV)++j6 (167-([]:List AV).length) qA,heap:=[]}=B}:=by
 apply j7
 simp (config:={maxSteps:=100000000}) only[go_sem,jU,jV,jQ,jR,jW,jX,jZ,j3,j4,jT,jY,j5,Nq,Nr,Tryd.f11,jS,mixed,Ns,Nt,Ey,Ir n]
 exact rfl
noncomputable def uU:Nat→Option Bool
 |0=>none
 |n+1=>(Nu n).1
theorem B0: ∀ (n:Nat) (r:Bool),uU n=some r→xS Tryd.prog 11 [] (fun v=>v=pe.enc r)
 |0,_,h=>by cases h
 |n+1,r,h=>by
  exact pL (M:=qt n) ⟨(mV (uH (Bu n)) (mV (Rm (D8 n)) (mV (qi (Fp n)) (mV (qi (LL n)) (mV (Kc (LC n)) mY))))),(qE (DL (Bu n)) (qE (DL (OM n)) (qE (DL (LP n)) (qE (BD (LL n)) (qE (YC (LC n)) mZ))))),nH _,nI _,oh,oH,oV,oG⟩ Tryd.func11 rfl rfl trivial Tryd.ntmps11 Tryd.results11 (fun σ hs=>pz (P:=Tryd.prog) (rs:=[.tmp 0]) (t:=pe) (σ:=σ) (r:=r) hs) (((Nu n).2).trans h)
end Go.Abs
namespace Go.Abs
open Go.Proofs
set_option maxRecDepth 100000
set_option maxHeartbeats 4000000
noncomputable def pX (n:Nat):pO Bool where
 body:=(Tryd.f3.body).getD .skip
 P:=Tryd.prog
 cl:=om [(10,qj (oa Notation.row) pe (Ch n)),(11,G2 pe (uU n))]
 cd:=oo [(11,vY (G2 pe (uU n))),(12,vY (qj (nF Notation.cel) (o9 .i64) (yB n))),(13,vY (qj (nF Notation.cel) (o9 .i64) (BW n)))]
 qT:=ot []
 cut:=ou []
 n:=n
 out:=pW Tryd.prog [.tmp 2] pe
 qZ:=nj []
 Ay:=nj []
 Ax:=nj []
theorem KD (n:Nat):(pX n).P=Tryd.prog∧(pX n).cl=om [(10,qj (oa Notation.row) pe (Ch n)),(11,G2 pe (uU n))]∧(pX n).cd=oo [(11,vY (G2 pe (uU n))),(12,vY (qj (nF Notation.cel) (o9 .i64) (yB n))),(13,vY (qj (nF Notation.cel) (o9 .i64) (BW n)))]∧(pX n).qT=ot []∧(pX n).cut=ou []∧(pX n).n=n∧(pX n).out=pW Tryd.prog [.tmp 2] pe∧(pX n).qZ=nj []∧(pX n).Ay=nj []∧(pX n).Ax=nj []:=⟨rfl,rfl,rfl,rfl,rfl,rfl,rfl,rfl,rfl,rfl⟩
theorem KE (n:Nat):(pX n).body=(Tryd.f3.body).getD .skip:=rfl
theorem KF (n:Nat):tY (pX n) [0,1,1]=true:=by kernel_rfl
noncomputable def AQ (n:Nat):{B:Notation→Option Bool // ∀ (a0:Notation),run (pX n) [.at []] {slots:=[(nF Notation.cel).enc a0]++j6 (16-[(nF Notation.cel).enc a0].length) qA,heap:=[]}=B a0}:=by
 apply j7
 intro a0
 simp (config:={maxSteps:=100000000}) only[go_sem,jU,jV,jQ,jR,jW,jX,jZ,j3,j4,jT,jY,j5,KD,KE,Tryd.f3,jS,mixed,KF]
 exact rfl
noncomputable def B1:Nat→Notation→Option Bool
 |0,_=>none
 |n+1,a0=>(AQ n).1 a0
theorem VF: ∀ (n:Nat) (a0:Notation) (r:Bool),B1 n a0=some r→xS Tryd.prog 3 [(nF Notation.cel).enc a0] (fun v=>v=pe.enc r)
 |0,_,_,h=>by cases h
 |n+1,a0,r,h=>by
  exact pL (M:=pX n) ⟨(mV (qi (KC n)) (mV (Kc (B0 n)) mY)),(qE (YC (B0 n)) (qE (BD (Il n)) (qE (BD (LV n)) mZ))),nH _,nI _,oh,oH,oV,oG⟩ Tryd.func3 rfl rfl ⟨(nF Notation.cel).nb 0 _,trivial⟩ Tryd.ntmps3 Tryd.results3 (fun σ hs=>pz (P:=Tryd.prog) (rs:=[.tmp 2]) (t:=pe) (σ:=σ) (r:=r) hs) (((AQ n).2 a0).trans h)
noncomputable def oU (n:Nat):pO Bool where
 body:=(Tryd.f9.body).getD .skip
 P:=Tryd.prog
 cl:=om [(11,G2 pe (uU n)),(26,tH (oa Notation.row) (nF Notation.cel) (K0 (oa Notation.row) (o9 .i64)) (wM n)),(31,tH (oa Notation.row) (nF Notation.cel) (K0 (oa Notation.row) (o9 .i64)) (GN n)),(32,tH (oa Notation.row) (oa Notation.row) pe (yN n)),(33,tH (oa p8) (oa p8) pe (xB n)),(34,qj (oa Notation.row) (oa p8) (Ab n)),(35,qj (oa Notation.row) (oa p8) (CI n))]
 cd:=oo []
 qT:=ot []
 cut:=ou []
 n:=n
 out:=pW Tryd.prog [.tmp 4] pe
 qZ:=nj []
 Ay:=nj []
 Ax:=nj [30,10]
 ce:=Uv [(30,entE (Ue (oa Notation.row) Mo) (B9 (NQ true Notation.row) Ba) (rsA 0 (fun (b:Ti)=>b.1.length) Kf) (fun a=>(uv n) a.1)),(10,entR (vY (qj (oa Notation.row) pe (Ch n))))]
theorem L1 (n:Nat):(oU n).P=Tryd.prog∧(oU n).cl=om [(11,G2 pe (uU n)),(26,tH (oa Notation.row) (nF Notation.cel) (K0 (oa Notation.row) (o9 .i64)) (wM n)),(31,tH (oa Notation.row) (nF Notation.cel) (K0 (oa Notation.row) (o9 .i64)) (GN n)),(32,tH (oa Notation.row) (oa Notation.row) pe (yN n)),(33,tH (oa p8) (oa p8) pe (xB n)),(34,qj (oa Notation.row) (oa p8) (Ab n)),(35,qj (oa Notation.row) (oa p8) (CI n))]∧(oU n).cd=oo []∧(oU n).qT=ot []∧(oU n).cut=ou []∧(oU n).n=n∧(oU n).out=pW Tryd.prog [.tmp 4] pe∧(oU n).qZ=nj []∧(oU n).Ay=nj []∧(oU n).Ax=nj [30,10]∧(oU n).ce=Uv [(30,entE (Ue (oa Notation.row) Mo) (B9 (NQ true Notation.row) Ba) (rsA 0 (fun (b:Ti)=>b.1.length) Kf) (fun a=>(uv n) a.1)),(10,entR (vY (qj (oa Notation.row) pe (Ch n))))]:=⟨rfl,rfl,rfl,rfl,rfl,rfl,rfl,rfl,rfl,rfl,rfl⟩
theorem L2 (n:Nat):(oU n).body=(Tryd.f9.body).getD .skip:=rfl
theorem L3 (n:Nat):tY (oU n) [0,0,1]=true:=by kernel_rfl
theorem L4 (n:Nat):sX (oU n) [0,0,1] 1 4=true∧sX (oU n) [0,0,1] 2 4=true∧sX (oU n) [0,0,1] 1 5=true∧sX (oU n) [0,0,1] 4 5=true:=⟨by kernel_rfl,by kernel_rfl,by kernel_rfl,by kernel_rfl⟩
noncomputable def B2 (n:Nat):{B:(List Notation)→Notation→Option Bool // ∀ (a0:(List Notation)) (a1:Notation),run (oU n) [.at []] {slots:=[(oa Notation.row).enc a0,(nF Notation.cel).enc a1]++j6 (47-[(oa Notation.row).enc a0,(nF Notation.cel).enc a1].length) qA,heap:=[]}=B a0 a1}:=by
 apply j7
 intro a0 a1
 simp (config:={maxSteps:=100000000}) only[go_sem,jU,jV,jQ,jR,jW,jX,jZ,j3,j4,jT,jY,j5,L1,L2,Tryd.f9,jS,mixed,L3,L4]
 exact rfl
noncomputable def Di:Nat→(List Notation)→Notation→Option Bool
 |0,_,_=>none
 |n+1,a0,a1=>(B2 n).1 a0 a1
theorem Xr: ∀ (n:Nat) (a0:(List Notation)) (a1:Notation) (r:Bool),Di n a0 a1=some r→xS Tryd.prog 9 [(oa Notation.row).enc a0,(nF Notation.cel).enc a1] (fun v=>v=pe.enc r)
 |0,_,_,_,h=>by cases h
 |n+1,a0,a1,r,h=>by
  exact pL (M:=oU n) ⟨(mV (Kc (B0 n)) (mV (uH (La n)) (mV (uH (W5 n)) (mV (uH (NM n)) (mV (uH (Ks n)) (mV (qi (ML n)) (mV (qi (PI n)) mY))))))),mZ,nH _,nI _,oh,(Ki (entE_ok (fun a=>⟨(oa Notation.row).nb 0 _,trivial⟩) (fun a r h=>(BJ n) a.1 r h)) (Ki (entR_ok (BD (KC n))) Qo)),oV,oG⟩ Tryd.func9 rfl rfl ⟨(oa Notation.row).nb 0 _,(nF Notation.cel).nb 0 _,trivial⟩ Tryd.ntmps9 Tryd.results9 (fun σ hs=>pz (P:=Tryd.prog) (rs:=[.tmp 4]) (t:=pe) (σ:=σ) (r:=r) hs) (((B2 n).2 a0 a1).trans h)
noncomputable def qK (n:Nat):pO Bool where
 body:=(Tryd.f4.body).getD .skip
 P:=Tryd.prog
 cl:=om [(10,qj (oa Notation.row) pe (Ch n)),(11,G2 pe (uU n)),(14,qj (oa Syntax.row) pe (FX n)),(15,tH (oa Notation.row) (oa Syntax.row) (Ud (nF Syntax.cel) (o9 .i64) (o9 .i64)) (rF n)),(16,tH (oa Notation.row) (oa Syntax.row) (Ud (nF Syntax.cel) (o9 .i64) (o9 .i64)) (As n)),(17,Lz (nF Syntax.cel) (nF Syntax.cel) pe pe (sF n))]
 cd:=oo []
 qT:=ot []
 cut:=ou []
 n:=n
 out:=pW Tryd.prog [.tmp 4] pe
 qZ:=nj []
theorem KG (n:Nat):(qK n).P=Tryd.prog∧(qK n).cl=om [(10,qj (oa Notation.row) pe (Ch n)),(11,G2 pe (uU n)),(14,qj (oa Syntax.row) pe (FX n)),(15,tH (oa Notation.row) (oa Syntax.row) (Ud (nF Syntax.cel) (o9 .i64) (o9 .i64)) (rF n)),(16,tH (oa Notation.row) (oa Syntax.row) (Ud (nF Syntax.cel) (o9 .i64) (o9 .i64)) (As n)),(17,Lz (nF Syntax.cel) (nF Syntax.cel) pe pe (sF n))]∧(qK n).cd=oo []∧(qK n).qT=ot []∧(qK n).cut=ou []∧(qK n).n=n∧(qK n).out=pW Tryd.prog [.tmp 4] pe∧(qK n).qZ=nj []:=⟨rfl,rfl,rfl,rfl,rfl,rfl,rfl,rfl⟩
theorem KH (n:Nat):(qK n).body=(Tryd.f4.body).getD .skip:=rfl
noncomputable def AR (n:Nat):{B:(List Notation)→(List Syntax)→Option Bool // ∀ (a0:(List Notation)) (a1:(List Syntax)),run (qK n) [.at []] {slots:=[(oa Notation.row).enc a0,(oa Syntax.row).enc a1]++j6 (50-[(oa Notation.row).enc a0,(oa Syntax.row).enc a1].length) qA,heap:=[]}=B a0 a1}:=by
 apply j7
 intro a0 a1
 simp (config:={maxSteps:=100000000}) only[go_sem,jU,jV,jQ,jR,jW,jX,jZ,j3,j4,jT,jY,j5,KG,KH,Tryd.f4,jS,mixed]
 exact rfl
noncomputable def B3:Nat→(List Notation)→(List Syntax)→Option Bool
 |0,_,_=>none
 |n+1,a0,a1=>(AR n).1 a0 a1
theorem VG: ∀ (n:Nat) (a0:(List Notation)) (a1:(List Syntax)) (r:Bool),B3 n a0 a1=some r→xS Tryd.prog 4 [(oa Notation.row).enc a0,(oa Syntax.row).enc a1] (fun v=>v=pe.enc r)
 |0,_,_,_,h=>by cases h
 |n+1,a0,a1,r,h=>by
  exact pL (M:=qK n) ⟨(mV (qi (KC n)) (mV (Kc (B0 n)) (mV (qi (SY n)) (mV (uH (Bu n)) (mV (uH (S6 n)) (mV (Rm (D8 n)) mY)))))),mZ,nH _,nI _,oh,oH,oV,oG⟩ Tryd.func4 rfl rfl ⟨(oa Notation.row).nb 0 _,(oa Syntax.row).nb 0 _,trivial⟩ Tryd.ntmps4 Tryd.results4 (fun σ hs=>pz (P:=Tryd.prog) (rs:=[.tmp 4]) (t:=pe) (σ:=σ) (r:=r) hs) (((AR n).2 a0 a1).trans h)
noncomputable def m9 (n:Nat):pO Bool where
 body:=(Tryd.f8.body).getD .skip
 P:=Tryd.prog
 cl:=om [(11,G2 pe (uU n)),(17,Lz (nF Syntax.cel) (nF Syntax.cel) pe pe (sF n)),(26,tH (oa Notation.row) (nF Notation.cel) (K0 (oa Notation.row) (o9 .i64)) (wM n)),(27,qj sD (nF Syntax.cel) (x9 n))]
 cd:=oo [(15,vY (tH (oa Notation.row) (oa Syntax.row) (Ud (nF Syntax.cel) (o9 .i64) (o9 .i64)) (rF n))),(28,vY (qj sD (nF Syntax.cel) (AB n))),(29,vY (tH sD (oa Syntax.row) (nF Syntax.cel) (wO n)))]
 qT:=ot []
 cut:=ou []
 n:=n
 out:=pW Tryd.prog [.tmp 2] pe
 qZ:=nj []
 Ay:=nj []
 Ax:=nj []
theorem KI (n:Nat):(m9 n).P=Tryd.prog∧(m9 n).cl=om [(11,G2 pe (uU n)),(17,Lz (nF Syntax.cel) (nF Syntax.cel) pe pe (sF n)),(26,tH (oa Notation.row) (nF Notation.cel) (K0 (oa Notation.row) (o9 .i64)) (wM n)),(27,qj sD (nF Syntax.cel) (x9 n))]∧(m9 n).cd=oo [(15,vY (tH (oa Notation.row) (oa Syntax.row) (Ud (nF Syntax.cel) (o9 .i64) (o9 .i64)) (rF n))),(28,vY (qj sD (nF Syntax.cel) (AB n))),(29,vY (tH sD (oa Syntax.row) (nF Syntax.cel) (wO n)))]∧(m9 n).qT=ot []∧(m9 n).cut=ou []∧(m9 n).n=n∧(m9 n).out=pW Tryd.prog [.tmp 2] pe∧(m9 n).qZ=nj []∧(m9 n).Ay=nj []∧(m9 n).Ax=nj []:=⟨rfl,rfl,rfl,rfl,rfl,rfl,rfl,rfl,rfl,rfl⟩
theorem KJ (n:Nat):(m9 n).body=(Tryd.f8.body).getD .skip:=rfl
theorem KK (n:Nat):tY (m9 n) [0,1]=true∧tY (m9 n) [0,1,1,1,1,1,1,1]=true∧tY (m9 n) [0,1,1,1,1,1,1,1,1,1]=true∧tY (m9 n) [0,1,1,1,1,1,1,1,1,1,1]=true:=⟨by kernel_rfl,by kernel_rfl,by kernel_rfl,by kernel_rfl⟩
theorem KL (n:Nat):sX (m9 n) [0,1,1,1,1,1,1,1] 1 13=true∧sX (m9 n) [0,1,1,1,1,1,1,1] 3 13=true∧sX (m9 n) [0,1,1,1,1,1,1,1] 5 13=true∧sX (m9 n) [0,1,1,1,1,1,1,1] 12 13=true∧sX (m9 n) [0,1,1,1,1,1,1,1,1,1] 0 8=true∧sX (m9 n) [0,1,1,1,1,1,1,1,1,1] 1 8=true∧sX (m9 n) [0,1,1,1,1,1,1,1,1,1] 4 8=true∧sX (m9 n) [0,1,1,1,1,1,1,1,1,1] 7 8=true∧sX (m9 n) [0,1,1,1,1,1,1,1,1,1,1] 0 8=true∧sX (m9 n) [0,1,1,1,1,1,1,1,1,1,1] 1 8=true∧sX (m9 n) [0,1,1,1,1,1,1,1,1,1,1] 2 8=true∧sX (m9 n) [0,1,1,1,1,1,1,1,1,1,1] 7 8=true:=⟨by kernel_rfl,by kernel_rfl,by kernel_rfl,by kernel_rfl,by kernel_rfl,by kernel_rfl,by kernel_rfl,by kernel_rfl,by kernel_rfl,by kernel_rfl,by kernel_rfl,by kernel_rfl⟩
noncomputable def AS (n:Nat):{B:Law25Pair→Option Bool // ∀ (a0:Law25Pair),run (m9 n) [.at []] {slots:=[(nF Law25Pair.cel).enc a0]++j6 (147-[(nF Law25Pair.cel).enc a0].length) qA,heap:=[]}=B a0}:=by
 apply j7
 intro a0
 simp (config:={maxSteps:=100000000}) only[go_sem,jU,jV,jQ,jR,jW,jX,jZ,j3,j4,jT,jY,j5,KI,KJ,Tryd.f8,jS,mixed,KK,KL]
 exact rfl
noncomputable def B4:Nat→Law25Pair→Option Bool
 |0,_=>none
 |n+1,a0=>(AS n).1 a0
theorem VH: ∀ (n:Nat) (a0:Law25Pair) (r:Bool),B4 n a0=some r→xS Tryd.prog 8 [(nF Law25Pair.cel).enc a0] (fun v=>v=pe.enc r)
 |0,_,_,h=>by cases h
 |n+1,a0,r,h=>by
  exact pL (M:=m9 n) ⟨(mV (Kc (B0 n)) (mV (Rm (D8 n)) (mV (uH (La n)) (mV (qi (Fp n)) mY)))),(qE (DL (Bu n)) (qE (BD (K3 n)) (qE (DL (LP n)) mZ))),nH _,nI _,oh,oH,oV,oG⟩ Tryd.func8 rfl rfl ⟨(nF Law25Pair.cel).nb 0 _,trivial⟩ Tryd.ntmps8 Tryd.results8 (fun σ hs=>pz (P:=Tryd.prog) (rs:=[.tmp 2]) (t:=pe) (σ:=σ) (r:=r) hs) (((AS n).2 a0).trans h)
end Go.Abs
