/- A part of the proof: what the functions compute. -/
import Derived.Test.YtfilfimjoeapgaaDoorDataA
import Derived.Test.YtfilfimjoeapgaaDoorWalkB
import Derived.Test.YtfilfimjoeapgaaDoorWalkC
import Derived.Test.YtfilfimjoeapgaaDoorWalkA
import Derived.Test.YtfilfimjoeapgaaDoorExtA
set_option linter.all false
open Nat renaming reduceLeDiff → jz,reduceEqDiff → jA,reduceAdd → jD,reduceSub → jE,reduceBEq → jF,reduceMul → jG,reduceLT → jI,le_trans → jO,le_of_eq → jP
open Option renaming getD_some → jB
open Int renaming reduceToNat → jC,reduceBEq → jH,reduceLE → jJ,reduceLT → jK,reduceEq → jL
open Subtype renaming mk → jM
open List renaming replicate → jN
open Go.Abs.AV renaming any → qA
namespace Go.Abs
open Go.Proofs
set_option maxRecDepth 100000
set_option maxHeartbeats 4000000
noncomputable def vh (n:Nat):pO Bool where
 body:=(Tryd.f37.body).getD .skip
 P:=Tryd.prog
 cl:=om [(38,tH (oa p8) (O3 39) pe (qR n))]
 cd:=oo []
 qT:=ot []
 cut:=ou []
 n:=n
 out:=pW Tryd.prog [.tmp 2] pe
 qZ:=nj []
theorem UT (n:Nat):(vh n).P=Tryd.prog∧(vh n).cl=om [(38,tH (oa p8) (O3 39) pe (qR n))]∧(vh n).cd=oo []∧(vh n).qT=ot []∧(vh n).cut=ou []∧(vh n).n=n∧(vh n).out=pW Tryd.prog [.tmp 2] pe∧(vh n).qZ=nj []:=⟨rfl,rfl,rfl,rfl,rfl,rfl,rfl,rfl⟩
theorem UU (n:Nat):(vh n).body=(Tryd.f37.body).getD .skip:=rfl
noncomputable def Jb (n:Nat):{B:Notation→Option Bool // ∀ (a0:Notation),run (vh n) [.at []] {slots:=[(nF Notation.cel).enc a0]++jN (18-[(nF Notation.cel).enc a0].length) qA,heap:=[]}=B a0}:=by
 apply jM
 intro a0
 simp (config:={maxSteps:=100000000}) only[go_sem,jD,jE,jz,jA,jF,jG,jI,jJ,jK,jC,jH,jL,UT,UU,Tryd.f37,jB,mixed]
 exact rfl
noncomputable def Ij:Nat→Notation→Option Bool
 |0,_=>none
 |n+1,a0=>(Jb n).1 a0
theorem SZ: ∀ (n:Nat) (a0:Notation) (r:Bool),Ij n a0=some r→xS Tryd.prog 37 [(nF Notation.cel).enc a0] (fun v=>v=pe.enc r)
 |0,_,_,h=>by cases h
 |n+1,a0,r,h=>by
  exact pL (M:=vh n) ⟨(mV (uH (Ao n)) mY),mZ,nH _,nI _,oh,oH,oV,oG⟩ Tryd.func37 rfl rfl ⟨(nF Notation.cel).nb 0 _,trivial⟩ Tryd.ntmps37 Tryd.results37 (fun σ hs=>pz (P:=Tryd.prog) (rs:=[.tmp 2]) (t:=pe) (σ:=σ) (r:=r) hs) (((Jb n).2 a0).trans h)
noncomputable def tM (n:Nat):pO Bool where
 body:=(Tryd.f68.body).getD .skip
 P:=Tryd.prog
 cl:=om [(97,entX [] wX pP (sZ K1 wX) (xg 0 pP) (fun (b:Unit) (a:Unit)=>(BM n)))]
 cd:=oo []
 qT:=ot []
 cut:=ou []
 n:=n
 out:=pW Tryd.prog [.tmp 2] pe
 qZ:=nj []
theorem Rb (n:Nat):(tM n).P=Tryd.prog∧(tM n).cl=om [(97,entX [] wX pP (sZ K1 wX) (xg 0 pP) (fun (b:Unit) (a:Unit)=>(BM n)))]∧(tM n).cd=oo []∧(tM n).qT=ot []∧(tM n).cut=ou []∧(tM n).n=n∧(tM n).out=pW Tryd.prog [.tmp 2] pe∧(tM n).qZ=nj []:=⟨rfl,rfl,rfl,rfl,rfl,rfl,rfl,rfl⟩
theorem Rc (n:Nat):(tM n).body=(Tryd.f68.body).getD .skip:=rfl
noncomputable def Gl (n:Nat):{B:Str→Option Bool // ∀ (a0:Str),run (tM n) [.at []] {slots:=[sD.enc a0]++jN (6-[sD.enc a0].length) qA,heap:=[]}=B a0}:=by
 apply jM
 intro a0
 simp (config:={maxSteps:=100000000}) only[go_sem,jD,jE,jz,jA,jF,jG,jI,jJ,jK,jC,jH,jL,Rb,Rc,Tryd.f68,jB,mixed]
 exact rfl
noncomputable def CJ:Nat→Str→Option Bool
 |0,_=>none
 |n+1,a0=>(Gl n).1 a0
theorem PU: ∀ (n:Nat) (a0:Str) (r:Bool),CJ n a0=some r→xS Tryd.prog 68 [sD.enc a0] (fun v=>v=pe.enc r)
 |0,_,_,h=>by cases h
 |n+1,a0,r,h=>by
  exact pL (M:=tM n) ⟨(mV (zF (fun b a r h=>(OH n) r h)) mY),mZ,nH _,nI _,oh,oH,oV,oG⟩ Tryd.func68 rfl rfl ⟨sD.nb 0 _,trivial⟩ Tryd.ntmps68 Tryd.results68 (fun σ hs=>pz (P:=Tryd.prog) (rs:=[.tmp 2]) (t:=pe) (σ:=σ) (r:=r) hs) (((Gl n).2 a0).trans h)
noncomputable def vZ:Nrm:=⟨[],[],[zK,zK,zA,zA,zA,zA,zA,zK,zT (oa Syntax.row),zA,zA,zA,zA,zA,zA,zA,zA,zA,zA,zA,zA,zA,zA,zA,zA,zA,zA,zT (oa p8),zK,zK,zA,zA,zA,zA,zA,zA,zA,zA,zA,zA,zA,zA,zA,zA,zA,zA,zA,zA,zA,zA,zA,zA,zA,zA,zA,zA,zA,zA,zA,zA,zA],[oC [zK],oA Syntax.row,oM (nF Notation.cel),oD,oT Notation.cel],none,none⟩
noncomputable def pY:AL (Syntax×Unit):=(tI 0 (alA 1 (qy (nF Syntax.cel) pP)))
noncomputable def nM:OL Tc:=(sZ (BF (xg 2 pP)) (sZ (ogA true Syntax.row) (sZ (wh (nF Notation.cel)) wX)))
noncomputable def oZ:OL Tc:=(sZ (BF (xg 2 pP)) (sZ (ogA true Syntax.row) (sZ (wh (nF Notation.cel)) wX)))
noncomputable def pM (X:Syntax→(List Syntax)→T3→Option (Tc×Unit)) (n:Nat):pO (Tc×Unit) where
 body:=(Tryd.f58.body).getD .skip
 P:=Tryd.prog
 cl:=om [(58,Oh 1 true 8 (entX [.arg 0 [],.arg 1 [],.obj 0 0 []] nM pY oZ (alA 1 pP) (fun (b:Tc) (a:(Syntax×Unit))=>X a.1 b.2.1 b.2.2.1))),(89,entX [.arg 0 [],.obj 0 0 []] m5 (tI 0 (qy (nF Syntax.cel) pP)) nB nP (fun (b:Tb) (a:(Syntax×Unit))=>(qY n) a.1 b.2.1)),(90,entX [.arg 0 [],.obj 0 0 []] nD pR oO (qy pe pP) (fun (b:Tb) (a:Tq)=>(pF n) a.1 a.2.1 a.2.2.1 b.2.1))]
 cd:=oo []
 qT:=ot [([0,1,0,1,1,1],vZ)]
 cut:=ou []
 n:=n
 out:=Ca Tryd.prog [.tmp 6] [] [0,1,2] 3 oZ (alA 1 pP)
 qZ:=nj []
theorem CK (X:Syntax→(List Syntax)→T3→Option (Tc×Unit)) (n:Nat):(pM X n).P=Tryd.prog∧(pM X n).cl=om [(58,Oh 1 true 8 (entX [.arg 0 [],.arg 1 [],.obj 0 0 []] nM pY oZ (alA 1 pP) (fun (b:Tc) (a:(Syntax×Unit))=>X a.1 b.2.1 b.2.2.1))),(89,entX [.arg 0 [],.obj 0 0 []] m5 (tI 0 (qy (nF Syntax.cel) pP)) nB nP (fun (b:Tb) (a:(Syntax×Unit))=>(qY n) a.1 b.2.1)),(90,entX [.arg 0 [],.obj 0 0 []] nD pR oO (qy pe pP) (fun (b:Tb) (a:Tq)=>(pF n) a.1 a.2.1 a.2.2.1 b.2.1))]∧(pM X n).cd=oo []∧(pM X n).qT=ot [([0,1,0,1,1,1],vZ)]∧(pM X n).cut=ou []∧(pM X n).n=n∧(pM X n).out=Ca Tryd.prog [.tmp 6] [] [0,1,2] 3 oZ (alA 1 pP)∧(pM X n).qZ=nj []:=⟨rfl,rfl,rfl,rfl,rfl,rfl,rfl,rfl⟩
theorem CL (X:Syntax→(List Syntax)→T3→Option (Tc×Unit)) (n:Nat):(pM X n).body=(Tryd.f58.body).getD .skip:=rfl
noncomputable def tw (X:Syntax→(List Syntax)→T3→Option (Tc×Unit)) (n:Nat):{B:((List Syntax)→(List Str)→Int→Int→(List Syntax)→T3→Notation→Option (Tc×Unit))→(List Syntax)→(List Str)→Int→Int→(List Syntax)→T3→Notation→Option (Tc×Unit) // ∀m X0,(∀ (v0:List Syntax) (v1:List Str) (v2:Int) (v3:Int) (r1:List Syntax) (r2:List (Str×Notation)) (o4:Notation) (c1:Nat),c1=r1.length→run (pM X n) [.lq m [0,1,0,1,1,1],.qC 0,.cut [1,1,1,1],.at [1,1,1,1]] ⟨[.ptr 0 0,.acc 1 c1,qA,qA,qA,qA,qA,.ptr 4 0,.nE false 8 (mp Syntax.cells v0),qA,qA,qA,qA,qA,qA,qA,qA,qA,qA,qA,qA,qA,qA,qA,qA,qA,qA,.nE false 1 (mp n4 v1),.int .i64 v2,.int .i64 v3,qA,qA,qA,qA,qA,qA,qA,qA,qA,qA,qA,qA,qA,qA,qA,qA,qA,qA,qA,qA,qA,qA,qA,qA,qA,qA,qA,qA,qA,qA,qA],[.cells [.map 2],.acc true 8 (mp Syntax.cells r1),.map (mp (mcT (nF Notation.cel)) r2),.dead,.cells (Notation.cells o4)],3,[]⟩=X0 v0 v1 v2 v3 r1 r2 o4)→ ∀ (v0:List Syntax) (v1:List Str) (v2:Int) (v3:Int) (r1:List Syntax) (r2:List (Str×Notation)) (o4:Notation),run (pM X n) [.at [0,0,1,0,1,1,1],.lp m [0,1,0,1,1,1],.qC 0,.cut [1,1,1,1],.at [1,1,1,1]] ⟨[.ptr 0 0,.acc 1 r1.length,qA,qA,qA,qA,qA,.ptr 4 0,.nE false 8 (mp Syntax.cells v0),qA,qA,qA,qA,qA,qA,qA,qA,qA,qA,qA,qA,qA,qA,qA,qA,qA,qA,.nE false 1 (mp n4 v1),.int .i64 v2,.int .i64 v3,qA,qA,qA,qA,qA,qA,qA,qA,qA,qA,qA,qA,qA,qA,qA,qA,qA,qA,qA,qA,qA,qA,qA,qA,qA,qA,qA,qA,qA,qA,qA],[.cells [.map 2],.acc true 8 (mp Syntax.cells r1),.map (mp (mcT (nF Notation.cel)) r2),.dead,.cells (Notation.cells o4)],3,[]⟩=B X0 v0 v1 v2 v3 r1 r2 o4}:=by
 apply jM
 intro m X0 ih v0 v1 v2 v3 r1 r2 o4
 simp (config:={maxSteps:=100000000}) only[go_sem,jD,jE,jz,jA,jF,jG,jI,jJ,jK,jC,jH,jL,CK,CL,Tryd.f58,jB,mixed,pY,nM,oZ,m5,nB,nP,pR,nD,oO,vZ,ih]
 exact rfl
noncomputable def rA (X:Syntax→(List Syntax)→T3→Option (Tc×Unit)) (n:Nat):Nat→(List Syntax)→(List Str)→Int→Int→(List Syntax)→T3→Notation→Option (Tc×Unit)
 |0,_,_,_,_,_,_,_=>none
 |m+1,v0,v1,v2,v3,r1,r2,o4=>(tw X n).1 (rA X n m) v0 v1 v2 v3 r1 r2 o4
theorem A0 (X:Syntax→(List Syntax)→T3→Option (Tc×Unit)) (n:Nat): ∀ (m:Nat),(∀ (v0:List Syntax) (v1:List Str) (v2:Int) (v3:Int) (r1:List Syntax) (r2:List (Str×Notation)) (o4:Notation) (c1:Nat),c1=r1.length→run (pM X n) [.lq m [0,1,0,1,1,1],.qC 0,.cut [1,1,1,1],.at [1,1,1,1]] ⟨[.ptr 0 0,.acc 1 c1,qA,qA,qA,qA,qA,.ptr 4 0,.nE false 8 (mp Syntax.cells v0),qA,qA,qA,qA,qA,qA,qA,qA,qA,qA,qA,qA,qA,qA,qA,qA,qA,qA,.nE false 1 (mp n4 v1),.int .i64 v2,.int .i64 v3,qA,qA,qA,qA,qA,qA,qA,qA,qA,qA,qA,qA,qA,qA,qA,qA,qA,qA,qA,qA,qA,qA,qA,qA,qA,qA,qA,qA,qA,qA,qA],[.cells [.map 2],.acc true 8 (mp Syntax.cells r1),.map (mp (mcT (nF Notation.cel)) r2),.dead,.cells (Notation.cells o4)],3,[]⟩=rA X n m v0 v1 v2 v3 r1 r2 o4)
 |0=>by intros;exact nk
 |m+1=>by
  have ih:=A0 X n m
  intro v0 v1 v2 v3 r1 r2 o4 c1 ec1
  subst ec1
  rw[nq]
  exact (tw X n).2 m _ ih v0 v1 v2 v3 r1 r2 o4
noncomputable def wK (X:Syntax→(List Syntax)→T3→Option (Tc×Unit)) (n:Nat):{B:Syntax→(List Syntax)→T3→Option (Tc×Unit) // ∀ (a0:Syntax) (o0:(List Syntax)) (o1:T3),run (pM X n) [.at []] {slots:=(pY.enc (nM.lens ((),o0,o1,())) (a0,()))++jN (61-(pY.enc (nM.lens ((),o0,o1,())) (a0,())).length) qA,heap:=(nM.enc (nM.lens ((),o0,o1,())) ((),o0,o1,())),low:=(nM.enc (nM.lens ((),o0,o1,())) ((),o0,o1,())).length}=B a0 o0 o1}:=by
 apply jM
 intro a0 o0 o1
 simp (config:={maxSteps:=100000000}) only[go_sem,jD,jE,jz,jA,jF,jG,jI,jJ,jK,jC,jH,jL,CK,CL,Tryd.f58,jB,mixed,pY,nM,oZ,m5,nB,nP,pR,nD,oO,vZ,A0 X n]
 exact rfl
noncomputable def qI:Nat→Syntax→(List Syntax)→T3→Option (Tc×Unit)
 |0,_,_,_=>none
 |n+1,a0,o0,o1=>(wK (qI n) n).1 a0 o0 o1
theorem Ct: ∀ (n:Nat) (a0:Syntax) (o0:(List Syntax)) (o1:T3) (r:(Tc×Unit)),qI n a0 o0 o1=some r→Ob Tryd.prog 58 (pY.enc (nM.lens ((),o0,o1,())) (a0,())) (nM.enc (nM.lens ((),o0,o1,())) ((),o0,o1,())) (fun o H'=>o= .ret (uR ((alA 1 pP).enc (oZ.lens r.1) r.2))∧H'=oZ.enc (oZ.lens r.1) r.1)
 |0,_,_,_,_,h=>by cases h
 |n+1,a0,o0,o1,r,h=>by
  have HG:=Ct n
  exact wW (M:=pM (qI n) n) ⟨(mV (Sp (zF (fun b a r h=>(HG) a.1 b.2.1 b.2.2.1 r h))) (mV (zF (fun b a r h=>(xN n) a.1 b.2.1 r h)) (mV (zF (fun b a r h=>(yM n) a.1 a.2.1 a.2.2.1 b.2.1 r h)) mY))),mZ,nH _,nI _,oh,oH,oV,oG⟩ Tryd.func58 rfl rfl (sE (jO (of_decide_eq_true (by kernel_rfl)) (jP (nM.sz _ _).symm)) _ (pY.nb _ _)) (fun x hx=>tN (jO (of_decide_eq_true (by kernel_rfl)) (jP (nM.sz _ _).symm)) _ (nM.nb _ _ x hx)) Tryd.ntmps58 Tryd.results58 (fun σ hs=>AA (P:=Tryd.prog) (rs:=[.tmp 6]) (pos:=[]) (base:=[0,1,2]) (low:=3) (os:=oZ) (s:=(alA 1 pP)) (σ:=σ) (r:=r) (by rfl) hs) (((wK (qI n) n).2 a0 o0 o1).trans h)
noncomputable def A1:Nrm:=⟨[],[],[zK,zA,zA,zA,zT (oa p8),zK,zA,zA,zA,zA,zA,zA,zA,zA,zA,zA,zA,zA,zA,zA,zA,zA,zA,zA,zA,zA,zA,zA,zA,zA,zA,zA,zA,zA,zA,zA,zA,zA,zA,zA,zA,zA,zA,zA,zA,zA,zA,zA,zA,zA,zA,zA,zA,zA,zA,zA,zA,zA,zA,zA,zA,zA,zA,zA,zA,zA,zA,zA,zA,zA,zA,zA,zA],[],none,none⟩
noncomputable def A2:Nrm:=⟨[],[],[zK,zA,zA,zK,zA,zA,zA,zA,zA,zA,zA,zA,zA,zA,zA,zA,zA,zA,zA,zA,zA,zA,zA,zA,zA,zA,zA,zA,zA,zA,zA,zA,zA,zA,zA,zA,zA,zA,zA,zA,zA,zA,zA,zA,zA,zA,zA,zA,zA,zA,zA,zA,zA,zA,zA,zA,zA,zA,zA,zA,zA,zA,zA,zA,zA,zA,zA,zA,zA,zA,zA,zA,zA],[],none,none⟩
noncomputable def q8 (n:Nat):pO Bool where
 body:=(Tryd.f46.body).getD .skip
 P:=Tryd.prog
 cl:=om [(72,qj (o9 .u8) pe (AG n)),(73,tH sD (o9 .i64) (o9 .i64) (AZ n)),(74,qj sD pe (CH n)),(75,qj (o9 .u8) pe (G6 n)),(76,G2 (UC p8) (FT n))]
 cd:=oo []
 qT:=ot [([0,1,0,1,1,1,1,1],A1),([0,1,0,1,1,1],A2)]
 cut:=ou []
 n:=n
 out:=pW Tryd.prog [.tmp 2] pe
 qZ:=nj []
theorem Hi (n:Nat):(q8 n).P=Tryd.prog∧(q8 n).cl=om [(72,qj (o9 .u8) pe (AG n)),(73,tH sD (o9 .i64) (o9 .i64) (AZ n)),(74,qj sD pe (CH n)),(75,qj (o9 .u8) pe (G6 n)),(76,G2 (UC p8) (FT n))]∧(q8 n).cd=oo []∧(q8 n).qT=ot [([0,1,0,1,1,1,1,1],A1),([0,1,0,1,1,1],A2)]∧(q8 n).cut=ou []∧(q8 n).n=n∧(q8 n).out=pW Tryd.prog [.tmp 2] pe∧(q8 n).qZ=nj []:=⟨rfl,rfl,rfl,rfl,rfl,rfl,rfl,rfl⟩
theorem Hj (n:Nat):(q8 n).body=(Tryd.f46.body).getD .skip:=rfl
noncomputable def CX (n:Nat):{B:(Str→(List Str)→Int→Option Bool)→Str→(List Str)→Int→Option Bool // ∀m X0,(∀ (v0:Str) (v1:List Str) (v2:Int),run (q8 n) [.lq m [0,1,0,1,1,1,1,1],.qC 2,.cut [1,1,1,1,1,1],.at [1,1,1,1,1,1]] ⟨[.str (sb v0),qA,qA,qA,.nE false 1 (mp n4 v1),.int .i64 v2,qA,qA,qA,qA,qA,qA,qA,qA,qA,qA,qA,qA,qA,qA,qA,qA,qA,qA,qA,qA,qA,qA,qA,qA,qA,qA,qA,qA,qA,qA,qA,qA,qA,qA,qA,qA,qA,qA,qA,qA,qA,qA,qA,qA,qA,qA,qA,qA,qA,qA,qA,qA,qA,qA,qA,qA,qA,qA,qA,qA,qA,qA,qA,qA,qA,qA,qA],[],0,[]⟩=X0 v0 v1 v2)→ ∀ (v0:Str) (v1:List Str) (v2:Int),run (q8 n) [.at [0,0,1,0,1,1,1,1,1],.lp m [0,1,0,1,1,1,1,1],.qC 2,.cut [1,1,1,1,1,1],.at [1,1,1,1,1,1]] ⟨[.str (sb v0),qA,qA,qA,.nE false 1 (mp n4 v1),.int .i64 v2,qA,qA,qA,qA,qA,qA,qA,qA,qA,qA,qA,qA,qA,qA,qA,qA,qA,qA,qA,qA,qA,qA,qA,qA,qA,qA,qA,qA,qA,qA,qA,qA,qA,qA,qA,qA,qA,qA,qA,qA,qA,qA,qA,qA,qA,qA,qA,qA,qA,qA,qA,qA,qA,qA,qA,qA,qA,qA,qA,qA,qA,qA,qA,qA,qA,qA,qA],[],0,[]⟩=B X0 v0 v1 v2}:=by
 apply jM
 intro m X0 ih v0 v1 v2
 simp (config:={maxSteps:=100000000}) only[go_sem,jD,jE,jz,jA,jF,jG,jI,jJ,jK,jC,jH,jL,Hi,Hj,Tryd.f46,jB,mixed,A1,A2,ih]
 exact rfl
noncomputable def xj (n:Nat):Nat→Str→(List Str)→Int→Option Bool
 |0,_,_,_=>none
 |m+1,v0,v1,v2=>(CX n).1 (xj n m) v0 v1 v2
theorem Df (n:Nat): ∀ (m:Nat),(∀ (v0:Str) (v1:List Str) (v2:Int),run (q8 n) [.lq m [0,1,0,1,1,1,1,1],.qC 2,.cut [1,1,1,1,1,1],.at [1,1,1,1,1,1]] ⟨[.str (sb v0),qA,qA,qA,.nE false 1 (mp n4 v1),.int .i64 v2,qA,qA,qA,qA,qA,qA,qA,qA,qA,qA,qA,qA,qA,qA,qA,qA,qA,qA,qA,qA,qA,qA,qA,qA,qA,qA,qA,qA,qA,qA,qA,qA,qA,qA,qA,qA,qA,qA,qA,qA,qA,qA,qA,qA,qA,qA,qA,qA,qA,qA,qA,qA,qA,qA,qA,qA,qA,qA,qA,qA,qA,qA,qA,qA,qA,qA,qA],[],0,[]⟩=xj n m v0 v1 v2)
 |0=>by intros;exact nk
 |m+1=>by
  have ih:=Df n m
  intro v0 v1 v2
  rw[nq]
  exact (CX n).2 m _ ih v0 v1 v2
noncomputable def CY (n:Nat):{B:(Str→Int→Option Bool)→Str→Int→Option Bool // ∀m X0,(∀ (v0:Str) (v1:Int),run (q8 n) [.lq m [0,1,0,1,1,1],.qC 0,.cut [1,1,1,1],.at [1,1,1,1]] ⟨[.str (sb v0),qA,qA,.int .i64 v1,qA,qA,qA,qA,qA,qA,qA,qA,qA,qA,qA,qA,qA,qA,qA,qA,qA,qA,qA,qA,qA,qA,qA,qA,qA,qA,qA,qA,qA,qA,qA,qA,qA,qA,qA,qA,qA,qA,qA,qA,qA,qA,qA,qA,qA,qA,qA,qA,qA,qA,qA,qA,qA,qA,qA,qA,qA,qA,qA,qA,qA,qA,qA,qA,qA,qA,qA,qA,qA],[],0,[]⟩=X0 v0 v1)→ ∀ (v0:Str) (v1:Int),run (q8 n) [.at [0,0,1,0,1,1,1],.lp m [0,1,0,1,1,1],.qC 0,.cut [1,1,1,1],.at [1,1,1,1]] ⟨[.str (sb v0),qA,qA,.int .i64 v1,qA,qA,qA,qA,qA,qA,qA,qA,qA,qA,qA,qA,qA,qA,qA,qA,qA,qA,qA,qA,qA,qA,qA,qA,qA,qA,qA,qA,qA,qA,qA,qA,qA,qA,qA,qA,qA,qA,qA,qA,qA,qA,qA,qA,qA,qA,qA,qA,qA,qA,qA,qA,qA,qA,qA,qA,qA,qA,qA,qA,qA,qA,qA,qA,qA,qA,qA,qA,qA],[],0,[]⟩=B X0 v0 v1}:=by
 apply jM
 intro m X0 ih v0 v1
 simp (config:={maxSteps:=100000000}) only[go_sem,jD,jE,jz,jA,jF,jG,jI,jJ,jK,jC,jH,jL,Hi,Hj,Tryd.f46,jB,mixed,A1,A2,Df n,ih]
 exact rfl
noncomputable def yO (n:Nat):Nat→Str→Int→Option Bool
 |0,_,_=>none
 |m+1,v0,v1=>(CY n).1 (yO n m) v0 v1
theorem Hl (n:Nat): ∀ (m:Nat),(∀ (v0:Str) (v1:Int),run (q8 n) [.lq m [0,1,0,1,1,1],.qC 0,.cut [1,1,1,1],.at [1,1,1,1]] ⟨[.str (sb v0),qA,qA,.int .i64 v1,qA,qA,qA,qA,qA,qA,qA,qA,qA,qA,qA,qA,qA,qA,qA,qA,qA,qA,qA,qA,qA,qA,qA,qA,qA,qA,qA,qA,qA,qA,qA,qA,qA,qA,qA,qA,qA,qA,qA,qA,qA,qA,qA,qA,qA,qA,qA,qA,qA,qA,qA,qA,qA,qA,qA,qA,qA,qA,qA,qA,qA,qA,qA,qA,qA,qA,qA,qA,qA],[],0,[]⟩=yO n m v0 v1)
 |0=>by intros;exact nk
 |m+1=>by
  have ih:=Hl n m
  intro v0 v1
  rw[nq]
  exact (CY n).2 m _ ih v0 v1
noncomputable def Ho (n:Nat):{B:Str→Option Bool // ∀ (a0:Str),run (q8 n) [.at []] {slots:=[sD.enc a0]++jN (73-[sD.enc a0].length) qA,heap:=[]}=B a0}:=by
 apply jM
 intro a0
 simp (config:={maxSteps:=100000000}) only[go_sem,jD,jE,jz,jA,jF,jG,jI,jJ,jK,jC,jH,jL,Hi,Hj,Tryd.f46,jB,mixed,A1,A2,Df n,Hl n]
 exact rfl
noncomputable def El:Nat→Str→Option Bool
 |0,_=>none
 |n+1,a0=>(Ho n).1 a0
theorem Rd: ∀ (n:Nat) (a0:Str) (r:Bool),El n a0=some r→xS Tryd.prog 46 [sD.enc a0] (fun v=>v=pe.enc r)
 |0,_,_,h=>by cases h
 |n+1,a0,r,h=>by
  exact pL (M:=q8 n) ⟨(mV (qi (K8 n)) (mV (uH (NO n)) (mV (qi (PF n)) (mV (qi (UL n)) (mV (Kc (SL n)) mY))))),mZ,nH _,nI _,oh,oH,oV,oG⟩ Tryd.func46 rfl rfl ⟨sD.nb 0 _,trivial⟩ Tryd.ntmps46 Tryd.results46 (fun σ hs=>pz (P:=Tryd.prog) (rs:=[.tmp 2]) (t:=pe) (σ:=σ) (r:=r) hs) (((Ho n).2 a0).trans h)
noncomputable def yE:Nrm:=⟨[],[],[zK,zK,zA,zA,zK,zA,zK,zK,zA,zA,zA,zA,zA,zA,zA,zA,zA,zA,zA,zA,zA,zA,zA,zA,zA,zA,zA,zA,zA,zA,zA,zA,zA,zA,zA,zA,zA,zA,zA,zA,zA,zA,zA,zA,zA,zA,zA,zA,zA,zA,zA,zA,zA,zA,zA,zA,zA,zA,zA,zA,zA,zA,zA,zA,zA,zA,zA,zA,zA],[oT mO.cel,oK,oT Syntax.cel],none,none⟩
noncomputable def p6:AL Td:=(tI 0 (qy (nF Notation.cel) (qy (o9 .i64) (qy (UC Syntax.row) (qy (o9 .i64) pP)))))
noncomputable def nV:OL (Tj×Unit):=(sZ (BF (Y4 mO.cel 4 pP)) wX)
noncomputable def pQ:OL (Tj×Unit):=(sZ (BF (Y4 mO.cel 4 pP)) wX)
noncomputable def qb (mR:mO→Int→Option T6) (mS:mO→Int→Option T6) (mQ:Notation→Int→(List Syntax)→Int→mO→Option T9) (n:Nat):pO T6 where
 body:=(Tryd.f54.body).getD .skip
 P:=Tryd.prog
 cl:=om [(83,entG [0] (B9 (ID mO.cel) Ba) (Uu 0 (Ue (o9 .i64) Mo)) (B9 (ID mO.cel) Ba) (Jw (nF Syntax.cel) (Jw (o9 .i64) Kf)) (fun (b:Tj) a=>mS b.1 a.1)),(84,entG [0] (B9 (ID mO.cel) Ba) (Uu 0 Mo) (B9 (ID mO.cel) Ba) (Jw sD (Jw pe Kf)) (fun (b:Tj) a=>(uQ n) b.1)),(85,Lz (oa Notation.row) sD pe (K0 (nF Notation.cel) pe) (BP n)),(86,tH (nF Notation.cel) (o9 .i64) (o9 .i64) (De n)),(87,entX [.arg 0 []] nV p6 pQ (qy (nF Syntax.cel) pP) (fun (b:(Tj×Unit)) (a:Td)=>mQ a.1 a.2.1 a.2.2.1 a.2.2.2.1 b.1.1))]
 cd:=oo []
 qT:=ot [([0,0,1,1,1],yE)]
 cut:=ou []
 n:=n
 out:=outG Tryd.prog [.cell 4 36,.tmp 5] (B9 (ID mO.cel) Ba) (Jw (nF Syntax.cel) (Jw (o9 .i64) Kf)) 1
 qZ:=nj []
theorem FY (mR:mO→Int→Option T6) (mS:mO→Int→Option T6) (mQ:Notation→Int→(List Syntax)→Int→mO→Option T9) (n:Nat):(qb mR mS mQ n).P=Tryd.prog∧(qb mR mS mQ n).cl=om [(83,entG [0] (B9 (ID mO.cel) Ba) (Uu 0 (Ue (o9 .i64) Mo)) (B9 (ID mO.cel) Ba) (Jw (nF Syntax.cel) (Jw (o9 .i64) Kf)) (fun (b:Tj) a=>mS b.1 a.1)),(84,entG [0] (B9 (ID mO.cel) Ba) (Uu 0 Mo) (B9 (ID mO.cel) Ba) (Jw sD (Jw pe Kf)) (fun (b:Tj) a=>(uQ n) b.1)),(85,Lz (oa Notation.row) sD pe (K0 (nF Notation.cel) pe) (BP n)),(86,tH (nF Notation.cel) (o9 .i64) (o9 .i64) (De n)),(87,entX [.arg 0 []] nV p6 pQ (qy (nF Syntax.cel) pP) (fun (b:(Tj×Unit)) (a:Td)=>mQ a.1 a.2.1 a.2.2.1 a.2.2.2.1 b.1.1))]∧(qb mR mS mQ n).cd=oo []∧(qb mR mS mQ n).qT=ot [([0,0,1,1,1],yE)]∧(qb mR mS mQ n).cut=ou []∧(qb mR mS mQ n).n=n∧(qb mR mS mQ n).out=outG Tryd.prog [.cell 4 36,.tmp 5] (B9 (ID mO.cel) Ba) (Jw (nF Syntax.cel) (Jw (o9 .i64) Kf)) 1∧(qb mR mS mQ n).qZ=nj []:=⟨rfl,rfl,rfl,rfl,rfl,rfl,rfl,rfl⟩
theorem FZ (mR:mO→Int→Option T6) (mS:mO→Int→Option T6) (mQ:Notation→Int→(List Syntax)→Int→mO→Option T9) (n:Nat):(qb mR mS mQ n).body=(Tryd.f54.body).getD .skip:=rfl
noncomputable def tT (mR:mO→Int→Option T6) (mS:mO→Int→Option T6) (mQ:Notation→Int→(List Syntax)→Int→mO→Option T9) (n:Nat):{B:(Int→Int→mO→Syntax→Option T6)→Int→Int→mO→Syntax→Option T6 // ∀m X0,(∀ (v0:Int) (v1:Int) (o0:mO) (o2:Syntax),run (qb mR mS mQ n) [.lq m [0,0,1,1,1],.qC 0,.cut [1,1,1,1],.at [1,1,1,1]] ⟨[.ptr 0 0,.int .i64 v0,qA,qA,.ptr 1 0,qA,.ptr 2 0,.int .i64 v1,qA,qA,qA,qA,qA,qA,qA,qA,qA,qA,qA,qA,qA,qA,qA,qA,qA,qA,qA,qA,qA,qA,qA,qA,qA,qA,qA,qA,qA,qA,qA,qA,qA,qA,qA,qA,qA,qA,qA,qA,qA,qA,qA,qA,qA,qA,qA,qA,qA,qA,qA,qA,qA,qA,qA,qA,qA,qA,qA,qA,qA],[.cells (mO.cells o0),.cells [.int .i64 0,.str (sb []),.int .i64 0,.nE true 0 [],.nE true 0 [],.nE true 0 [],.int .i64 0,.int .i64 0],.cells (Syntax.cells o2)],1,[]⟩=X0 v0 v1 o0 o2)→ ∀ (v0:Int) (v1:Int) (o0:mO) (o2:Syntax),run (qb mR mS mQ n) [.at [0,0,0,1,1,1],.lp m [0,0,1,1,1],.qC 0,.cut [1,1,1,1],.at [1,1,1,1]] ⟨[.ptr 0 0,.int .i64 v0,qA,qA,.ptr 1 0,qA,.ptr 2 0,.int .i64 v1,qA,qA,qA,qA,qA,qA,qA,qA,qA,qA,qA,qA,qA,qA,qA,qA,qA,qA,qA,qA,qA,qA,qA,qA,qA,qA,qA,qA,qA,qA,qA,qA,qA,qA,qA,qA,qA,qA,qA,qA,qA,qA,qA,qA,qA,qA,qA,qA,qA,qA,qA,qA,qA,qA,qA,qA,qA,qA,qA,qA,qA],[.cells (mO.cells o0),.cells [.int .i64 0,.str (sb []),.int .i64 0,.nE true 0 [],.nE true 0 [],.nE true 0 [],.int .i64 0,.int .i64 0],.cells (Syntax.cells o2)],1,[]⟩=B X0 v0 v1 o0 o2}:=by
 apply jM
 intro m X0 ih v0 v1 o0 o2
 simp (config:={maxSteps:=100000000}) only[go_sem,jD,jE,jz,jA,jF,jG,jI,jJ,jK,jC,jH,jL,FY,FZ,Tryd.f54,jB,mixed,p6,nV,pQ,yE,ih]
 exact rfl
noncomputable def qg (mR:mO→Int→Option T6) (mS:mO→Int→Option T6) (mQ:Notation→Int→(List Syntax)→Int→mO→Option T9) (n:Nat):Nat→Int→Int→mO→Syntax→Option T6
 |0,_,_,_,_=>none
 |m+1,v0,v1,o0,o2=>(tT mR mS mQ n).1 (qg mR mS mQ n m) v0 v1 o0 o2
theorem CM (mR:mO→Int→Option T6) (mS:mO→Int→Option T6) (mQ:Notation→Int→(List Syntax)→Int→mO→Option T9) (n:Nat): ∀ (m:Nat),(∀ (v0:Int) (v1:Int) (o0:mO) (o2:Syntax),run (qb mR mS mQ n) [.lq m [0,0,1,1,1],.qC 0,.cut [1,1,1,1],.at [1,1,1,1]] ⟨[.ptr 0 0,.int .i64 v0,qA,qA,.ptr 1 0,qA,.ptr 2 0,.int .i64 v1,qA,qA,qA,qA,qA,qA,qA,qA,qA,qA,qA,qA,qA,qA,qA,qA,qA,qA,qA,qA,qA,qA,qA,qA,qA,qA,qA,qA,qA,qA,qA,qA,qA,qA,qA,qA,qA,qA,qA,qA,qA,qA,qA,qA,qA,qA,qA,qA,qA,qA,qA,qA,qA,qA,qA,qA,qA,qA,qA,qA,qA],[.cells (mO.cells o0),.cells [.int .i64 0,.str (sb []),.int .i64 0,.nE true 0 [],.nE true 0 [],.nE true 0 [],.int .i64 0,.int .i64 0],.cells (Syntax.cells o2)],1,[]⟩=qg mR mS mQ n m v0 v1 o0 o2)
 |0=>by intros;exact nk
 |m+1=>by
  have ih:=CM mR mS mQ n m
  intro v0 v1 o0 o2
  rw[nq]
  exact (tT mR mS mQ n).2 m _ ih v0 v1 o0 o2
noncomputable def y9 (mR:mO→Int→Option T6) (mS:mO→Int→Option T6) (mQ:Notation→Int→(List Syntax)→Int→mO→Option T9) (n:Nat):{B:mO→Int→Option T6 // ∀ (a0:mO) (a1:Int),run (qb mR mS mQ n) [.at []] {slots:=((Uu 0 (Ue (o9 .i64) Mo)).enc (a0,()) (a1,()))++jN (69-((Uu 0 (Ue (o9 .i64) Mo)).enc (a0,()) (a1,())).length) qA,heap:=((B9 (ID mO.cel) Ba).enc (a0,())),low:=((B9 (ID mO.cel) Ba).enc (a0,())).length}=B a0 a1}:=by
 apply jM
 intro a0 a1
 simp (config:={maxSteps:=100000000}) only[go_sem,jD,jE,jz,jA,jF,jG,jI,jJ,jK,jC,jH,jL,FY,FZ,Tryd.f54,jB,mixed,p6,nV,pQ,yE,CM mR mS mQ n]
 exact rfl
noncomputable def nL (mR:mO→Int→Option T6) (mS:mO→Int→Option T6) (mQ:Notation→Int→(List Syntax)→Int→mO→Option T9) (n:Nat):pO T6 where
 body:=(Tryd.f83.body).getD .skip
 P:=Tryd.prog
 cl:=om [(48,qj (nF Notation.cel) pe (yZ n)),(87,entX [.arg 0 []] nV p6 pQ (qy (nF Syntax.cel) pP) (fun (b:(Tj×Unit)) (a:Td)=>mQ a.1 a.2.1 a.2.2.1 a.2.2.2.1 b.1.1))]
 cd:=oo [(85,vY (Lz (oa Notation.row) sD pe (K0 (nF Notation.cel) pe) (BP n)))]
 qT:=ot []
 cut:=ou []
 n:=n
 out:=outG Tryd.prog [.cell 4 36,.tmp 5] (B9 (ID mO.cel) Ba) (Jw (nF Syntax.cel) (Jw (o9 .i64) Kf)) 1
 qZ:=nj []
 Ay:=nj []
 Ax:=nj []
theorem LQ (mR:mO→Int→Option T6) (mS:mO→Int→Option T6) (mQ:Notation→Int→(List Syntax)→Int→mO→Option T9) (n:Nat):(nL mR mS mQ n).P=Tryd.prog∧(nL mR mS mQ n).cl=om [(48,qj (nF Notation.cel) pe (yZ n)),(87,entX [.arg 0 []] nV p6 pQ (qy (nF Syntax.cel) pP) (fun (b:(Tj×Unit)) (a:Td)=>mQ a.1 a.2.1 a.2.2.1 a.2.2.2.1 b.1.1))]∧(nL mR mS mQ n).cd=oo [(85,vY (Lz (oa Notation.row) sD pe (K0 (nF Notation.cel) pe) (BP n)))]∧(nL mR mS mQ n).qT=ot []∧(nL mR mS mQ n).cut=ou []∧(nL mR mS mQ n).n=n∧(nL mR mS mQ n).out=outG Tryd.prog [.cell 4 36,.tmp 5] (B9 (ID mO.cel) Ba) (Jw (nF Syntax.cel) (Jw (o9 .i64) Kf)) 1∧(nL mR mS mQ n).qZ=nj []∧(nL mR mS mQ n).Ay=nj []∧(nL mR mS mQ n).Ax=nj []:=⟨rfl,rfl,rfl,rfl,rfl,rfl,rfl,rfl,rfl,rfl⟩
theorem LR (mR:mO→Int→Option T6) (mS:mO→Int→Option T6) (mQ:Notation→Int→(List Syntax)→Int→mO→Option T9) (n:Nat):(nL mR mS mQ n).body=(Tryd.f83.body).getD .skip:=rfl
theorem LS (mR:mO→Int→Option T6) (mS:mO→Int→Option T6) (mQ:Notation→Int→(List Syntax)→Int→mO→Option T9) (n:Nat):tY (nL mR mS mQ n) [0,0,1]=true∧tY (nL mR mS mQ n) [0,0,1,0,1,1,1,1,1,1,1]=true∧tY (nL mR mS mQ n) [0,1,1]=true∧tY (nL mR mS mQ n) [0,1,1,1,1]=true:=⟨by kernel_rfl,by kernel_rfl,by kernel_rfl,by kernel_rfl⟩
theorem LU (mR:mO→Int→Option T6) (mS:mO→Int→Option T6) (mQ:Notation→Int→(List Syntax)→Int→mO→Option T9) (n:Nat):sX (nL mR mS mQ n) [0,0,1,0,1,1,1,1,1,1,1] 0 3=true∧sX (nL mR mS mQ n) [0,1,1] 3 11=true∧sX (nL mR mS mQ n) [0,1,1] 7 11=true∧sX (nL mR mS mQ n) [0,1,1] 8 11=true∧sX (nL mR mS mQ n) [0,1,1] 9 11=true∧sX (nL mR mS mQ n) [0,1,1] 10 11=true∧sX (nL mR mS mQ n) [0,1,1,1,1] 3 11=true∧sX (nL mR mS mQ n) [0,1,1,1,1] 5 11=true∧sX (nL mR mS mQ n) [0,1,1,1,1] 10 11=true:=⟨by kernel_rfl,by kernel_rfl,by kernel_rfl,by kernel_rfl,by kernel_rfl,by kernel_rfl,by kernel_rfl,by kernel_rfl,by kernel_rfl⟩
noncomputable def uF (mR:mO→Int→Option T6) (mS:mO→Int→Option T6) (mQ:Notation→Int→(List Syntax)→Int→mO→Option T9) (n:Nat):{B:mO→Int→Option T6 // ∀ (a0:mO) (a1:Int),run (nL mR mS mQ n) [.at []] {slots:=((Uu 0 (Ue (o9 .i64) Mo)).enc (a0,()) (a1,()))++jN (82-((Uu 0 (Ue (o9 .i64) Mo)).enc (a0,()) (a1,())).length) qA,heap:=((B9 (ID mO.cel) Ba).enc (a0,())),low:=((B9 (ID mO.cel) Ba).enc (a0,())).length}=B a0 a1}:=by
 apply jM
 intro a0 a1
 simp (config:={maxSteps:=100000000}) only[go_sem,jD,jE,jz,jA,jF,jG,jI,jJ,jK,jC,jH,jL,LQ,LR,Tryd.f83,jB,mixed,p6,nV,pQ,LS,LU]
 exact rfl
noncomputable def wk:Nrm:=⟨[],[],[zK,zA,zA,zK,zK,zA,zK,zA,zA,zA,zK,zK,zK,zA,zA,zA,zA,zA,zA,zA,zA,zA,zA,zA,zA,zA,zA,zA,zA,zA,zA,zA,zA,zA,zA,zA,zA,zA,zA,zA,zA,zA,zA,zA,zA,zA,zA,zA,zA,zA,zA,zA,zA,zA,zA,zA,zA,zA,zA,zA,zA,zA,zA,zA,zA,zA,zA,zA,zA,zA,zA,zA,zA,zA,zA,zA,zA,zA,zA,zA,zA,zA,zA,zA,zA,zA,zA,zA,zA,zA,zA,zA,zA,zA],[oT mO.cel,oT Notation.cel,oK,oD,oA Syntax.row],none,none⟩
noncomputable def wm:Nrm:=⟨[],[],[zK,zA,zA,zL Syntax.row,zK,zA,zK,zA,zA,zA,zK,zK,zK,zA,zA,zA,zA,zA,zA,zA,zA,zA,zA,zA,zA,zA,zA,zA,zA,zA,zA,zA,zA,zA,zA,zA,zA,zA,zA,zA,zA,zA,zA,zA,zA,zA,zA,zA,zA,zA,zA,zA,zA,zA,zA,zA,zA,zA,zA,zA,zA,zA,zA,zA,zA,zA,zA,zA,zA,zA,zA,zA,zA,zA,zA,zA,zA,zA,zA,zA,zA,zA,zA,zA,zA,zA,zA,zA,zA,zA,zA,zA,zA,zA],[oT mO.cel,oT Notation.cel,oK],(some 3),none⟩
noncomputable def oB (mR:mO→Int→Option T6) (mS:mO→Int→Option T6) (mQ:Notation→Int→(List Syntax)→Int→mO→Option T9) (n:Nat):pO T9 where
 body:=(Tryd.f87.body).getD .skip
 P:=Tryd.prog
 cl:=om [(54,entG [0] (B9 (ID mO.cel) Ba) (Uu 0 (Ue (o9 .i64) Mo)) (B9 (ID mO.cel) Ba) (Jw (nF Syntax.cel) (Jw (o9 .i64) Kf)) (fun (b:Tj) a=>mR b.1 a.1)),(84,entG [0] (B9 (ID mO.cel) Ba) (Uu 0 Mo) (B9 (ID mO.cel) Ba) (Jw sD (Jw pe Kf)) (fun (b:Tj) a=>(uQ n) b.1)),(86,tH (nF Notation.cel) (o9 .i64) (o9 .i64) (De n)),(102,ent4 (nF Notation.cel) (oa Syntax.row) (o9 .i64) (o9 .i64) (nF Syntax.cel) (FU n))]
 cd:=oo []
 qT:=ot [([0,1,0,1,1],wm),([0,1,0,1,1],wk)]
 cut:=ou []
 n:=n
 out:=Ca Tryd.prog [.cell 10 36] [] [0] 1 pQ (qy (nF Syntax.cel) pP)
 qZ:=nj []
 Ay:=nj []
 Ax:=nj []
theorem BQ (mR:mO→Int→Option T6) (mS:mO→Int→Option T6) (mQ:Notation→Int→(List Syntax)→Int→mO→Option T9) (n:Nat):(oB mR mS mQ n).P=Tryd.prog∧(oB mR mS mQ n).cl=om [(54,entG [0] (B9 (ID mO.cel) Ba) (Uu 0 (Ue (o9 .i64) Mo)) (B9 (ID mO.cel) Ba) (Jw (nF Syntax.cel) (Jw (o9 .i64) Kf)) (fun (b:Tj) a=>mR b.1 a.1)),(84,entG [0] (B9 (ID mO.cel) Ba) (Uu 0 Mo) (B9 (ID mO.cel) Ba) (Jw sD (Jw pe Kf)) (fun (b:Tj) a=>(uQ n) b.1)),(86,tH (nF Notation.cel) (o9 .i64) (o9 .i64) (De n)),(102,ent4 (nF Notation.cel) (oa Syntax.row) (o9 .i64) (o9 .i64) (nF Syntax.cel) (FU n))]∧(oB mR mS mQ n).cd=oo []∧(oB mR mS mQ n).qT=ot [([0,1,0,1,1],wm),([0,1,0,1,1],wk)]∧(oB mR mS mQ n).cut=ou []∧(oB mR mS mQ n).n=n∧(oB mR mS mQ n).out=Ca Tryd.prog [.cell 10 36] [] [0] 1 pQ (qy (nF Syntax.cel) pP)∧(oB mR mS mQ n).qZ=nj []∧(oB mR mS mQ n).Ay=nj []∧(oB mR mS mQ n).Ax=nj []:=⟨rfl,rfl,rfl,rfl,rfl,rfl,rfl,rfl,rfl,rfl⟩
theorem BR (mR:mO→Int→Option T6) (mS:mO→Int→Option T6) (mQ:Notation→Int→(List Syntax)→Int→mO→Option T9) (n:Nat):(oB mR mS mQ n).body=(Tryd.f87.body).getD .skip:=rfl
theorem BS (mR:mO→Int→Option T6) (mS:mO→Int→Option T6) (mQ:Notation→Int→(List Syntax)→Int→mO→Option T9) (n:Nat):tY (oB mR mS mQ n) [0,1,1,1,0,0,1,0,0,1,0,1,1]=true:=by kernel_rfl
noncomputable def sG (mR:mO→Int→Option T6) (mS:mO→Int→Option T6) (mQ:Notation→Int→(List Syntax)→Int→mO→Option T9) (n:Nat):{B:(Int→Int→Int→mO→Notation→(List Syntax)→Option T9)→Int→Int→Int→mO→Notation→(List Syntax)→Option T9 // ∀m X0,(∀ (v0:Int) (v1:Int) (v2:Int) (o0:mO) (o1:Notation) (r4:List Syntax) (c4:Nat),c4=r4.length→run (oB mR mS mQ n) [.lq m [0,1,0,1,1],.qC 0,.cut [1,1,1],.at [1,1,1]] ⟨[.ptr 0 0,qA,qA,.acc 4 c4,.int .i64 v0,qA,.ptr 1 0,qA,qA,qA,.ptr 2 0,.int .i64 v1,.int .i64 v2,qA,qA,qA,qA,qA,qA,qA,qA,qA,qA,qA,qA,qA,qA,qA,qA,qA,qA,qA,qA,qA,qA,qA,qA,qA,qA,qA,qA,qA,qA,qA,qA,qA,qA,qA,qA,qA,qA,qA,qA,qA,qA,qA,qA,qA,qA,qA,qA,qA,qA,qA,qA,qA,qA,qA,qA,qA,qA,qA,qA,qA,qA,qA,qA,qA,qA,qA,qA,qA,qA,qA,qA,qA,qA,qA,qA,qA,qA,qA,qA,qA],[.cells (mO.cells o0),.cells (Notation.cells o1),.cells [.int .i64 0,.str (sb []),.int .i64 0,.nE true 0 [],.nE true 0 [],.nE true 0 [],.int .i64 0,.int .i64 0],.dead,.acc true 8 (mp Syntax.cells r4)],1,[]⟩=X0 v0 v1 v2 o0 o1 r4)→ ∀ (v0:Int) (v1:Int) (v2:Int) (o0:mO) (o1:Notation) (r4:List Syntax),run (oB mR mS mQ n) [.at [0,0,1,0,1,1],.lp m [0,1,0,1,1],.qC 0,.cut [1,1,1],.at [1,1,1]] ⟨[.ptr 0 0,qA,qA,.acc 4 r4.length,.int .i64 v0,qA,.ptr 1 0,qA,qA,qA,.ptr 2 0,.int .i64 v1,.int .i64 v2,qA,qA,qA,qA,qA,qA,qA,qA,qA,qA,qA,qA,qA,qA,qA,qA,qA,qA,qA,qA,qA,qA,qA,qA,qA,qA,qA,qA,qA,qA,qA,qA,qA,qA,qA,qA,qA,qA,qA,qA,qA,qA,qA,qA,qA,qA,qA,qA,qA,qA,qA,qA,qA,qA,qA,qA,qA,qA,qA,qA,qA,qA,qA,qA,qA,qA,qA,qA,qA,qA,qA,qA,qA,qA,qA,qA,qA,qA,qA,qA,qA],[.cells (mO.cells o0),.cells (Notation.cells o1),.cells [.int .i64 0,.str (sb []),.int .i64 0,.nE true 0 [],.nE true 0 [],.nE true 0 [],.int .i64 0,.int .i64 0],.dead,.acc true 8 (mp Syntax.cells r4)],1,[]⟩=B X0 v0 v1 v2 o0 o1 r4}:=by
 apply jM
 intro m X0 ih v0 v1 v2 o0 o1 r4
 simp (config:={maxSteps:=100000000}) only[go_sem,jD,jE,jz,jA,jF,jG,jI,jJ,jK,jC,jH,jL,BQ,BR,Tryd.f87,jB,mixed,p6,nV,pQ,BS,wk,wm,ih]
 exact rfl
noncomputable def rz (mR:mO→Int→Option T6) (mS:mO→Int→Option T6) (mQ:Notation→Int→(List Syntax)→Int→mO→Option T9) (n:Nat):Nat→Int→Int→Int→mO→Notation→(List Syntax)→Option T9
 |0,_,_,_,_,_,_=>none
 |m+1,v0,v1,v2,o0,o1,r4=>(sG mR mS mQ n).1 (rz mR mS mQ n m) v0 v1 v2 o0 o1 r4
theorem zx (mR:mO→Int→Option T6) (mS:mO→Int→Option T6) (mQ:Notation→Int→(List Syntax)→Int→mO→Option T9) (n:Nat): ∀ (m:Nat),(∀ (v0:Int) (v1:Int) (v2:Int) (o0:mO) (o1:Notation) (r4:List Syntax) (c4:Nat),c4=r4.length→run (oB mR mS mQ n) [.lq m [0,1,0,1,1],.qC 0,.cut [1,1,1],.at [1,1,1]] ⟨[.ptr 0 0,qA,qA,.acc 4 c4,.int .i64 v0,qA,.ptr 1 0,qA,qA,qA,.ptr 2 0,.int .i64 v1,.int .i64 v2,qA,qA,qA,qA,qA,qA,qA,qA,qA,qA,qA,qA,qA,qA,qA,qA,qA,qA,qA,qA,qA,qA,qA,qA,qA,qA,qA,qA,qA,qA,qA,qA,qA,qA,qA,qA,qA,qA,qA,qA,qA,qA,qA,qA,qA,qA,qA,qA,qA,qA,qA,qA,qA,qA,qA,qA,qA,qA,qA,qA,qA,qA,qA,qA,qA,qA,qA,qA,qA,qA,qA,qA,qA,qA,qA,qA,qA,qA,qA,qA,qA],[.cells (mO.cells o0),.cells (Notation.cells o1),.cells [.int .i64 0,.str (sb []),.int .i64 0,.nE true 0 [],.nE true 0 [],.nE true 0 [],.int .i64 0,.int .i64 0],.dead,.acc true 8 (mp Syntax.cells r4)],1,[]⟩=rz mR mS mQ n m v0 v1 v2 o0 o1 r4)
 |0=>by intros;exact nk
 |m+1=>by
  have ih:=zx mR mS mQ n m
  intro v0 v1 v2 o0 o1 r4 c4 ec4
  subst ec4
  rw[nq]
  exact (sG mR mS mQ n).2 m _ ih v0 v1 v2 o0 o1 r4
noncomputable def tU (mR:mO→Int→Option T6) (mS:mO→Int→Option T6) (mQ:Notation→Int→(List Syntax)→Int→mO→Option T9) (n:Nat):{B:Nat→((List Syntax)→Int→Int→Int→mO→Notation→Option T9)→(List Syntax)→Int→Int→Int→mO→Notation→Option T9 // ∀m X0,(∀ (v0:List Syntax) (v1:Int) (v2:Int) (v3:Int) (o0:mO) (o1:Notation),run (oB mR mS mQ n) [.lq m [0,1,0,1,1],.qC 0,.cut [1,1,1],.at [1,1,1]] ⟨[.ptr 0 0,qA,qA,.nE true 8 (mp Syntax.cells v0),.int .i64 v1,qA,.ptr 1 0,qA,qA,qA,.ptr 2 0,.int .i64 v2,.int .i64 v3,qA,qA,qA,qA,qA,qA,qA,qA,qA,qA,qA,qA,qA,qA,qA,qA,qA,qA,qA,qA,qA,qA,qA,qA,qA,qA,qA,qA,qA,qA,qA,qA,qA,qA,qA,qA,qA,qA,qA,qA,qA,qA,qA,qA,qA,qA,qA,qA,qA,qA,qA,qA,qA,qA,qA,qA,qA,qA,qA,qA,qA,qA,qA,qA,qA,qA,qA,qA,qA,qA,qA,qA,qA,qA,qA,qA,qA,qA,qA,qA,qA],[.cells (mO.cells o0),.cells (Notation.cells o1),.cells [.int .i64 0,.str (sb []),.int .i64 0,.nE true 0 [],.nE true 0 [],.nE true 0 [],.int .i64 0,.int .i64 0]],1,[]⟩=X0 v0 v1 v2 v3 o0 o1)→ ∀ (v0:List Syntax) (v1:Int) (v2:Int) (v3:Int) (o0:mO) (o1:Notation),run (oB mR mS mQ n) [.at [0,0,1,0,1,1],.lp m [0,1,0,1,1],.qC 0,.cut [1,1,1],.at [1,1,1]] ⟨[.ptr 0 0,qA,qA,.nE true 8 (mp Syntax.cells v0),.int .i64 v1,qA,.ptr 1 0,qA,qA,qA,.ptr 2 0,.int .i64 v2,.int .i64 v3,qA,qA,qA,qA,qA,qA,qA,qA,qA,qA,qA,qA,qA,qA,qA,qA,qA,qA,qA,qA,qA,qA,qA,qA,qA,qA,qA,qA,qA,qA,qA,qA,qA,qA,qA,qA,qA,qA,qA,qA,qA,qA,qA,qA,qA,qA,qA,qA,qA,qA,qA,qA,qA,qA,qA,qA,qA,qA,qA,qA,qA,qA,qA,qA,qA,qA,qA,qA,qA,qA,qA,qA,qA,qA,qA,qA,qA,qA,qA,qA,qA],[.cells (mO.cells o0),.cells (Notation.cells o1),.cells [.int .i64 0,.str (sb []),.int .i64 0,.nE true 0 [],.nE true 0 [],.nE true 0 [],.int .i64 0,.int .i64 0]],1,[]⟩=B m X0 v0 v1 v2 v3 o0 o1}:=by
 apply jM
 intro m X0 ih v0 v1 v2 v3 o0 o1
 simp (config:={maxSteps:=100000000}) only[go_sem,jD,jE,jz,jA,jF,jG,jI,jJ,jK,jC,jH,jL,BQ,BR,Tryd.f87,jB,mixed,p6,nV,pQ,BS,wk,wm,zx mR mS mQ n,ih]
 exact rfl
noncomputable def rT (mR:mO→Int→Option T6) (mS:mO→Int→Option T6) (mQ:Notation→Int→(List Syntax)→Int→mO→Option T9) (n:Nat):Nat→(List Syntax)→Int→Int→Int→mO→Notation→Option T9
 |0,_,_,_,_,_,_=>none
 |m+1,v0,v1,v2,v3,o0,o1=>(tU mR mS mQ n).1 m (rT mR mS mQ n m) v0 v1 v2 v3 o0 o1
theorem CN (mR:mO→Int→Option T6) (mS:mO→Int→Option T6) (mQ:Notation→Int→(List Syntax)→Int→mO→Option T9) (n:Nat): ∀ (m:Nat),(∀ (v0:List Syntax) (v1:Int) (v2:Int) (v3:Int) (o0:mO) (o1:Notation),run (oB mR mS mQ n) [.lq m [0,1,0,1,1],.qC 0,.cut [1,1,1],.at [1,1,1]] ⟨[.ptr 0 0,qA,qA,.nE true 8 (mp Syntax.cells v0),.int .i64 v1,qA,.ptr 1 0,qA,qA,qA,.ptr 2 0,.int .i64 v2,.int .i64 v3,qA,qA,qA,qA,qA,qA,qA,qA,qA,qA,qA,qA,qA,qA,qA,qA,qA,qA,qA,qA,qA,qA,qA,qA,qA,qA,qA,qA,qA,qA,qA,qA,qA,qA,qA,qA,qA,qA,qA,qA,qA,qA,qA,qA,qA,qA,qA,qA,qA,qA,qA,qA,qA,qA,qA,qA,qA,qA,qA,qA,qA,qA,qA,qA,qA,qA,qA,qA,qA,qA,qA,qA,qA,qA,qA,qA,qA,qA,qA,qA,qA],[.cells (mO.cells o0),.cells (Notation.cells o1),.cells [.int .i64 0,.str (sb []),.int .i64 0,.nE true 0 [],.nE true 0 [],.nE true 0 [],.int .i64 0,.int .i64 0]],1,[]⟩=rT mR mS mQ n m v0 v1 v2 v3 o0 o1)
 |0=>by intros;exact nk
 |m+1=>by
  have ih:=CN mR mS mQ n m
  intro v0 v1 v2 v3 o0 o1
  rw[nq]
  exact (tU mR mS mQ n).2 m _ ih v0 v1 v2 v3 o0 o1
noncomputable def BT (mR:mO→Int→Option T6) (mS:mO→Int→Option T6) (mQ:Notation→Int→(List Syntax)→Int→mO→Option T9) (n:Nat):{B:Notation→Int→(List Syntax)→Int→mO→Option T9 // ∀ (a0:Notation) (a1:Int) (a2:(List Syntax)) (a3:Int) (o0:mO),run (oB mR mS mQ n) [.at []] {slots:=(p6.enc (nV.lens ((o0,()),())) (a0,a1,a2,a3,()))++jN (94-(p6.enc (nV.lens ((o0,()),())) (a0,a1,a2,a3,())).length) qA,heap:=(nV.enc (nV.lens ((o0,()),())) ((o0,()),())),low:=(nV.enc (nV.lens ((o0,()),())) ((o0,()),())).length}=B a0 a1 a2 a3 o0}:=by
 apply jM
 intro a0 a1 a2 a3 o0
 simp (config:={maxSteps:=100000000}) only[go_sem,jD,jE,jz,jA,jF,jG,jI,jJ,jK,jC,jH,jL,BQ,BR,Tryd.f87,jB,mixed,p6,nV,pQ,BS,wk,wm,zx mR mS mQ n,CN mR mS mQ n]
 exact rfl
mutual
noncomputable def nG:Nat→mO→Int→Option T6
 |0,_,_=>none
 |n+1,a0,a1=>(y9 (nG n) (nx n) (n5 n) n).1 a0 a1
noncomputable def nx:Nat→mO→Int→Option T6
 |0,_,_=>none
 |n+1,a0,a1=>(uF (nG n) (nx n) (n5 n) n).1 a0 a1
noncomputable def n5:Nat→Notation→Int→(List Syntax)→Int→mO→Option T9
 |0,_,_,_,_,_=>none
 |n+1,a0,a1,a2,a3,o0=>(BT (nG n) (nx n) (n5 n) n).1 a0 a1 a2 a3 o0
end
mutual
theorem yF: ∀ (n:Nat) (a0:mO) (a1:Int) (r:T6),nG n a0 a1=some r→Ob Tryd.prog 54 ((Uu 0 (Ue (o9 .i64) Mo)).enc (a0,()) (a1,())) ((B9 (ID mO.cel) Ba).enc (a0,())) (fun o H'=>o= .ret (uR ((Jw (nF Syntax.cel) (Jw (o9 .i64) Kf)).enc r.1 r.2))∧H'=(B9 (ID mO.cel) Ba).enc r.1)
 |0,_,_,_,h=>by simp only[nG] at h;cases h
 |n+1,a0,a1,r,h=>by
  simp only[nG] at h
  have Bh:=yF n
  have Bi:=Bj n
  have yG:=Bk n
  exact wW (M:=qb (nG n) (nx n) (n5 n) n) ⟨(mV (Kh (fun b a r h=>(Bi) b.1 a.1 r h)) (mV (Kh (fun b a r h=>(D2 n) b.1 r h)) (mV (Rm (Nl n)) (mV (uH (Nk n)) (mV (zF (fun b a r h=>(yG) a.1 a.2.1 a.2.2.1 a.2.2.2.1 b.1.1 r h)) mY))))),mZ,nH _,nI _,oh,oH,oV,oG⟩ Tryd.func54 rfl rfl (by simp only[go_sem,jD,jE,jz,jA,jF,jG,jI,jJ,jK,jC,jH,jL]) ((B9 (ID mO.cel) Ba).nb _ _) Tryd.ntmps54 Tryd.results54 (fun σ hs=>Ro hs) (((y9 (nG n) (nx n) (n5 n) n).2 a0 a1).trans h)
theorem Bj: ∀ (n:Nat) (a0:mO) (a1:Int) (r:T6),nx n a0 a1=some r→Ob Tryd.prog 83 ((Uu 0 (Ue (o9 .i64) Mo)).enc (a0,()) (a1,())) ((B9 (ID mO.cel) Ba).enc (a0,())) (fun o H'=>o= .ret (uR ((Jw (nF Syntax.cel) (Jw (o9 .i64) Kf)).enc r.1 r.2))∧H'=(B9 (ID mO.cel) Ba).enc r.1)
 |0,_,_,_,h=>by simp only[nx] at h;cases h
 |n+1,a0,a1,r,h=>by
  simp only[nx] at h
  have Bh:=yF n
  have Bi:=Bj n
  have yG:=Bk n
  exact wW (M:=nL (nG n) (nx n) (n5 n) n) ⟨(mV (qi (G7 n)) (mV (zF (fun b a r h=>(yG) a.1 a.2.1 a.2.2.1 a.2.2.2.1 b.1.1 r h)) mY)),(qE (YD (Nl n)) mZ),nH _,nI _,oh,oH,oV,oG⟩ Tryd.func83 rfl rfl (by simp only[go_sem,jD,jE,jz,jA,jF,jG,jI,jJ,jK,jC,jH,jL]) ((B9 (ID mO.cel) Ba).nb _ _) Tryd.ntmps83 Tryd.results83 (fun σ hs=>Ro hs) (((uF (nG n) (nx n) (n5 n) n).2 a0 a1).trans h)
theorem Bk: ∀ (n:Nat) (a0:Notation) (a1:Int) (a2:(List Syntax)) (a3:Int) (o0:mO) (r:T9),n5 n a0 a1 a2 a3 o0=some r→Ob Tryd.prog 87 (p6.enc (nV.lens ((o0,()),())) (a0,a1,a2,a3,())) (nV.enc (nV.lens ((o0,()),())) ((o0,()),())) (fun o H'=>o= .ret (uR ((qy (nF Syntax.cel) pP).enc (pQ.lens r.1) r.2))∧H'=pQ.enc (pQ.lens r.1) r.1)
 |0,_,_,_,_,_,_,h=>by simp only[n5] at h;cases h
 |n+1,a0,a1,a2,a3,o0,r,h=>by
  simp only[n5] at h
  have Bh:=yF n
  have Bi:=Bj n
  have yG:=Bk n
  exact wW (M:=oB (nG n) (nx n) (n5 n) n) ⟨(mV (Kh (fun b a r h=>(Bh) b.1 a.1 r h)) (mV (Kh (fun b a r h=>(D2 n) b.1 r h)) (mV (uH (Nk n)) (mV (ent4_ok (SP n)) mY)))),mZ,nH _,nI _,oh,oH,oV,oG⟩ Tryd.func87 rfl rfl (sE (jO (of_decide_eq_true (by kernel_rfl)) (jP (nV.sz _ _).symm)) _ (p6.nb _ _)) (fun x hx=>tN (jO (of_decide_eq_true (by kernel_rfl)) (jP (nV.sz _ _).symm)) _ (nV.nb _ _ x hx)) Tryd.ntmps87 Tryd.results87 (fun σ hs=>AA (P:=Tryd.prog) (rs:=[.cell 10 36]) (pos:=[]) (base:=[0]) (low:=1) (os:=pQ) (s:=(qy (nF Syntax.cel) pP)) (σ:=σ) (r:=r) (by rfl) hs) (((BT (nG n) (nx n) (n5 n) n).2 a0 a1 a2 a3 o0).trans h)
end
end Go.Abs
namespace Go.Abs
open Go.Proofs
set_option maxRecDepth 100000
set_option maxHeartbeats 4000000
noncomputable def rU:Nrm:=⟨[],[],[zT (oa Notation.row),zT (O3 37),zA,zA,zA,zA,zA,zK,zK,zA,zA,zA,zA,zA,zA,zA,zA,zA,zA],[],none,none⟩
noncomputable def nv (n:Nat):pO Int where
 body:=(Tryd.f64.body).getD .skip
 P:=Tryd.prog
 cl:=om [(37,qj (nF Notation.cel) pe (Ij n))]
 cd:=oo []
 qT:=ot [([0,1,0,1],rU)]
 cut:=ou []
 n:=n
 out:=pW Tryd.prog [.tmp 4] (o9 .i64)
 qZ:=nj []
theorem wE (n:Nat):(nv n).P=Tryd.prog∧(nv n).cl=om [(37,qj (nF Notation.cel) pe (Ij n))]∧(nv n).cd=oo []∧(nv n).qT=ot [([0,1,0,1],rU)]∧(nv n).cut=ou []∧(nv n).n=n∧(nv n).out=pW Tryd.prog [.tmp 4] (o9 .i64)∧(nv n).qZ=nj []:=⟨rfl,rfl,rfl,rfl,rfl,rfl,rfl,rfl⟩
theorem wF (n:Nat):(nv n).body=(Tryd.f64.body).getD .skip:=rfl
noncomputable def rV (n:Nat):{B:((List Notation)→Int→Int→Option Int)→(List Notation)→Int→Int→Option Int // ∀m X0,(∀ (v0:List Notation) (v1:Int) (v2:Int),run (nv n) [.lq m [0,1,0,1],.qC 0,.cut [1,1],.at [1,1]] ⟨[.nE false 4 (mp Notation.cells v0),.func (.func 37) [] [],qA,qA,qA,qA,qA,.int .i64 v1,.int .i64 v2,qA,qA,qA,qA,qA,qA,qA,qA,qA,qA],[],0,[]⟩=X0 v0 v1 v2)→ ∀ (v0:List Notation) (v1:Int) (v2:Int),run (nv n) [.at [0,0,1,0,1],.lp m [0,1,0,1],.qC 0,.cut [1,1],.at [1,1]] ⟨[.nE false 4 (mp Notation.cells v0),.func (.func 37) [] [],qA,qA,qA,qA,qA,.int .i64 v1,.int .i64 v2,qA,qA,qA,qA,qA,qA,qA,qA,qA,qA],[],0,[]⟩=B X0 v0 v1 v2}:=by
 apply jM
 intro m X0 ih v0 v1 v2
 simp (config:={maxSteps:=100000000}) only[go_sem,jD,jE,jz,jA,jF,jG,jI,jJ,jK,jC,jH,jL,wE,wF,Tryd.f64,jB,mixed,rU,ih]
 exact rfl
noncomputable def qh (n:Nat):Nat→(List Notation)→Int→Int→Option Int
 |0,_,_,_=>none
 |m+1,v0,v1,v2=>(rV n).1 (qh n m) v0 v1 v2
theorem vD (n:Nat): ∀ (m:Nat),(∀ (v0:List Notation) (v1:Int) (v2:Int),run (nv n) [.lq m [0,1,0,1],.qC 0,.cut [1,1],.at [1,1]] ⟨[.nE false 4 (mp Notation.cells v0),.func (.func 37) [] [],qA,qA,qA,qA,qA,.int .i64 v1,.int .i64 v2,qA,qA,qA,qA,qA,qA,qA,qA,qA,qA],[],0,[]⟩=qh n m v0 v1 v2)
 |0=>by intros;exact nk
 |m+1=>by
  have ih:=vD n m
  intro v0 v1 v2
  rw[nq]
  exact (rV n).2 m _ ih v0 v1 v2
noncomputable def ur (n:Nat):{B:(List Notation)→Unit→Option Int // ∀ (a0:(List Notation)) (a1:Unit),run (nv n) [.at []] {slots:=[(oa Notation.row).enc a0,(O3 37).enc a1]++jN (19-[(oa Notation.row).enc a0,(O3 37).enc a1].length) qA,heap:=[]}=B a0 a1}:=by
 apply jM
 intro a0 a1
 simp (config:={maxSteps:=100000000}) only[go_sem,jD,jE,jz,jA,jF,jG,jI,jJ,jK,jC,jH,jL,wE,wF,Tryd.f64,jB,mixed,rU,vD n]
 exact rfl
noncomputable def sx:Nat→(List Notation)→Unit→Option Int
 |0,_,_=>none
 |n+1,a0,a1=>(ur n).1 a0 a1
theorem Bl: ∀ (n:Nat) (a0:(List Notation)) (a1:Unit) (r:Int),sx n a0 a1=some r→xS Tryd.prog 64 [(oa Notation.row).enc a0,(O3 37).enc a1] (fun v=>v=(o9 .i64).enc r)
 |0,_,_,_,h=>by cases h
 |n+1,a0,a1,r,h=>by
  exact pL (M:=nv n) ⟨(mV (qi (SZ n)) mY),mZ,nH _,nI _,oh,oH,oV,oG⟩ Tryd.func64 rfl rfl ⟨(oa Notation.row).nb 0 _,(O3 37).nb 0 _,trivial⟩ Tryd.ntmps64 Tryd.results64 (fun σ hs=>pz (P:=Tryd.prog) (rs:=[.tmp 4]) (t:=(o9 .i64)) (σ:=σ) (r:=r) hs) (((ur n).2 a0 a1).trans h)
noncomputable def yP:Nrm:=⟨[],[],[zK,zA,zA,zA,zA,zA,zA,zA,zA,zA,zA,zA,zA,zA,zA,zA,zA,zA,zA,zA,zA,zA,zA,zA,zA,zA,zA,zA,zA,zA,zA,zA,zA,zA,zA,zA,zA,zA,zA,zA,zA,zA,zA,zA,zA,zA,zA,zA,zA,zA,zA,zT (oa p8),zK,zK,zA,zA,zA,zA,zA,zA,zA,zA,zA],[],none,none⟩
noncomputable def yQ:Nrm:=⟨[],[],[zK,zA,zA,zA,zA,zA,zA,zA,zA,zA,zA,zA,zA,zA,zA,zA,zA,zA,zA,zA,zA,zA,zA,zA,zA,zA,zA,zA,zA,zA,zA,zA,zK,zK,zA,zA,zA,zA,zA,zA,zA,zA,zA,zA,zA,zA,zA,zA,zA,zA,zA,zA,zA,zA,zA,zA,zA,zA,zA,zA,zA,zA,zA],[],none,none⟩
noncomputable def yR:Nrm:=⟨[],[],[zK,zA,zA,zA,zA,zA,zA,zA,zA,zA,zA,zA,zA,zA,zK,zK,zA,zA,zA,zA,zA,zA,zA,zA,zA,zA,zA,zA,zA,zA,zA,zA,zA,zA,zA,zA,zA,zA,zA,zA,zA,zA,zA,zA,zA,zA,zA,zA,zA,zA,zA,zA,zA,zA,zA,zA,zA,zA,zA,zA,zA,zA,zA],[],none,none⟩
noncomputable def qv (n:Nat):pO Bool where
 body:=(Tryd.f42.body).getD .skip
 P:=Tryd.prog
 cl:=om [(66,qj (o9 .u8) (o9 .i64) (BH n)),(67,qj (o9 .u8) pe (Ea n)),(68,qj sD pe (CJ n)),(69,tH sD sD pe (strings_Contains n)),(70,G2 (oa p8) (FW n))]
 cd:=oo []
 qT:=ot [([0,1,0,1,1,1,1,1],yP),([0,1,0,1,1,1],yQ),([0,1,0,0,1,0,1,1],yR)]
 cut:=ou []
 n:=n
 out:=pW Tryd.prog [.tmp 2] pe
 qZ:=nj []
theorem Em (n:Nat):(qv n).P=Tryd.prog∧(qv n).cl=om [(66,qj (o9 .u8) (o9 .i64) (BH n)),(67,qj (o9 .u8) pe (Ea n)),(68,qj sD pe (CJ n)),(69,tH sD sD pe (strings_Contains n)),(70,G2 (oa p8) (FW n))]∧(qv n).cd=oo []∧(qv n).qT=ot [([0,1,0,1,1,1,1,1],yP),([0,1,0,1,1,1],yQ),([0,1,0,0,1,0,1,1],yR)]∧(qv n).cut=ou []∧(qv n).n=n∧(qv n).out=pW Tryd.prog [.tmp 2] pe∧(qv n).qZ=nj []:=⟨rfl,rfl,rfl,rfl,rfl,rfl,rfl,rfl⟩
theorem En (n:Nat):(qv n).body=(Tryd.f42.body).getD .skip:=rfl
noncomputable def CZ (n:Nat):{B:(Str→(List Str)→Int→Int→Option Bool)→Str→(List Str)→Int→Int→Option Bool // ∀m X0,(∀ (v0:Str) (v1:List Str) (v2:Int) (v3:Int),run (qv n) [.lq m [0,1,0,1,1,1,1,1],.qC 4,.cut [1,1,1,1,1,1],.at [1,1,1,1,1,1]] ⟨[.str (sb v0),qA,qA,qA,qA,qA,qA,qA,qA,qA,qA,qA,qA,qA,qA,qA,qA,qA,qA,qA,qA,qA,qA,qA,qA,qA,qA,qA,qA,qA,qA,qA,qA,qA,qA,qA,qA,qA,qA,qA,qA,qA,qA,qA,qA,qA,qA,qA,qA,qA,qA,.nE false 1 (mp n4 v1),.int .i64 v2,.int .i64 v3,qA,qA,qA,qA,qA,qA,qA,qA,qA],[],0,[]⟩=X0 v0 v1 v2 v3)→ ∀ (v0:Str) (v1:List Str) (v2:Int) (v3:Int),run (qv n) [.at [0,0,1,0,1,1,1,1,1],.lp m [0,1,0,1,1,1,1,1],.qC 4,.cut [1,1,1,1,1,1],.at [1,1,1,1,1,1]] ⟨[.str (sb v0),qA,qA,qA,qA,qA,qA,qA,qA,qA,qA,qA,qA,qA,qA,qA,qA,qA,qA,qA,qA,qA,qA,qA,qA,qA,qA,qA,qA,qA,qA,qA,qA,qA,qA,qA,qA,qA,qA,qA,qA,qA,qA,qA,qA,qA,qA,qA,qA,qA,qA,.nE false 1 (mp n4 v1),.int .i64 v2,.int .i64 v3,qA,qA,qA,qA,qA,qA,qA,qA,qA],[],0,[]⟩=B X0 v0 v1 v2 v3}:=by
 apply jM
 intro m X0 ih v0 v1 v2 v3
 simp (config:={maxSteps:=100000000}) only[go_sem,jD,jE,jz,jA,jF,jG,jI,jJ,jK,jC,jH,jL,Em,En,Tryd.f42,jB,mixed,yP,yQ,yR,ih]
 exact rfl
noncomputable def xk (n:Nat):Nat→Str→(List Str)→Int→Int→Option Bool
 |0,_,_,_,_=>none
 |m+1,v0,v1,v2,v3=>(CZ n).1 (xk n m) v0 v1 v2 v3
theorem AM (n:Nat): ∀ (m:Nat),(∀ (v0:Str) (v1:List Str) (v2:Int) (v3:Int),run (qv n) [.lq m [0,1,0,1,1,1,1,1],.qC 4,.cut [1,1,1,1,1,1],.at [1,1,1,1,1,1]] ⟨[.str (sb v0),qA,qA,qA,qA,qA,qA,qA,qA,qA,qA,qA,qA,qA,qA,qA,qA,qA,qA,qA,qA,qA,qA,qA,qA,qA,qA,qA,qA,qA,qA,qA,qA,qA,qA,qA,qA,qA,qA,qA,qA,qA,qA,qA,qA,qA,qA,qA,qA,qA,qA,.nE false 1 (mp n4 v1),.int .i64 v2,.int .i64 v3,qA,qA,qA,qA,qA,qA,qA,qA,qA],[],0,[]⟩=xk n m v0 v1 v2 v3)
 |0=>by intros;exact nk
 |m+1=>by
  have ih:=AM n m
  intro v0 v1 v2 v3
  rw[nq]
  exact (CZ n).2 m _ ih v0 v1 v2 v3
noncomputable def C0 (n:Nat):{B:(Str→Int→Int→Option Bool)→Str→Int→Int→Option Bool // ∀m X0,(∀ (v0:Str) (v1:Int) (v2:Int),run (qv n) [.lq m [0,1,0,1,1,1],.qC 2,.cut [1,1,1,1],.at [1,1,1,1]] ⟨[.str (sb v0),qA,qA,qA,qA,qA,qA,qA,qA,qA,qA,qA,qA,qA,qA,qA,qA,qA,qA,qA,qA,qA,qA,qA,qA,qA,qA,qA,qA,qA,qA,qA,.int .i64 v1,.int .i64 v2,qA,qA,qA,qA,qA,qA,qA,qA,qA,qA,qA,qA,qA,qA,qA,qA,qA,qA,qA,qA,qA,qA,qA,qA,qA,qA,qA,qA,qA],[],0,[]⟩=X0 v0 v1 v2)→ ∀ (v0:Str) (v1:Int) (v2:Int),run (qv n) [.at [0,0,1,0,1,1,1],.lp m [0,1,0,1,1,1],.qC 2,.cut [1,1,1,1],.at [1,1,1,1]] ⟨[.str (sb v0),qA,qA,qA,qA,qA,qA,qA,qA,qA,qA,qA,qA,qA,qA,qA,qA,qA,qA,qA,qA,qA,qA,qA,qA,qA,qA,qA,qA,qA,qA,qA,.int .i64 v1,.int .i64 v2,qA,qA,qA,qA,qA,qA,qA,qA,qA,qA,qA,qA,qA,qA,qA,qA,qA,qA,qA,qA,qA,qA,qA,qA,qA,qA,qA,qA,qA],[],0,[]⟩=B X0 v0 v1 v2}:=by
 apply jM
 intro m X0 ih v0 v1 v2
 simp (config:={maxSteps:=100000000}) only[go_sem,jD,jE,jz,jA,jF,jG,jI,jJ,jK,jC,jH,jL,Em,En,Tryd.f42,jB,mixed,yP,yQ,yR,AM n,ih]
 exact rfl
noncomputable def yS (n:Nat):Nat→Str→Int→Int→Option Bool
 |0,_,_,_=>none
 |m+1,v0,v1,v2=>(C0 n).1 (yS n m) v0 v1 v2
theorem Dg (n:Nat): ∀ (m:Nat),(∀ (v0:Str) (v1:Int) (v2:Int),run (qv n) [.lq m [0,1,0,1,1,1],.qC 2,.cut [1,1,1,1],.at [1,1,1,1]] ⟨[.str (sb v0),qA,qA,qA,qA,qA,qA,qA,qA,qA,qA,qA,qA,qA,qA,qA,qA,qA,qA,qA,qA,qA,qA,qA,qA,qA,qA,qA,qA,qA,qA,qA,.int .i64 v1,.int .i64 v2,qA,qA,qA,qA,qA,qA,qA,qA,qA,qA,qA,qA,qA,qA,qA,qA,qA,qA,qA,qA,qA,qA,qA,qA,qA,qA,qA,qA,qA],[],0,[]⟩=yS n m v0 v1 v2)
 |0=>by intros;exact nk
 |m+1=>by
  have ih:=Dg n m
  intro v0 v1 v2
  rw[nq]
  exact (C0 n).2 m _ ih v0 v1 v2
noncomputable def C1 (n:Nat):{B:(Str→Int→Int→Option Bool)→Str→Int→Int→Option Bool // ∀m X0,(∀ (v0:Str) (v1:Int) (v2:Int),run (qv n) [.lq m [0,1,0,0,1,0,1,1],.qC 0,.cut [1,0,1,0,1,1],.at [1,0,1,0,1,1],.cut [1,1,1],.at [1,1,1]] ⟨[.str (sb v0),qA,qA,qA,qA,qA,qA,qA,qA,qA,qA,qA,qA,qA,.int .i64 v1,.int .i64 v2,qA,qA,qA,qA,qA,qA,qA,qA,qA,qA,qA,qA,qA,qA,qA,qA,qA,qA,qA,qA,qA,qA,qA,qA,qA,qA,qA,qA,qA,qA,qA,qA,qA,qA,qA,qA,qA,qA,qA,qA,qA,qA,qA,qA,qA,qA,qA],[],0,[]⟩=X0 v0 v1 v2)→ ∀ (v0:Str) (v1:Int) (v2:Int),run (qv n) [.at [0,0,1,0,0,1,0,1,1],.lp m [0,1,0,0,1,0,1,1],.qC 0,.cut [1,0,1,0,1,1],.at [1,0,1,0,1,1],.cut [1,1,1],.at [1,1,1]] ⟨[.str (sb v0),qA,qA,qA,qA,qA,qA,qA,qA,qA,qA,qA,qA,qA,.int .i64 v1,.int .i64 v2,qA,qA,qA,qA,qA,qA,qA,qA,qA,qA,qA,qA,qA,qA,qA,qA,qA,qA,qA,qA,qA,qA,qA,qA,qA,qA,qA,qA,qA,qA,qA,qA,qA,qA,qA,qA,qA,qA,qA,qA,qA,qA,qA,qA,qA,qA,qA],[],0,[]⟩=B X0 v0 v1 v2}:=by
 apply jM
 intro m X0 ih v0 v1 v2
 simp (config:={maxSteps:=100000000}) only[go_sem,jD,jE,jz,jA,jF,jG,jI,jJ,jK,jC,jH,jL,Em,En,Tryd.f42,jB,mixed,yP,yQ,yR,AM n,Dg n,ih]
 exact rfl
noncomputable def yT (n:Nat):Nat→Str→Int→Int→Option Bool
 |0,_,_,_=>none
 |m+1,v0,v1,v2=>(C1 n).1 (yT n m) v0 v1 v2
theorem Hp (n:Nat): ∀ (m:Nat),(∀ (v0:Str) (v1:Int) (v2:Int),run (qv n) [.lq m [0,1,0,0,1,0,1,1],.qC 0,.cut [1,0,1,0,1,1],.at [1,0,1,0,1,1],.cut [1,1,1],.at [1,1,1]] ⟨[.str (sb v0),qA,qA,qA,qA,qA,qA,qA,qA,qA,qA,qA,qA,qA,.int .i64 v1,.int .i64 v2,qA,qA,qA,qA,qA,qA,qA,qA,qA,qA,qA,qA,qA,qA,qA,qA,qA,qA,qA,qA,qA,qA,qA,qA,qA,qA,qA,qA,qA,qA,qA,qA,qA,qA,qA,qA,qA,qA,qA,qA,qA,qA,qA,qA,qA,qA,qA],[],0,[]⟩=yT n m v0 v1 v2)
 |0=>by intros;exact nk
 |m+1=>by
  have ih:=Hp n m
  intro v0 v1 v2
  rw[nq]
  exact (C1 n).2 m _ ih v0 v1 v2
noncomputable def Hq (n:Nat):{B:Str→Option Bool // ∀ (a0:Str),run (qv n) [.at []] {slots:=[sD.enc a0]++jN (63-[sD.enc a0].length) qA,heap:=[]}=B a0}:=by
 apply jM
 intro a0
 simp (config:={maxSteps:=100000000}) only[go_sem,jD,jE,jz,jA,jF,jG,jI,jJ,jK,jC,jH,jL,Em,En,Tryd.f42,jB,mixed,yP,yQ,yR,AM n,Dg n,Hp n]
 exact rfl
noncomputable def Eo:Nat→Str→Option Bool
 |0,_=>none
 |n+1,a0=>(Hq n).1 a0
theorem Re: ∀ (n:Nat) (a0:Str) (r:Bool),Eo n a0=some r→xS Tryd.prog 42 [sD.enc a0] (fun v=>v=pe.enc r)
 |0,_,_,h=>by cases h
 |n+1,a0,r,h=>by
  exact pL (M:=qv n) ⟨(mV (qi (LF n)) (mV (qi (Q8 n)) (mV (qi (PU n)) (mV (uH (MF n)) (mV (Kc (SU n)) mY))))),mZ,nH _,nI _,oh,oH,oV,oG⟩ Tryd.func42 rfl rfl ⟨sD.nb 0 _,trivial⟩ Tryd.ntmps42 Tryd.results42 (fun σ hs=>pz (P:=Tryd.prog) (rs:=[.tmp 2]) (t:=pe) (σ:=σ) (r:=r) hs) (((Hq n).2 a0).trans h)
noncomputable def BU:Nrm:=⟨[],[],[zA,zK,zA,zA,zA,zK,zA,zA,zA,zA,zA,zA,zA,zA,zA,zA,zA,zA,zA,zA,zA,zA,zA,zA,zA,zA,zA,zA,zA,zA,zA,zA,zA,zA,zA,zA,zA,zA,zA,zA,zA,zA,zA,zA,zA,zA,zA,zA,zA,zA,zA,zA,zA,zA,zA,zA,zA,zA,zA,zA,zA,zA,zA,zA,zA,zA,zA,zA,zA,zA,zA,zA,zA,zA,zA,zA,zA,zA,zA,zA,zA,zA,zA,zA,zA,zA,zA,zA,zA,zA,zA,zA,zA,zA,zA,zA,zA,zA,zA,zA,zA,zA,zA,zA,zA,zA,zA,zA,zA],[oT Notation.cel],none,none⟩
noncomputable def BV:Nrm:=⟨[],[],[zA,zK,zA,zK,zK,zA,zA,zA,zA,zA,zA,zA,zA,zA,zA,zA,zA,zA,zA,zA,zA,zA,zA,zA,zA,zA,zA,zA,zA,zA,zA,zA,zA,zA,zA,zA,zA,zA,zA,zA,zA,zA,zA,zA,zA,zA,zA,zA,zA,zA,zA,zA,zA,zA,zA,zA,zA,zA,zA,zA,zA,zA,zA,zA,zA,zA,zA,zA,zA,zA,zA,zA,zA,zA,zA,zA,zA,zA,zA,zA,zA,zA,zA,zA,zA,zA,zA,zA,zA,zA,zA,zA,zA,zA,zA,zA,zA,zA,zA,zA,zA,zA,zA,zA,zA,zA,zA,zA,zA],[oT Notation.cel],none,none⟩
noncomputable def rK (n:Nat):pO Int where
 body:=(Tryd.f13.body).getD .skip
 P:=Tryd.prog
 cl:=om [(46,qj sD pe (El n)),(47,qj (nF Notation.cel) pe (tS n)),(48,qj (nF Notation.cel) pe (yZ n)),(49,qj sD pe (Hh n))]
 cd:=oo []
 qT:=ot [([0,1,0,1,1,1,1,1],BU),([0,1,0,1,1,1],BV)]
 cut:=ou []
 n:=n
 out:=pW Tryd.prog [.tmp 2] (o9 .i64)
 qZ:=nj []
theorem Jc (n:Nat):(rK n).P=Tryd.prog∧(rK n).cl=om [(46,qj sD pe (El n)),(47,qj (nF Notation.cel) pe (tS n)),(48,qj (nF Notation.cel) pe (yZ n)),(49,qj sD pe (Hh n))]∧(rK n).cd=oo []∧(rK n).qT=ot [([0,1,0,1,1,1,1,1],BU),([0,1,0,1,1,1],BV)]∧(rK n).cut=ou []∧(rK n).n=n∧(rK n).out=pW Tryd.prog [.tmp 2] (o9 .i64)∧(rK n).qZ=nj []:=⟨rfl,rfl,rfl,rfl,rfl,rfl,rfl,rfl⟩
theorem Jd (n:Nat):(rK n).body=(Tryd.f13.body).getD .skip:=rfl
noncomputable def Ep (n:Nat):{B:(Int→Notation→Option Int)→Int→Notation→Option Int // ∀m X0,(∀ (v0:Int) (o0:Notation),run (rK n) [.lq m [0,1,0,1,1,1,1,1],.qC 2,.cut [1,1,1,1,1,1],.at [1,1,1,1,1,1]] ⟨[qA,.ptr 0 0,qA,qA,qA,.int .i64 v0,qA,qA,qA,qA,qA,qA,qA,qA,qA,qA,qA,qA,qA,qA,qA,qA,qA,qA,qA,qA,qA,qA,qA,qA,qA,qA,qA,qA,qA,qA,qA,qA,qA,qA,qA,qA,qA,qA,qA,qA,qA,qA,qA,qA,qA,qA,qA,qA,qA,qA,qA,qA,qA,qA,qA,qA,qA,qA,qA,qA,qA,qA,qA,qA,qA,qA,qA,qA,qA,qA,qA,qA,qA,qA,qA,qA,qA,qA,qA,qA,qA,qA,qA,qA,qA,qA,qA,qA,qA,qA,qA,qA,qA,qA,qA,qA,qA,qA,qA,qA,qA,qA,qA],[.cells (Notation.cells o0)],0,[]⟩=X0 v0 o0)→ ∀ (v0:Int) (o0:Notation),run (rK n) [.at [0,0,1,0,1,1,1,1,1],.lp m [0,1,0,1,1,1,1,1],.qC 2,.cut [1,1,1,1,1,1],.at [1,1,1,1,1,1]] ⟨[qA,.ptr 0 0,qA,qA,qA,.int .i64 v0,qA,qA,qA,qA,qA,qA,qA,qA,qA,qA,qA,qA,qA,qA,qA,qA,qA,qA,qA,qA,qA,qA,qA,qA,qA,qA,qA,qA,qA,qA,qA,qA,qA,qA,qA,qA,qA,qA,qA,qA,qA,qA,qA,qA,qA,qA,qA,qA,qA,qA,qA,qA,qA,qA,qA,qA,qA,qA,qA,qA,qA,qA,qA,qA,qA,qA,qA,qA,qA,qA,qA,qA,qA,qA,qA,qA,qA,qA,qA,qA,qA,qA,qA,qA,qA,qA,qA,qA,qA,qA,qA,qA,qA,qA,qA,qA,qA,qA,qA,qA,qA,qA,qA],[.cells (Notation.cells o0)],0,[]⟩=B X0 v0 o0}:=by
 apply jM
 intro m X0 ih v0 o0
 simp (config:={maxSteps:=100000000}) only[go_sem,jD,jE,jz,jA,jF,jG,jI,jJ,jK,jC,jH,jL,Jc,Jd,Tryd.f13,jB,mixed,BU,BV,ih]
 exact rfl
noncomputable def yA (n:Nat):Nat→Int→Notation→Option Int
 |0,_,_=>none
 |m+1,v0,o0=>(Ep n).1 (yA n m) v0 o0
theorem Er (n:Nat): ∀ (m:Nat),(∀ (v0:Int) (o0:Notation),run (rK n) [.lq m [0,1,0,1,1,1,1,1],.qC 2,.cut [1,1,1,1,1,1],.at [1,1,1,1,1,1]] ⟨[qA,.ptr 0 0,qA,qA,qA,.int .i64 v0,qA,qA,qA,qA,qA,qA,qA,qA,qA,qA,qA,qA,qA,qA,qA,qA,qA,qA,qA,qA,qA,qA,qA,qA,qA,qA,qA,qA,qA,qA,qA,qA,qA,qA,qA,qA,qA,qA,qA,qA,qA,qA,qA,qA,qA,qA,qA,qA,qA,qA,qA,qA,qA,qA,qA,qA,qA,qA,qA,qA,qA,qA,qA,qA,qA,qA,qA,qA,qA,qA,qA,qA,qA,qA,qA,qA,qA,qA,qA,qA,qA,qA,qA,qA,qA,qA,qA,qA,qA,qA,qA,qA,qA,qA,qA,qA,qA,qA,qA,qA,qA,qA,qA],[.cells (Notation.cells o0)],0,[]⟩=yA n m v0 o0)
 |0=>by intros;exact nk
 |m+1=>by
  have ih:=Er n m
  intro v0 o0
  rw[nq]
  exact (Ep n).2 m _ ih v0 o0
noncomputable def Es (n:Nat):{B:(Bool→Int→Notation→Option Int)→Bool→Int→Notation→Option Int // ∀m X0,(∀ (v0:Bool) (v1:Int) (o0:Notation),run (rK n) [.lq m [0,1,0,1,1,1],.qC 0,.cut [1,1,1,1],.at [1,1,1,1]] ⟨[qA,.ptr 0 0,qA,.bool v0,.int .i64 v1,qA,qA,qA,qA,qA,qA,qA,qA,qA,qA,qA,qA,qA,qA,qA,qA,qA,qA,qA,qA,qA,qA,qA,qA,qA,qA,qA,qA,qA,qA,qA,qA,qA,qA,qA,qA,qA,qA,qA,qA,qA,qA,qA,qA,qA,qA,qA,qA,qA,qA,qA,qA,qA,qA,qA,qA,qA,qA,qA,qA,qA,qA,qA,qA,qA,qA,qA,qA,qA,qA,qA,qA,qA,qA,qA,qA,qA,qA,qA,qA,qA,qA,qA,qA,qA,qA,qA,qA,qA,qA,qA,qA,qA,qA,qA,qA,qA,qA,qA,qA,qA,qA,qA,qA],[.cells (Notation.cells o0)],0,[]⟩=X0 v0 v1 o0)→ ∀ (v0:Bool) (v1:Int) (o0:Notation),run (rK n) [.at [0,0,1,0,1,1,1],.lp m [0,1,0,1,1,1],.qC 0,.cut [1,1,1,1],.at [1,1,1,1]] ⟨[qA,.ptr 0 0,qA,.bool v0,.int .i64 v1,qA,qA,qA,qA,qA,qA,qA,qA,qA,qA,qA,qA,qA,qA,qA,qA,qA,qA,qA,qA,qA,qA,qA,qA,qA,qA,qA,qA,qA,qA,qA,qA,qA,qA,qA,qA,qA,qA,qA,qA,qA,qA,qA,qA,qA,qA,qA,qA,qA,qA,qA,qA,qA,qA,qA,qA,qA,qA,qA,qA,qA,qA,qA,qA,qA,qA,qA,qA,qA,qA,qA,qA,qA,qA,qA,qA,qA,qA,qA,qA,qA,qA,qA,qA,qA,qA,qA,qA,qA,qA,qA,qA,qA,qA,qA,qA,qA,qA,qA,qA,qA,qA,qA,qA],[.cells (Notation.cells o0)],0,[]⟩=B X0 v0 v1 o0}:=by
 apply jM
 intro m X0 ih v0 v1 o0
 simp (config:={maxSteps:=100000000}) only[go_sem,jD,jE,jz,jA,jF,jG,jI,jJ,jK,jC,jH,jL,Jc,Jd,Tryd.f13,jB,mixed,BU,BV,Er n,ih]
 exact rfl
noncomputable def vU (n:Nat):Nat→Bool→Int→Notation→Option Int
 |0,_,_,_=>none
 |m+1,v0,v1,o0=>(Es n).1 (vU n m) v0 v1 o0
theorem Ik (n:Nat): ∀ (m:Nat),(∀ (v0:Bool) (v1:Int) (o0:Notation),run (rK n) [.lq m [0,1,0,1,1,1],.qC 0,.cut [1,1,1,1],.at [1,1,1,1]] ⟨[qA,.ptr 0 0,qA,.bool v0,.int .i64 v1,qA,qA,qA,qA,qA,qA,qA,qA,qA,qA,qA,qA,qA,qA,qA,qA,qA,qA,qA,qA,qA,qA,qA,qA,qA,qA,qA,qA,qA,qA,qA,qA,qA,qA,qA,qA,qA,qA,qA,qA,qA,qA,qA,qA,qA,qA,qA,qA,qA,qA,qA,qA,qA,qA,qA,qA,qA,qA,qA,qA,qA,qA,qA,qA,qA,qA,qA,qA,qA,qA,qA,qA,qA,qA,qA,qA,qA,qA,qA,qA,qA,qA,qA,qA,qA,qA,qA,qA,qA,qA,qA,qA,qA,qA,qA,qA,qA,qA,qA,qA,qA,qA,qA,qA],[.cells (Notation.cells o0)],0,[]⟩=vU n m v0 v1 o0)
 |0=>by intros;exact nk
 |m+1=>by
  have ih:=Ik n m
  intro v0 v1 o0
  rw[nq]
  exact (Es n).2 m _ ih v0 v1 o0
noncomputable def Je (n:Nat):{B:Notation→Option Int // ∀ (a0:Notation),run (rK n) [.at []] {slots:=[(nF Notation.cel).enc a0]++jN (109-[(nF Notation.cel).enc a0].length) qA,heap:=[]}=B a0}:=by
 apply jM
 intro a0
 simp (config:={maxSteps:=100000000}) only[go_sem,jD,jE,jz,jA,jF,jG,jI,jJ,jK,jC,jH,jL,Jc,Jd,Tryd.f13,jB,mixed,BU,BV,Er n,Ik n]
 exact rfl
noncomputable def BW:Nat→Notation→Option Int
 |0,_=>none
 |n+1,a0=>(Je n).1 a0
theorem LV: ∀ (n:Nat) (a0:Notation) (r:Int),BW n a0=some r→xS Tryd.prog 13 [(nF Notation.cel).enc a0] (fun v=>v=(o9 .i64).enc r)
 |0,_,_,h=>by cases h
 |n+1,a0,r,h=>by
  exact pL (M:=rK n) ⟨(mV (qi (Rd n)) (mV (qi (zm n)) (mV (qi (G7 n)) (mV (qi (US n)) mY)))),mZ,nH _,nI _,oh,oH,oV,oG⟩ Tryd.func13 rfl rfl ⟨(nF Notation.cel).nb 0 _,trivial⟩ Tryd.ntmps13 Tryd.results13 (fun σ hs=>pz (P:=Tryd.prog) (rs:=[.tmp 2]) (t:=(o9 .i64)) (σ:=σ) (r:=r) hs) (((Je n).2 a0).trans h)
end Go.Abs
namespace Go.Abs
open Go.Proofs
set_option maxRecDepth 100000
set_option maxHeartbeats 4000000
noncomputable def nO (n:Nat):pO Bool where
 body:=(Tryd.f36.body).getD .skip
 P:=Tryd.prog
 cl:=om [(64,tH (oa Notation.row) (O3 37) (o9 .i64) (sx n))]
 cd:=oo []
 qT:=ot []
 cut:=ou []
 n:=n
 out:=pW Tryd.prog [.tmp 4] pe
 qZ:=nj []
theorem AN (n:Nat):(nO n).P=Tryd.prog∧(nO n).cl=om [(64,tH (oa Notation.row) (O3 37) (o9 .i64) (sx n))]∧(nO n).cd=oo []∧(nO n).qT=ot []∧(nO n).cut=ou []∧(nO n).n=n∧(nO n).out=pW Tryd.prog [.tmp 4] pe∧(nO n).qZ=nj []:=⟨rfl,rfl,rfl,rfl,rfl,rfl,rfl,rfl⟩
theorem AO (n:Nat):(nO n).body=(Tryd.f36.body).getD .skip:=rfl
noncomputable def tC (n:Nat):{B:(List Notation)→Unit→Option Bool // ∀ (a0:(List Notation)) (a1:Unit),run (nO n) [.at []] {slots:=[(oa Notation.row).enc a0,(O3 37).enc a1]++jN (9-[(oa Notation.row).enc a0,(O3 37).enc a1].length) qA,heap:=[]}=B a0 a1}:=by
 apply jM
 intro a0 a1
 simp (config:={maxSteps:=100000000}) only[go_sem,jD,jE,jz,jA,jF,jG,jI,jJ,jK,jC,jH,jL,AN,AO,Tryd.f36,jB,mixed]
 exact rfl
noncomputable def rW:Nat→(List Notation)→Unit→Option Bool
 |0,_,_=>none
 |n+1,a0,a1=>(tC n).1 a0 a1
theorem Ap: ∀ (n:Nat) (a0:(List Notation)) (a1:Unit) (r:Bool),rW n a0 a1=some r→xS Tryd.prog 36 [(oa Notation.row).enc a0,(O3 37).enc a1] (fun v=>v=pe.enc r)
 |0,_,_,_,h=>by cases h
 |n+1,a0,a1,r,h=>by
  exact pL (M:=nO n) ⟨(mV (uH (Bl n)) mY),mZ,nH _,nI _,oh,oH,oV,oG⟩ Tryd.func36 rfl rfl ⟨(oa Notation.row).nb 0 _,(O3 37).nb 0 _,trivial⟩ Tryd.ntmps36 Tryd.results36 (fun σ hs=>pz (P:=Tryd.prog) (rs:=[.tmp 4]) (t:=pe) (σ:=σ) (r:=r) hs) (((tC n).2 a0 a1).trans h)
noncomputable def za:Nrm:=⟨[],[],[zA,zK,zA,zA,zA,zA,zA,zA,zA,zA,zA,zA,zA,zA,zA,zA,zA,zA,zA,zA,zA,zA,zA,zA,zA,zA,zA,zA,zA,zA,zA,zA,zA,zA,zA,zA,zA,zA,zA,zA,zA,zA,zA,zA,zA,zT (oa p8),zK,zK,zA,zA,zA,zA,zA,zA,zA,zA,zA,zA,zA,zA,zA,zA,zA,zA,zA,zA,zA,zA,zA,zA,zA,zA,zA,zA,zA,zA,zA,zA,zA,zA,zA,zA,zA,zA,zA,zA,zA,zA,zA,zA],[oT Notation.cel],none,none⟩
noncomputable def zb:Nrm:=⟨[],[],[zA,zK,zA,zK,zA,zA,zA,zA,zA,zA,zA,zA,zA,zA,zA,zA,zA,zA,zA,zT (oa p8),zK,zK,zA,zA,zA,zA,zA,zA,zA,zA,zA,zA,zA,zA,zA,zA,zA,zA,zA,zA,zA,zA,zA,zA,zA,zA,zA,zA,zA,zA,zA,zA,zA,zA,zA,zA,zA,zA,zA,zA,zA,zA,zA,zA,zA,zA,zA,zA,zA,zA,zA,zA,zA,zA,zA,zA,zA,zA,zA,zA,zA,zA,zA,zA,zA,zA,zA,zA,zA,zA],[oT Notation.cel],none,none⟩
noncomputable def qw (n:Nat):pO Int where
 body:=(Tryd.f12.body).getD .skip
 P:=Tryd.prog
 cl:=om [(42,qj sD pe (Eo n)),(43,qj (nF Notation.cel) pe (tO n)),(44,qj (nF Notation.cel) pe (sN n)),(45,qj sD pe (JG n))]
 cd:=oo []
 qT:=ot [([0,1,0,1,1,1,1,1],za),([0,1,0,1,1,1],zb)]
 cut:=ou []
 n:=n
 out:=pW Tryd.prog [.tmp 2] (o9 .i64)
 qZ:=nj []
theorem E6 (n:Nat):(qw n).P=Tryd.prog∧(qw n).cl=om [(42,qj sD pe (Eo n)),(43,qj (nF Notation.cel) pe (tO n)),(44,qj (nF Notation.cel) pe (sN n)),(45,qj sD pe (JG n))]∧(qw n).cd=oo []∧(qw n).qT=ot [([0,1,0,1,1,1,1,1],za),([0,1,0,1,1,1],zb)]∧(qw n).cut=ou []∧(qw n).n=n∧(qw n).out=pW Tryd.prog [.tmp 2] (o9 .i64)∧(qw n).qZ=nj []:=⟨rfl,rfl,rfl,rfl,rfl,rfl,rfl,rfl⟩
theorem E7 (n:Nat):(qw n).body=(Tryd.f12.body).getD .skip:=rfl
noncomputable def Bs (n:Nat):{B:((List Str)→Int→Int→Notation→Option Int)→(List Str)→Int→Int→Notation→Option Int // ∀m X0,(∀ (v0:List Str) (v1:Int) (v2:Int) (o0:Notation),run (qw n) [.lq m [0,1,0,1,1,1,1,1],.qC 2,.cut [1,1,1,1,1,1],.at [1,1,1,1,1,1]] ⟨[qA,.ptr 0 0,qA,qA,qA,qA,qA,qA,qA,qA,qA,qA,qA,qA,qA,qA,qA,qA,qA,qA,qA,qA,qA,qA,qA,qA,qA,qA,qA,qA,qA,qA,qA,qA,qA,qA,qA,qA,qA,qA,qA,qA,qA,qA,qA,.nE false 1 (mp n4 v0),.int .i64 v1,.int .i64 v2,qA,qA,qA,qA,qA,qA,qA,qA,qA,qA,qA,qA,qA,qA,qA,qA,qA,qA,qA,qA,qA,qA,qA,qA,qA,qA,qA,qA,qA,qA,qA,qA,qA,qA,qA,qA,qA,qA,qA,qA,qA,qA],[.cells (Notation.cells o0)],0,[]⟩=X0 v0 v1 v2 o0)→ ∀ (v0:List Str) (v1:Int) (v2:Int) (o0:Notation),run (qw n) [.at [0,0,1,0,1,1,1,1,1],.lp m [0,1,0,1,1,1,1,1],.qC 2,.cut [1,1,1,1,1,1],.at [1,1,1,1,1,1]] ⟨[qA,.ptr 0 0,qA,qA,qA,qA,qA,qA,qA,qA,qA,qA,qA,qA,qA,qA,qA,qA,qA,qA,qA,qA,qA,qA,qA,qA,qA,qA,qA,qA,qA,qA,qA,qA,qA,qA,qA,qA,qA,qA,qA,qA,qA,qA,qA,.nE false 1 (mp n4 v0),.int .i64 v1,.int .i64 v2,qA,qA,qA,qA,qA,qA,qA,qA,qA,qA,qA,qA,qA,qA,qA,qA,qA,qA,qA,qA,qA,qA,qA,qA,qA,qA,qA,qA,qA,qA,qA,qA,qA,qA,qA,qA,qA,qA,qA,qA,qA,qA],[.cells (Notation.cells o0)],0,[]⟩=B X0 v0 v1 v2 o0}:=by
 apply jM
 intro m X0 ih v0 v1 v2 o0
 simp (config:={maxSteps:=100000000}) only[go_sem,jD,jE,jz,jA,jF,jG,jI,jJ,jK,jC,jH,jL,E6,E7,Tryd.f12,jB,mixed,za,zb,ih]
 exact rfl
noncomputable def vV (n:Nat):Nat→(List Str)→Int→Int→Notation→Option Int
 |0,_,_,_,_=>none
 |m+1,v0,v1,v2,o0=>(Bs n).1 (vV n m) v0 v1 v2 o0
theorem BX (n:Nat): ∀ (m:Nat),(∀ (v0:List Str) (v1:Int) (v2:Int) (o0:Notation),run (qw n) [.lq m [0,1,0,1,1,1,1,1],.qC 2,.cut [1,1,1,1,1,1],.at [1,1,1,1,1,1]] ⟨[qA,.ptr 0 0,qA,qA,qA,qA,qA,qA,qA,qA,qA,qA,qA,qA,qA,qA,qA,qA,qA,qA,qA,qA,qA,qA,qA,qA,qA,qA,qA,qA,qA,qA,qA,qA,qA,qA,qA,qA,qA,qA,qA,qA,qA,qA,qA,.nE false 1 (mp n4 v0),.int .i64 v1,.int .i64 v2,qA,qA,qA,qA,qA,qA,qA,qA,qA,qA,qA,qA,qA,qA,qA,qA,qA,qA,qA,qA,qA,qA,qA,qA,qA,qA,qA,qA,qA,qA,qA,qA,qA,qA,qA,qA,qA,qA,qA,qA,qA,qA],[.cells (Notation.cells o0)],0,[]⟩=vV n m v0 v1 v2 o0)
 |0=>by intros;exact nk
 |m+1=>by
  have ih:=BX n m
  intro v0 v1 v2 o0
  rw[nq]
  exact (Bs n).2 m _ ih v0 v1 v2 o0
noncomputable def Bt (n:Nat):{B:(Int→(List Str)→Int→Int→Notation→Option Int)→Int→(List Str)→Int→Int→Notation→Option Int // ∀m X0,(∀ (v0:Int) (v1:List Str) (v2:Int) (v3:Int) (o0:Notation),run (qw n) [.lq m [0,1,0,1,1,1],.qC 0,.cut [1,1,1,1],.at [1,1,1,1]] ⟨[qA,.ptr 0 0,qA,.int .i64 v0,qA,qA,qA,qA,qA,qA,qA,qA,qA,qA,qA,qA,qA,qA,qA,.nE false 1 (mp n4 v1),.int .i64 v2,.int .i64 v3,qA,qA,qA,qA,qA,qA,qA,qA,qA,qA,qA,qA,qA,qA,qA,qA,qA,qA,qA,qA,qA,qA,qA,qA,qA,qA,qA,qA,qA,qA,qA,qA,qA,qA,qA,qA,qA,qA,qA,qA,qA,qA,qA,qA,qA,qA,qA,qA,qA,qA,qA,qA,qA,qA,qA,qA,qA,qA,qA,qA,qA,qA,qA,qA,qA,qA,qA,qA],[.cells (Notation.cells o0)],0,[]⟩=X0 v0 v1 v2 v3 o0)→ ∀ (v0:Int) (v1:List Str) (v2:Int) (v3:Int) (o0:Notation),run (qw n) [.at [0,0,1,0,1,1,1],.lp m [0,1,0,1,1,1],.qC 0,.cut [1,1,1,1],.at [1,1,1,1]] ⟨[qA,.ptr 0 0,qA,.int .i64 v0,qA,qA,qA,qA,qA,qA,qA,qA,qA,qA,qA,qA,qA,qA,qA,.nE false 1 (mp n4 v1),.int .i64 v2,.int .i64 v3,qA,qA,qA,qA,qA,qA,qA,qA,qA,qA,qA,qA,qA,qA,qA,qA,qA,qA,qA,qA,qA,qA,qA,qA,qA,qA,qA,qA,qA,qA,qA,qA,qA,qA,qA,qA,qA,qA,qA,qA,qA,qA,qA,qA,qA,qA,qA,qA,qA,qA,qA,qA,qA,qA,qA,qA,qA,qA,qA,qA,qA,qA,qA,qA,qA,qA,qA,qA],[.cells (Notation.cells o0)],0,[]⟩=B X0 v0 v1 v2 v3 o0}:=by
 apply jM
 intro m X0 ih v0 v1 v2 v3 o0
 simp (config:={maxSteps:=100000000}) only[go_sem,jD,jE,jz,jA,jF,jG,jI,jJ,jK,jC,jH,jL,E6,E7,Tryd.f12,jB,mixed,za,zb,BX n,ih]
 exact rfl
noncomputable def xd (n:Nat):Nat→Int→(List Str)→Int→Int→Notation→Option Int
 |0,_,_,_,_,_=>none
 |m+1,v0,v1,v2,v3,o0=>(Bt n).1 (xd n m) v0 v1 v2 v3 o0
theorem F0 (n:Nat): ∀ (m:Nat),(∀ (v0:Int) (v1:List Str) (v2:Int) (v3:Int) (o0:Notation),run (qw n) [.lq m [0,1,0,1,1,1],.qC 0,.cut [1,1,1,1],.at [1,1,1,1]] ⟨[qA,.ptr 0 0,qA,.int .i64 v0,qA,qA,qA,qA,qA,qA,qA,qA,qA,qA,qA,qA,qA,qA,qA,.nE false 1 (mp n4 v1),.int .i64 v2,.int .i64 v3,qA,qA,qA,qA,qA,qA,qA,qA,qA,qA,qA,qA,qA,qA,qA,qA,qA,qA,qA,qA,qA,qA,qA,qA,qA,qA,qA,qA,qA,qA,qA,qA,qA,qA,qA,qA,qA,qA,qA,qA,qA,qA,qA,qA,qA,qA,qA,qA,qA,qA,qA,qA,qA,qA,qA,qA,qA,qA,qA,qA,qA,qA,qA,qA,qA,qA,qA,qA],[.cells (Notation.cells o0)],0,[]⟩=xd n m v0 v1 v2 v3 o0)
 |0=>by intros;exact nk
 |m+1=>by
  have ih:=F0 n m
  intro v0 v1 v2 v3 o0
  rw[nq]
  exact (Bt n).2 m _ ih v0 v1 v2 v3 o0
noncomputable def E8 (n:Nat):{B:Notation→Option Int // ∀ (a0:Notation),run (qw n) [.at []] {slots:=[(nF Notation.cel).enc a0]++jN (90-[(nF Notation.cel).enc a0].length) qA,heap:=[]}=B a0}:=by
 apply jM
 intro a0
 simp (config:={maxSteps:=100000000}) only[go_sem,jD,jE,jz,jA,jF,jG,jI,jJ,jK,jC,jH,jL,E6,E7,Tryd.f12,jB,mixed,za,zb,BX n,F0 n]
 exact rfl
noncomputable def yB:Nat→Notation→Option Int
 |0,_=>none
 |n+1,a0=>(E8 n).1 a0
theorem Il: ∀ (n:Nat) (a0:Notation) (r:Int),yB n a0=some r→xS Tryd.prog 12 [(nF Notation.cel).enc a0] (fun v=>v=(o9 .i64).enc r)
 |0,_,_,h=>by cases h
 |n+1,a0,r,h=>by
  exact pL (M:=qw n) ⟨(mV (qi (Re n)) (mV (qi (zZ n)) (mV (qi (yY n)) (mV (qi (W0 n)) mY)))),mZ,nH _,nI _,oh,oH,oV,oG⟩ Tryd.func12 rfl rfl ⟨(nF Notation.cel).nb 0 _,trivial⟩ Tryd.ntmps12 Tryd.results12 (fun σ hs=>pz (P:=Tryd.prog) (rs:=[.tmp 2]) (t:=(o9 .i64)) (σ:=σ) (r:=r) hs) (((E8 n).2 a0).trans h)
noncomputable def GH:Nrm:=⟨[],[],[zT (oa Notation.row),zA,zA,zK,zA,zA,zK,zA,zA,zA,zA,zA,zA,zA,zA,zA,zA,zA,zA,zA,zA,zA,zA,zA,zA,zA,zA,zA,zA,zA,zA,zA,zA,zA,zA,zA,zA,zA,zA,zA,zA,zA,zA,zA,zA,zA,zA,zA,zA,zA],[oT Notation.cel],none,none⟩
noncomputable def tu (n:Nat):pO Int where
 body:=(Tryd.f60.body).getD .skip
 P:=Tryd.prog
 cl:=om [(13,qj (nF Notation.cel) (o9 .i64) (BW n)),(93,tH (nF Notation.cel) (nF Notation.cel) pe (wP n))]
 cd:=oo [(47,vY (qj (nF Notation.cel) pe (tS n))),(93,vY (tH (nF Notation.cel) (nF Notation.cel) pe (wP n))),(94,vY (qj (nF Notation.cel) sD (zu n)))]
 qT:=ot [([0,1,0,1,1,1,1],GH)]
 cut:=ou []
 n:=n
 out:=pW Tryd.prog [.tmp 4] (o9 .i64)
 qZ:=nj []
 Ay:=nj []
 Ax:=nj []
theorem QA (n:Nat):(tu n).P=Tryd.prog∧(tu n).cl=om [(13,qj (nF Notation.cel) (o9 .i64) (BW n)),(93,tH (nF Notation.cel) (nF Notation.cel) pe (wP n))]∧(tu n).cd=oo [(47,vY (qj (nF Notation.cel) pe (tS n))),(93,vY (tH (nF Notation.cel) (nF Notation.cel) pe (wP n))),(94,vY (qj (nF Notation.cel) sD (zu n)))]∧(tu n).qT=ot [([0,1,0,1,1,1,1],GH)]∧(tu n).cut=ou []∧(tu n).n=n∧(tu n).out=pW Tryd.prog [.tmp 4] (o9 .i64)∧(tu n).qZ=nj []∧(tu n).Ay=nj []∧(tu n).Ax=nj []:=⟨rfl,rfl,rfl,rfl,rfl,rfl,rfl,rfl,rfl,rfl⟩
theorem QB (n:Nat):(tu n).body=(Tryd.f60.body).getD .skip:=rfl
theorem QD (n:Nat):tY (tu n) [0,0,0,1,0,0,1,0,1,1,1,1]=true:=by kernel_rfl
noncomputable def GI (n:Nat):{B:((List Notation)→Int→Notation→Option Int)→(List Notation)→Int→Notation→Option Int // ∀m X0,(∀ (v0:List Notation) (v1:Int) (o0:Notation),run (tu n) [.lq m [0,1,0,1,1,1,1],.qC 0,.cut [1,1,1,1,1],.at [1,1,1,1,1]] ⟨[.nE false 4 (mp Notation.cells v0),qA,qA,.ptr 0 0,qA,qA,.int .i64 v1,qA,qA,qA,qA,qA,qA,qA,qA,qA,qA,qA,qA,qA,qA,qA,qA,qA,qA,qA,qA,qA,qA,qA,qA,qA,qA,qA,qA,qA,qA,qA,qA,qA,qA,qA,qA,qA,qA,qA,qA,qA,qA,qA],[.cells (Notation.cells o0)],0,[]⟩=X0 v0 v1 o0)→ ∀ (v0:List Notation) (v1:Int) (o0:Notation),run (tu n) [.at [0,0,1,0,1,1,1,1],.lp m [0,1,0,1,1,1,1],.qC 0,.cut [1,1,1,1,1],.at [1,1,1,1,1]] ⟨[.nE false 4 (mp Notation.cells v0),qA,qA,.ptr 0 0,qA,qA,.int .i64 v1,qA,qA,qA,qA,qA,qA,qA,qA,qA,qA,qA,qA,qA,qA,qA,qA,qA,qA,qA,qA,qA,qA,qA,qA,qA,qA,qA,qA,qA,qA,qA,qA,qA,qA,qA,qA,qA,qA,qA,qA,qA,qA,qA],[.cells (Notation.cells o0)],0,[]⟩=B X0 v0 v1 o0}:=by
 apply jM
 intro m X0 ih v0 v1 o0
 simp (config:={maxSteps:=100000000}) only[go_sem,jD,jE,jz,jA,jF,jG,jI,jJ,jK,jC,jH,jL,QA,QB,Tryd.f60,jB,mixed,QD,GH,ih]
 exact rfl
noncomputable def AP (n:Nat):Nat→(List Notation)→Int→Notation→Option Int
 |0,_,_,_=>none
 |m+1,v0,v1,o0=>(GI n).1 (AP n m) v0 v1 o0
theorem K9 (n:Nat): ∀ (m:Nat),(∀ (v0:List Notation) (v1:Int) (o0:Notation),run (tu n) [.lq m [0,1,0,1,1,1,1],.qC 0,.cut [1,1,1,1,1],.at [1,1,1,1,1]] ⟨[.nE false 4 (mp Notation.cells v0),qA,qA,.ptr 0 0,qA,qA,.int .i64 v1,qA,qA,qA,qA,qA,qA,qA,qA,qA,qA,qA,qA,qA,qA,qA,qA,qA,qA,qA,qA,qA,qA,qA,qA,qA,qA,qA,qA,qA,qA,qA,qA,qA,qA,qA,qA,qA,qA,qA,qA,qA,qA,qA],[.cells (Notation.cells o0)],0,[]⟩=AP n m v0 v1 o0)
 |0=>by intros;exact nk
 |m+1=>by
  have ih:=K9 n m
  intro v0 v1 o0
  rw[nq]
  exact (GI n).2 m _ ih v0 v1 o0
noncomputable def LW (n:Nat):{B:(List Notation)→Notation→Option Int // ∀ (a0:(List Notation)) (a1:Notation),run (tu n) [.at []] {slots:=[(oa Notation.row).enc a0,(nF Notation.cel).enc a1]++jN (50-[(oa Notation.row).enc a0,(nF Notation.cel).enc a1].length) qA,heap:=[]}=B a0 a1}:=by
 apply jM
 intro a0 a1
 simp (config:={maxSteps:=100000000}) only[go_sem,jD,jE,jz,jA,jF,jG,jI,jJ,jK,jC,jH,jL,QA,QB,Tryd.f60,jB,mixed,QD,GH,K9 n]
 exact rfl
noncomputable def E9:Nat→(List Notation)→Notation→Option Int
 |0,_,_=>none
 |n+1,a0,a1=>(LW n).1 a0 a1
theorem OK: ∀ (n:Nat) (a0:(List Notation)) (a1:Notation) (r:Int),E9 n a0 a1=some r→xS Tryd.prog 60 [(oa Notation.row).enc a0,(nF Notation.cel).enc a1] (fun v=>v=(o9 .i64).enc r)
 |0,_,_,_,h=>by cases h
 |n+1,a0,a1,r,h=>by
  exact pL (M:=tu n) ⟨(mV (qi (LV n)) (mV (uH (Ii n)) mY)),(qE (BD (zm n)) (qE (DL (Ii n)) (qE (BD (I5 n)) mZ))),nH _,nI _,oh,oH,oV,oG⟩ Tryd.func60 rfl rfl ⟨(oa Notation.row).nb 0 _,(nF Notation.cel).nb 0 _,trivial⟩ Tryd.ntmps60 Tryd.results60 (fun σ hs=>pz (P:=Tryd.prog) (rs:=[.tmp 4]) (t:=(o9 .i64)) (σ:=σ) (r:=r) hs) (((LW n).2 a0 a1).trans h)
end Go.Abs
namespace Go.Abs
open Go.Proofs
set_option maxRecDepth 100000
set_option maxHeartbeats 4000000
noncomputable def wQ (n:Nat):pO Bool where
 body:=(Tryd.f10.body).getD .skip
 P:=Tryd.prog
 cl:=om [(36,tH (oa Notation.row) (O3 37) pe (rW n))]
 cd:=oo []
 qT:=ot []
 cut:=ou []
 n:=n
 out:=pW Tryd.prog [.tmp 2] pe
 qZ:=nj []
theorem Zx (n:Nat):(wQ n).P=Tryd.prog∧(wQ n).cl=om [(36,tH (oa Notation.row) (O3 37) pe (rW n))]∧(wQ n).cd=oo []∧(wQ n).qT=ot []∧(wQ n).cut=ou []∧(wQ n).n=n∧(wQ n).out=pW Tryd.prog [.tmp 2] pe∧(wQ n).qZ=nj []:=⟨rfl,rfl,rfl,rfl,rfl,rfl,rfl,rfl⟩
theorem Zy (n:Nat):(wQ n).body=(Tryd.f10.body).getD .skip:=rfl
noncomputable def LX (n:Nat):{B:(List Notation)→Option Bool // ∀ (a0:(List Notation)),run (wQ n) [.at []] {slots:=[(oa Notation.row).enc a0]++jN (11-[(oa Notation.row).enc a0].length) qA,heap:=[]}=B a0}:=by
 apply jM
 intro a0
 simp (config:={maxSteps:=100000000}) only[go_sem,jD,jE,jz,jA,jF,jG,jI,jJ,jK,jC,jH,jL,Zx,Zy,Tryd.f10,jB,mixed]
 exact rfl
noncomputable def Ch:Nat→(List Notation)→Option Bool
 |0,_=>none
 |n+1,a0=>(LX n).1 a0
theorem KC: ∀ (n:Nat) (a0:(List Notation)) (r:Bool),Ch n a0=some r→xS Tryd.prog 10 [(oa Notation.row).enc a0] (fun v=>v=pe.enc r)
 |0,_,_,h=>by cases h
 |n+1,a0,r,h=>by
  exact pL (M:=wQ n) ⟨(mV (uH (Ap n)) mY),mZ,nH _,nI _,oh,oH,oV,oG⟩ Tryd.func10 rfl rfl ⟨(oa Notation.row).nb 0 _,trivial⟩ Tryd.ntmps10 Tryd.results10 (fun σ hs=>pz (P:=Tryd.prog) (rs:=[.tmp 2]) (t:=pe) (σ:=σ) (r:=r) hs) (((LX n).2 a0).trans h)
noncomputable def uW:Nrm:=⟨[],[],[zK,zA,zA,zA,zA,zA,zA,zA,zA,zA,zA,zA,zA,zA,zA,zA,zA,zA,zA,zA,zA,zA,zA,zA,zA,zA,zA,zA,zA,zA,zA,zA,zA,zA,zA,zA,zA,zA,zA,zA,zA,zA,zA,zA,zA,zA,zA,zA,zA,zA,zA,zA,zA,zA,zA,zA,zA,zA,zA,zA,zA,zA,zA,zA,zA,zA,zA,zA,zA,zA,zA,zA,zA,zA,zA,zA,zA,zA,zA,zA,zT (oa p8),zK,zK,zA,zA,zA,zA,zA,zA,zA,zA,zA,zA,zA,zA,zA,zA,zA,zA,zA,zA],[oC [zK,zK,zK,zK],oM (nF Notation.cel),oM (nF Notation.cel),oK],none,none⟩
noncomputable def uX:Nrm:=⟨[],[],[zK,zA,zA,zK,zA,zA,zK,zK,zT (oa p8),zA,zA,zA,zA,zA,zA,zA,zA,zA,zA,zA,zA,zA,zA,zA,zA,zA,zA,zA,zA,zA,zA,zA,zA,zA,zA,zA,zA,zA,zA,zA,zA,zA,zA,zA,zA,zA,zA,zA,zA,zA,zA,zA,zA,zA,zA,zA,zT (oa p8),zK,zK,zA,zA,zA,zA,zA,zA,zA,zA,zA,zA,zA,zA,zA,zA,zA,zA,zA,zA,zA,zA,zA,zA,zA,zA,zA,zA,zA,zA,zA,zA,zA,zA,zA,zA,zA,zA,zA,zA,zA,zA,zA,zA],[oC [zK,zK,zK,zK],oM (nF Notation.cel),oM (nF Notation.cel),oK,oT Notation.cel],none,(some (6,2))⟩
noncomputable def uY:Nrm:=⟨[],[],[zK,zA,zA,zK,zA,zA,zK,zK,zT (oa p8),zA,zA,zA,zA,zA,zA,zA,zA,zA,zA,zA,zA,zA,zA,zA,zA,zA,zA,zA,zA,zA,zA,zA,zA,zA,zA,zA,zA,zA,zA,zA,zA,zA,zA,zA,zA,zA,zA,zA,zA,zA,zA,zA,zA,zA,zA,zA,zT (oa p8),zK,zK,zA,zA,zA,zA,zA,zA,zA,zA,zA,zA,zA,zA,zA,zA,zA,zA,zA,zA,zA,zA,zA,zA,zA,zA,zA,zA,zA,zA,zA,zA,zA,zA,zA,zA,zA,zA,zA,zA,zA,zA,zA,zA],[oC [zK,zK,zK,zK],oM (nF Notation.cel),oM (nF Notation.cel),oK,oT Notation.cel],none,(some (6,1))⟩
noncomputable def nR:OL T8:=(sZ (BF (xg 1 (xg 2 (xg 3 (qy (o9 .i64) pP))))) (sZ (wh (nF Notation.cel)) (sZ (wh (nF Notation.cel)) (sZ K1 wX))))
noncomputable def pq:OL T8:=(sZ (BF (xg 1 (xg 2 (xg 3 (qy (o9 .i64) pP))))) (sZ (wh (nF Notation.cel)) (sZ (wh (nF Notation.cel)) (sZ K1 wX))))
noncomputable def n7 (n:Nat):pO Tn where
 body:=(Tryd.f61.body).getD .skip
 P:=Tryd.prog
 cl:=om [(12,qj (nF Notation.cel) (o9 .i64) (yB n)),(43,qj (nF Notation.cel) pe (tO n)),(96,tH (oa p8) sD pe (vN n))]
 cd:=oo []
 qT:=ot [([0,1,0,1,1,1,1,1,1,1,1],uW),([0,1,0,1,1,1,1,1,1],uX),([0,1,0,1,1,1,1,1,1],uY)]
 cut:=ou []
 n:=n
 out:=Ca Tryd.prog [.tmp 4] [] [0,1,2,3] 4 pq (qy (o9 .i64) pP)
 cp:=Jz [(95,entXP false [.arg 0 [],.obj 0 0 [],.obj 0 1 [],.obj 0 2 []] nY (tI 0 (qy (nF Notation.cel) pP)) qN (xg 2 (qy sD (qy (oa p8) pP))) qO (xg 1 (qy sD (qy (oa p8) pP))) (fun (b:T8) (a:(Notation×Unit))=>(y8 n) a.1 b.1.1 b.2.1 b.2.2.1 b.2.2.2.1))]
 qZ:=nj [95]
theorem zc (n:Nat):(n7 n).P=Tryd.prog∧(n7 n).cl=om [(12,qj (nF Notation.cel) (o9 .i64) (yB n)),(43,qj (nF Notation.cel) pe (tO n)),(96,tH (oa p8) sD pe (vN n))]∧(n7 n).cd=oo []∧(n7 n).qT=ot [([0,1,0,1,1,1,1,1,1,1,1],uW),([0,1,0,1,1,1,1,1,1],uX),([0,1,0,1,1,1,1,1,1],uY)]∧(n7 n).cut=ou []∧(n7 n).n=n∧(n7 n).out=Ca Tryd.prog [.tmp 4] [] [0,1,2,3] 4 pq (qy (o9 .i64) pP)∧(n7 n).cp=Jz [(95,entXP false [.arg 0 [],.obj 0 0 [],.obj 0 1 [],.obj 0 2 []] nY (tI 0 (qy (nF Notation.cel) pP)) qN (xg 2 (qy sD (qy (oa p8) pP))) qO (xg 1 (qy sD (qy (oa p8) pP))) (fun (b:T8) (a:(Notation×Unit))=>(y8 n) a.1 b.1.1 b.2.1 b.2.2.1 b.2.2.2.1))]∧(n7 n).qZ=nj [95]:=⟨rfl,rfl,rfl,rfl,rfl,rfl,rfl,rfl,rfl⟩
theorem zd (n:Nat):(n7 n).body=(Tryd.f61.body).getD .skip:=rfl
noncomputable def yH (n:Nat):{B:((List Str)→Int→Int→Int→T3→T3→T4→Option Tn)→(List Str)→Int→Int→Int→T3→T3→T4→Option Tn // ∀m X0,(∀ (v0:List Str) (v1:Int) (v2:Int) (v3:Int) (r1:List (Str×Notation)) (r2:List (Str×Notation)) (r3:List (Str×Bool)),run (n7 n) [.lq m [0,1,0,1,1,1,1,1,1,1,1],.qC 2,.cut [1,1,1,1,1,1,1,1,1],.at [1,1,1,1,1,1,1,1,1]] ⟨[.ptr 0 0,qA,qA,qA,qA,qA,qA,qA,qA,qA,qA,qA,qA,qA,qA,qA,qA,qA,qA,qA,qA,qA,qA,qA,qA,qA,qA,qA,qA,qA,qA,qA,qA,qA,qA,qA,qA,qA,qA,qA,qA,qA,qA,qA,qA,qA,qA,qA,qA,qA,qA,qA,qA,qA,qA,qA,qA,qA,qA,qA,qA,qA,qA,qA,qA,qA,qA,qA,qA,qA,qA,qA,qA,qA,qA,qA,qA,qA,qA,qA,.nE false 1 (mp n4 v0),.int .i64 v1,.int .i64 v2,qA,qA,qA,qA,qA,qA,qA,qA,qA,qA,qA,qA,qA,qA,qA,qA,qA,qA],[.cells [.map 1,.map 2,.map 3,.int .i64 v3],.map (mp (mcT (nF Notation.cel)) r1),.map (mp (mcT (nF Notation.cel)) r2),.map (mp mcB r3)],4,[]⟩=X0 v0 v1 v2 v3 r1 r2 r3)→ ∀ (v0:List Str) (v1:Int) (v2:Int) (v3:Int) (r1:List (Str×Notation)) (r2:List (Str×Notation)) (r3:List (Str×Bool)),run (n7 n) [.at [0,0,1,0,1,1,1,1,1,1,1,1],.lp m [0,1,0,1,1,1,1,1,1,1,1],.qC 2,.cut [1,1,1,1,1,1,1,1,1],.at [1,1,1,1,1,1,1,1,1]] ⟨[.ptr 0 0,qA,qA,qA,qA,qA,qA,qA,qA,qA,qA,qA,qA,qA,qA,qA,qA,qA,qA,qA,qA,qA,qA,qA,qA,qA,qA,qA,qA,qA,qA,qA,qA,qA,qA,qA,qA,qA,qA,qA,qA,qA,qA,qA,qA,qA,qA,qA,qA,qA,qA,qA,qA,qA,qA,qA,qA,qA,qA,qA,qA,qA,qA,qA,qA,qA,qA,qA,qA,qA,qA,qA,qA,qA,qA,qA,qA,qA,qA,qA,.nE false 1 (mp n4 v0),.int .i64 v1,.int .i64 v2,qA,qA,qA,qA,qA,qA,qA,qA,qA,qA,qA,qA,qA,qA,qA,qA,qA,qA],[.cells [.map 1,.map 2,.map 3,.int .i64 v3],.map (mp (mcT (nF Notation.cel)) r1),.map (mp (mcT (nF Notation.cel)) r2),.map (mp mcB r3)],4,[]⟩=B X0 v0 v1 v2 v3 r1 r2 r3}:=by
 apply jM
 intro m X0 ih v0 v1 v2 v3 r1 r2 r3
 simp (config:={maxSteps:=100000000,implicitDefEqProofs:=false}) only[go_sem,jD,jE,jz,jA,jF,jG,jI,jJ,jK,jC,jH,jL,zc,zd,Tryd.f61,jB,mixed,nR,pq,nY,qN,qO,uW,uX,uY,ih]
 exact rfl
noncomputable def tV (n:Nat):Nat→(List Str)→Int→Int→Int→T3→T3→T4→Option Tn
 |0,_,_,_,_,_,_,_=>none
 |m+1,v0,v1,v2,v3,r1,r2,r3=>(yH n).1 (tV n m) v0 v1 v2 v3 r1 r2 r3
theorem wL (n:Nat): ∀ (m:Nat),(∀ (v0:List Str) (v1:Int) (v2:Int) (v3:Int) (r1:List (Str×Notation)) (r2:List (Str×Notation)) (r3:List (Str×Bool)),run (n7 n) [.lq m [0,1,0,1,1,1,1,1,1,1,1],.qC 2,.cut [1,1,1,1,1,1,1,1,1],.at [1,1,1,1,1,1,1,1,1]] ⟨[.ptr 0 0,qA,qA,qA,qA,qA,qA,qA,qA,qA,qA,qA,qA,qA,qA,qA,qA,qA,qA,qA,qA,qA,qA,qA,qA,qA,qA,qA,qA,qA,qA,qA,qA,qA,qA,qA,qA,qA,qA,qA,qA,qA,qA,qA,qA,qA,qA,qA,qA,qA,qA,qA,qA,qA,qA,qA,qA,qA,qA,qA,qA,qA,qA,qA,qA,qA,qA,qA,qA,qA,qA,qA,qA,qA,qA,qA,qA,qA,qA,qA,.nE false 1 (mp n4 v0),.int .i64 v1,.int .i64 v2,qA,qA,qA,qA,qA,qA,qA,qA,qA,qA,qA,qA,qA,qA,qA,qA,qA,qA],[.cells [.map 1,.map 2,.map 3,.int .i64 v3],.map (mp (mcT (nF Notation.cel)) r1),.map (mp (mcT (nF Notation.cel)) r2),.map (mp mcB r3)],4,[]⟩=tV n m v0 v1 v2 v3 r1 r2 r3)
 |0=>by intros;exact nk
 |m+1=>by
  have ih:=wL n m
  intro v0 v1 v2 v3 r1 r2 r3
  rw[nq]
  exact (yH n).2 m _ ih v0 v1 v2 v3 r1 r2 r3
noncomputable def yI (n:Nat):{B:Tx→Str→(List Str)→(List Str)→Int→Int→Int→T3→T3→T4→Notation→Option Tn // ∀m X0,(∀ (v0:Str) (v1:List Str) (v2:List Str) (v3:Int) (v4:Int) (v5:Int) (r1:List (Str×Notation)) (r2:List (Str×Notation)) (r3:List (Str×Bool)) (o4:Notation),run (n7 n) [.lq m [0,1,0,1,1,1,1,1,1],.qC 0,.cut [1,1,1,1,1,1,1],.at [1,1,1,1,1,1,1]] ⟨[.ptr 0 0,qA,qA,.ptr 4 0,qA,qA,.map 2,.str (sb v0),.nE false 1 (mp n4 v1),qA,qA,qA,qA,qA,qA,qA,qA,qA,qA,qA,qA,qA,qA,qA,qA,qA,qA,qA,qA,qA,qA,qA,qA,qA,qA,qA,qA,qA,qA,qA,qA,qA,qA,qA,qA,qA,qA,qA,qA,qA,qA,qA,qA,qA,qA,qA,.nE false 1 (mp n4 v2),.int .i64 v3,.int .i64 v4,qA,qA,qA,qA,qA,qA,qA,qA,qA,qA,qA,qA,qA,qA,qA,qA,qA,qA,qA,qA,qA,qA,qA,qA,qA,qA,qA,qA,qA,qA,qA,qA,qA,qA,qA,qA,qA,qA,qA,qA,qA,qA],[.cells [.map 1,.map 2,.map 3,.int .i64 v5],.map (mp (mcT (nF Notation.cel)) r1),.map (mp (mcT (nF Notation.cel)) r2),.map (mp mcB r3),.cells (Notation.cells o4)],4,[]⟩=X0 v0 v1 v2 v3 v4 v5 r1 r2 r3 o4)→ ∀ (v0:Str) (v1:List Str) (v2:List Str) (v3:Int) (v4:Int) (v5:Int) (r1:List (Str×Notation)) (r2:List (Str×Notation)) (r3:List (Str×Bool)) (o4:Notation),run (n7 n) [.at [0,0,1,0,1,1,1,1,1,1],.lp m [0,1,0,1,1,1,1,1,1],.qC 0,.cut [1,1,1,1,1,1,1],.at [1,1,1,1,1,1,1]] ⟨[.ptr 0 0,qA,qA,.ptr 4 0,qA,qA,.map 2,.str (sb v0),.nE false 1 (mp n4 v1),qA,qA,qA,qA,qA,qA,qA,qA,qA,qA,qA,qA,qA,qA,qA,qA,qA,qA,qA,qA,qA,qA,qA,qA,qA,qA,qA,qA,qA,qA,qA,qA,qA,qA,qA,qA,qA,qA,qA,qA,qA,qA,qA,qA,qA,qA,qA,.nE false 1 (mp n4 v2),.int .i64 v3,.int .i64 v4,qA,qA,qA,qA,qA,qA,qA,qA,qA,qA,qA,qA,qA,qA,qA,qA,qA,qA,qA,qA,qA,qA,qA,qA,qA,qA,qA,qA,qA,qA,qA,qA,qA,qA,qA,qA,qA,qA,qA,qA,qA,qA],[.cells [.map 1,.map 2,.map 3,.int .i64 v5],.map (mp (mcT (nF Notation.cel)) r1),.map (mp (mcT (nF Notation.cel)) r2),.map (mp mcB r3),.cells (Notation.cells o4)],4,[]⟩=B X0 v0 v1 v2 v3 v4 v5 r1 r2 r3 o4}:=by
 apply jM
 intro m X0 ih v0 v1 v2 v3 v4 v5 r1 r2 r3 o4
 simp (config:={maxSteps:=100000000,implicitDefEqProofs:=false}) only[go_sem,jD,jE,jz,jA,jF,jG,jI,jJ,jK,jC,jH,jL,zc,zd,Tryd.f61,jB,mixed,nR,pq,nY,qN,qO,uW,uX,uY,wL n,ih]
 exact rfl
noncomputable def uZ (n:Nat):Nat→Str→(List Str)→(List Str)→Int→Int→Int→T3→T3→T4→Notation→Option Tn
 |0,_,_,_,_,_,_,_,_,_,_=>none
 |m+1,v0,v1,v2,v3,v4,v5,r1,r2,r3,o4=>(yI n).1 (uZ n m) v0 v1 v2 v3 v4 v5 r1 r2 r3 o4
theorem zy (n:Nat): ∀ (m:Nat),(∀ (v0:Str) (v1:List Str) (v2:List Str) (v3:Int) (v4:Int) (v5:Int) (r1:List (Str×Notation)) (r2:List (Str×Notation)) (r3:List (Str×Bool)) (o4:Notation),run (n7 n) [.lq m [0,1,0,1,1,1,1,1,1],.qC 0,.cut [1,1,1,1,1,1,1],.at [1,1,1,1,1,1,1]] ⟨[.ptr 0 0,qA,qA,.ptr 4 0,qA,qA,.map 2,.str (sb v0),.nE false 1 (mp n4 v1),qA,qA,qA,qA,qA,qA,qA,qA,qA,qA,qA,qA,qA,qA,qA,qA,qA,qA,qA,qA,qA,qA,qA,qA,qA,qA,qA,qA,qA,qA,qA,qA,qA,qA,qA,qA,qA,qA,qA,qA,qA,qA,qA,qA,qA,qA,qA,.nE false 1 (mp n4 v2),.int .i64 v3,.int .i64 v4,qA,qA,qA,qA,qA,qA,qA,qA,qA,qA,qA,qA,qA,qA,qA,qA,qA,qA,qA,qA,qA,qA,qA,qA,qA,qA,qA,qA,qA,qA,qA,qA,qA,qA,qA,qA,qA,qA,qA,qA,qA,qA],[.cells [.map 1,.map 2,.map 3,.int .i64 v5],.map (mp (mcT (nF Notation.cel)) r1),.map (mp (mcT (nF Notation.cel)) r2),.map (mp mcB r3),.cells (Notation.cells o4)],4,[]⟩=uZ n m v0 v1 v2 v3 v4 v5 r1 r2 r3 o4)
 |0=>by intros;exact nk
 |m+1=>by
  have ih:=zy n m
  intro v0 v1 v2 v3 v4 v5 r1 r2 r3 o4
  rw[nq]
  exact (yI n).2 m _ ih v0 v1 v2 v3 v4 v5 r1 r2 r3 o4
noncomputable def yJ (n:Nat):{B:Tx→Str→(List Str)→(List Str)→Int→Int→Int→T3→T3→T4→Notation→Option Tn // ∀m X0,(∀ (v0:Str) (v1:List Str) (v2:List Str) (v3:Int) (v4:Int) (v5:Int) (r1:List (Str×Notation)) (r2:List (Str×Notation)) (r3:List (Str×Bool)) (o4:Notation),run (n7 n) [.lq m [0,1,0,1,1,1,1,1,1],.qC 0,.cut [1,1,1,1,1,1,1],.at [1,1,1,1,1,1,1]] ⟨[.ptr 0 0,qA,qA,.ptr 4 0,qA,qA,.map 1,.str (sb v0),.nE false 1 (mp n4 v1),qA,qA,qA,qA,qA,qA,qA,qA,qA,qA,qA,qA,qA,qA,qA,qA,qA,qA,qA,qA,qA,qA,qA,qA,qA,qA,qA,qA,qA,qA,qA,qA,qA,qA,qA,qA,qA,qA,qA,qA,qA,qA,qA,qA,qA,qA,qA,.nE false 1 (mp n4 v2),.int .i64 v3,.int .i64 v4,qA,qA,qA,qA,qA,qA,qA,qA,qA,qA,qA,qA,qA,qA,qA,qA,qA,qA,qA,qA,qA,qA,qA,qA,qA,qA,qA,qA,qA,qA,qA,qA,qA,qA,qA,qA,qA,qA,qA,qA,qA,qA],[.cells [.map 1,.map 2,.map 3,.int .i64 v5],.map (mp (mcT (nF Notation.cel)) r1),.map (mp (mcT (nF Notation.cel)) r2),.map (mp mcB r3),.cells (Notation.cells o4)],4,[]⟩=X0 v0 v1 v2 v3 v4 v5 r1 r2 r3 o4)→ ∀ (v0:Str) (v1:List Str) (v2:List Str) (v3:Int) (v4:Int) (v5:Int) (r1:List (Str×Notation)) (r2:List (Str×Notation)) (r3:List (Str×Bool)) (o4:Notation),run (n7 n) [.at [0,0,1,0,1,1,1,1,1,1],.lp m [0,1,0,1,1,1,1,1,1],.qC 0,.cut [1,1,1,1,1,1,1],.at [1,1,1,1,1,1,1]] ⟨[.ptr 0 0,qA,qA,.ptr 4 0,qA,qA,.map 1,.str (sb v0),.nE false 1 (mp n4 v1),qA,qA,qA,qA,qA,qA,qA,qA,qA,qA,qA,qA,qA,qA,qA,qA,qA,qA,qA,qA,qA,qA,qA,qA,qA,qA,qA,qA,qA,qA,qA,qA,qA,qA,qA,qA,qA,qA,qA,qA,qA,qA,qA,qA,qA,qA,qA,.nE false 1 (mp n4 v2),.int .i64 v3,.int .i64 v4,qA,qA,qA,qA,qA,qA,qA,qA,qA,qA,qA,qA,qA,qA,qA,qA,qA,qA,qA,qA,qA,qA,qA,qA,qA,qA,qA,qA,qA,qA,qA,qA,qA,qA,qA,qA,qA,qA,qA,qA,qA,qA],[.cells [.map 1,.map 2,.map 3,.int .i64 v5],.map (mp (mcT (nF Notation.cel)) r1),.map (mp (mcT (nF Notation.cel)) r2),.map (mp mcB r3),.cells (Notation.cells o4)],4,[]⟩=B X0 v0 v1 v2 v3 v4 v5 r1 r2 r3 o4}:=by
 apply jM
 intro m X0 ih v0 v1 v2 v3 v4 v5 r1 r2 r3 o4
 simp (config:={maxSteps:=100000000,implicitDefEqProofs:=false}) only[go_sem,jD,jE,jz,jA,jF,jG,jI,jJ,jK,jC,jH,jL,zc,zd,Tryd.f61,jB,mixed,nR,pq,nY,qN,qO,uW,uX,uY,wL n,zy n,ih]
 exact rfl
noncomputable def u0 (n:Nat):Nat→Str→(List Str)→(List Str)→Int→Int→Int→T3→T3→T4→Notation→Option Tn
 |0,_,_,_,_,_,_,_,_,_,_=>none
 |m+1,v0,v1,v2,v3,v4,v5,r1,r2,r3,o4=>(yJ n).1 (u0 n m) v0 v1 v2 v3 v4 v5 r1 r2 r3 o4
theorem CP (n:Nat): ∀ (m:Nat),(∀ (v0:Str) (v1:List Str) (v2:List Str) (v3:Int) (v4:Int) (v5:Int) (r1:List (Str×Notation)) (r2:List (Str×Notation)) (r3:List (Str×Bool)) (o4:Notation),run (n7 n) [.lq m [0,1,0,1,1,1,1,1,1],.qC 0,.cut [1,1,1,1,1,1,1],.at [1,1,1,1,1,1,1]] ⟨[.ptr 0 0,qA,qA,.ptr 4 0,qA,qA,.map 1,.str (sb v0),.nE false 1 (mp n4 v1),qA,qA,qA,qA,qA,qA,qA,qA,qA,qA,qA,qA,qA,qA,qA,qA,qA,qA,qA,qA,qA,qA,qA,qA,qA,qA,qA,qA,qA,qA,qA,qA,qA,qA,qA,qA,qA,qA,qA,qA,qA,qA,qA,qA,qA,qA,qA,.nE false 1 (mp n4 v2),.int .i64 v3,.int .i64 v4,qA,qA,qA,qA,qA,qA,qA,qA,qA,qA,qA,qA,qA,qA,qA,qA,qA,qA,qA,qA,qA,qA,qA,qA,qA,qA,qA,qA,qA,qA,qA,qA,qA,qA,qA,qA,qA,qA,qA,qA,qA,qA],[.cells [.map 1,.map 2,.map 3,.int .i64 v5],.map (mp (mcT (nF Notation.cel)) r1),.map (mp (mcT (nF Notation.cel)) r2),.map (mp mcB r3),.cells (Notation.cells o4)],4,[]⟩=u0 n m v0 v1 v2 v3 v4 v5 r1 r2 r3 o4)
 |0=>by intros;exact nk
 |m+1=>by
  have ih:=CP n m
  intro v0 v1 v2 v3 v4 v5 r1 r2 r3 o4
  rw[nq]
  exact (yJ n).2 m _ ih v0 v1 v2 v3 v4 v5 r1 r2 r3 o4
noncomputable def BY (n:Nat):{B:Notation→Int→T3→T3→T4→Option Tn // ∀ (a0:Notation) (o0:Int) (o1:T3) (o2:T3) (o3:T4),run (n7 n) [.at []] {slots:=((tI 0 (qy (nF Notation.cel) pP)).enc (nR.lens ((o0,()),o1,o2,o3,())) (a0,()))++jN (101-((tI 0 (qy (nF Notation.cel) pP)).enc (nR.lens ((o0,()),o1,o2,o3,())) (a0,())).length) qA,heap:=(nR.enc (nR.lens ((o0,()),o1,o2,o3,())) ((o0,()),o1,o2,o3,())),low:=(nR.enc (nR.lens ((o0,()),o1,o2,o3,())) ((o0,()),o1,o2,o3,())).length}=B a0 o0 o1 o2 o3}:=by
 apply jM
 intro a0 o0 o1 o2 o3
 simp (config:={maxSteps:=100000000,implicitDefEqProofs:=false}) only[go_sem,jD,jE,jz,jA,jF,jG,jI,jJ,jK,jC,jH,jL,zc,zd,Tryd.f61,jB,mixed,nR,pq,nY,qN,qO,uW,uX,uY,wL n,zy n,CP n]
 exact rfl
noncomputable def vm:Nat→Notation→Int→T3→T3→T4→Option Tn
 |0,_,_,_,_,_=>none
 |n+1,a0,o0,o1,o2,o3=>(BY n).1 a0 o0 o1 o2 o3
theorem EM: ∀ (n:Nat) (a0:Notation) (o0:Int) (o1:T3) (o2:T3) (o3:T4) (r:Tn),vm n a0 o0 o1 o2 o3=some r→Ob Tryd.prog 61 ((tI 0 (qy (nF Notation.cel) pP)).enc (nR.lens ((o0,()),o1,o2,o3,())) (a0,())) (nR.enc (nR.lens ((o0,()),o1,o2,o3,())) ((o0,()),o1,o2,o3,())) (fun o H'=>o= .ret (uR ((qy (o9 .i64) pP).enc (pq.lens r.1) r.2))∧H'=pq.enc (pq.lens r.1) r.1)
 |0,_,_,_,_,_,_,h=>by cases h
 |n+1,a0,o0,o1,o2,o3,r,h=>by
  exact wW (M:=n7 n) ⟨(mV (qi (Il n)) (mV (qi (zZ n)) (mV (uH (HA n)) mY))),mZ,nH _,nI _,oh,oH,(xF (CG (fun b a r h=>(JF n) a.1 b.1.1 b.2.1 b.2.2.1 b.2.2.2.1 r h)) BG),oG⟩ Tryd.func61 rfl rfl (sE (jO (of_decide_eq_true (by kernel_rfl)) (jP (nR.sz _ _).symm)) _ ((tI 0 (qy (nF Notation.cel) pP)).nb _ _)) (fun x hx=>tN (jO (of_decide_eq_true (by kernel_rfl)) (jP (nR.sz _ _).symm)) _ (nR.nb _ _ x hx)) Tryd.ntmps61 Tryd.results61 (fun σ hs=>AA (P:=Tryd.prog) (rs:=[.tmp 4]) (pos:=[]) (base:=[0,1,2,3]) (low:=4) (os:=pq) (s:=(qy (o9 .i64) pP)) (σ:=σ) (r:=r) (by rfl) hs) (((BY n).2 a0 o0 o1 o2 o3).trans h)
noncomputable def Et:Nrm:=⟨[],[],[zT (oa Notation.row),zA,zA,zK,zA,zA,zA,zA,zA,zA,zA,zA,zA,zA,zA,zA,zA,zA,zA],[],none,none⟩
noncomputable def rL (n:Nat):pO Bool where
 body:=(Tryd.f23.body).getD .skip
 P:=Tryd.prog
 cl:=om []
 cd:=oo [(60,vY (tH (oa Notation.row) (nF Notation.cel) (o9 .i64) (E9 n)))]
 qT:=ot [([0,1,0,1],Et)]
 cut:=ou []
 n:=n
 out:=pW Tryd.prog [.tmp 2] pe
 qZ:=nj []
 Ay:=nj []
 Ax:=nj []
theorem Nn (n:Nat):(rL n).P=Tryd.prog∧(rL n).cl=om []∧(rL n).cd=oo [(60,vY (tH (oa Notation.row) (nF Notation.cel) (o9 .i64) (E9 n)))]∧(rL n).qT=ot [([0,1,0,1],Et)]∧(rL n).cut=ou []∧(rL n).n=n∧(rL n).out=pW Tryd.prog [.tmp 2] pe∧(rL n).qZ=nj []∧(rL n).Ay=nj []∧(rL n).Ax=nj []:=⟨rfl,rfl,rfl,rfl,rfl,rfl,rfl,rfl,rfl,rfl⟩
theorem No (n:Nat):(rL n).body=(Tryd.f23.body).getD .skip:=rfl
theorem Np (n:Nat):tY (rL n) [0,0,0,1,0,0,1,0,1]=true:=by kernel_rfl
noncomputable def Eu (n:Nat):{B:((List Notation)→Int→Option Bool)→(List Notation)→Int→Option Bool // ∀m X0,(∀ (v0:List Notation) (v1:Int),run (rL n) [.lq m [0,1,0,1],.qC 0,.cut [1,1],.at [1,1]] ⟨[.nE false 4 (mp Notation.cells v0),qA,qA,.int .i64 v1,qA,qA,qA,qA,qA,qA,qA,qA,qA,qA,qA,qA,qA,qA,qA],[],0,[]⟩=X0 v0 v1)→ ∀ (v0:List Notation) (v1:Int),run (rL n) [.at [0,0,1,0,1],.lp m [0,1,0,1],.qC 0,.cut [1,1],.at [1,1]] ⟨[.nE false 4 (mp Notation.cells v0),qA,qA,.int .i64 v1,qA,qA,qA,qA,qA,qA,qA,qA,qA,qA,qA,qA,qA,qA,qA],[],0,[]⟩=B X0 v0 v1}:=by
 apply jM
 intro m X0 ih v0 v1
 simp (config:={maxSteps:=100000000}) only[go_sem,jD,jE,jz,jA,jF,jG,jI,jJ,jK,jC,jH,jL,Nn,No,Tryd.f23,jB,mixed,Np,Et,ih]
 exact rfl
noncomputable def Ak (n:Nat):Nat→(List Notation)→Int→Option Bool
 |0,_,_=>none
 |m+1,v0,v1=>(Eu n).1 (Ak n m) v0 v1
theorem Im (n:Nat): ∀ (m:Nat),(∀ (v0:List Notation) (v1:Int),run (rL n) [.lq m [0,1,0,1],.qC 0,.cut [1,1],.at [1,1]] ⟨[.nE false 4 (mp Notation.cells v0),qA,qA,.int .i64 v1,qA,qA,qA,qA,qA,qA,qA,qA,qA,qA,qA,qA,qA,qA,qA],[],0,[]⟩=Ak n m v0 v1)
 |0=>by intros;exact nk
 |m+1=>by
  have ih:=Im n m
  intro v0 v1
  rw[nq]
  exact (Eu n).2 m _ ih v0 v1
noncomputable def Jf (n:Nat):{B:(List Notation)→Option Bool // ∀ (a0:(List Notation)),run (rL n) [.at []] {slots:=[(oa Notation.row).enc a0]++jN (19-[(oa Notation.row).enc a0].length) qA,heap:=[]}=B a0}:=by
 apply jM
 intro a0
 simp (config:={maxSteps:=100000000}) only[go_sem,jD,jE,jz,jA,jF,jG,jI,jJ,jK,jC,jH,jL,Nn,No,Tryd.f23,jB,mixed,Np,Et,Im n]
 exact rfl
noncomputable def BZ:Nat→(List Notation)→Option Bool
 |0,_=>none
 |n+1,a0=>(Jf n).1 a0
theorem LY: ∀ (n:Nat) (a0:(List Notation)) (r:Bool),BZ n a0=some r→xS Tryd.prog 23 [(oa Notation.row).enc a0] (fun v=>v=pe.enc r)
 |0,_,_,h=>by cases h
 |n+1,a0,r,h=>by
  exact pL (M:=rL n) ⟨mY,(qE (DL (OK n)) mZ),nH _,nI _,oh,oH,oV,oG⟩ Tryd.func23 rfl rfl ⟨(oa Notation.row).nb 0 _,trivial⟩ Tryd.ntmps23 Tryd.results23 (fun σ hs=>pz (P:=Tryd.prog) (rs:=[.tmp 2]) (t:=pe) (σ:=σ) (r:=r) hs) (((Jf n).2 a0).trans h)
end Go.Abs
namespace Go.Abs
open Go.Proofs
set_option maxRecDepth 100000
set_option maxHeartbeats 4000000
noncomputable def zM:Nrm:=⟨[],[],[zA,zA,zA,zA,zK,zA,zA,zA,zT (oa Notation.row),zK,zK,zA,zA,zA,zA,zA,zA,zA,zA,zA],[oC [zK,zK,zK,zK],oM (nF Notation.cel),oM (nF Notation.cel),oK],none,none⟩
noncomputable def p9:AL Unit:=(alK (.raw (.pointer none)) nbK_r (alK (.bool false) MX pP))
noncomputable def qa:OL T8:=(sZ (BF (xg 1 (xg 2 (xg 3 (qy (o9 .i64) pP))))) (sZ (wh (nF Notation.cel)) (sZ (wh (nF Notation.cel)) (sZ K1 wX))))
noncomputable def qJ (n:Nat):pO To where
 body:=(Tryd.f51.body).getD .skip
 P:=Tryd.prog
 cl:=om [(61,entX [.arg 0 [],.obj 0 0 [],.obj 0 1 [],.obj 0 2 []] nR (tI 0 (qy (nF Notation.cel) pP)) pq (qy (o9 .i64) pP) (fun (b:T8) (a:(Notation×Unit))=>(vm n) a.1 b.1.1 b.2.1 b.2.2.1 b.2.2.2.1)),(78,entX [] wX pP q4 (tI 0 pP) (fun (b:Unit) (a:Unit)=>(yW n)))]
 cd:=oo []
 qT:=ot [([0,1,0,1,1],zM)]
 cut:=ou []
 n:=n
 out:=SE Tryd.prog [.tmp 2,.tmp 3] [] [] 0 wX p9 [.arg 0 [],.obj 0 0 [],.obj 0 1 [],.obj 0 2 []] qa (tI 0 (alK (.bool true) MX pP))
 qZ:=nj []
theorem Hr (n:Nat):(qJ n).P=Tryd.prog∧(qJ n).cl=om [(61,entX [.arg 0 [],.obj 0 0 [],.obj 0 1 [],.obj 0 2 []] nR (tI 0 (qy (nF Notation.cel) pP)) pq (qy (o9 .i64) pP) (fun (b:T8) (a:(Notation×Unit))=>(vm n) a.1 b.1.1 b.2.1 b.2.2.1 b.2.2.2.1)),(78,entX [] wX pP q4 (tI 0 pP) (fun (b:Unit) (a:Unit)=>(yW n)))]∧(qJ n).cd=oo []∧(qJ n).qT=ot [([0,1,0,1,1],zM)]∧(qJ n).cut=ou []∧(qJ n).n=n∧(qJ n).out=SE Tryd.prog [.tmp 2,.tmp 3] [] [] 0 wX p9 [.arg 0 [],.obj 0 0 [],.obj 0 1 [],.obj 0 2 []] qa (tI 0 (alK (.bool true) MX pP))∧(qJ n).qZ=nj []:=⟨rfl,rfl,rfl,rfl,rfl,rfl,rfl,rfl⟩
theorem Hs (n:Nat):(qJ n).body=(Tryd.f51.body).getD .skip:=rfl
noncomputable def zN (n:Nat):{B:((List Notation)→Int→Int→Int→T3→T3→T4→Option To)→(List Notation)→Int→Int→Int→T3→T3→T4→Option To // ∀m X0,(∀ (v0:List Notation) (v1:Int) (v2:Int) (v3:Int) (r1:List (Str×Notation)) (r2:List (Str×Notation)) (r3:List (Str×Bool)),run (qJ n) [.lq m [0,1,0,1,1],.qC 0,.cut [1,1,1],.at [1,1,1]] ⟨[qA,qA,qA,qA,.ptr 0 0,qA,qA,qA,.nE false 4 (mp Notation.cells v0),.int .i64 v1,.int .i64 v2,qA,qA,qA,qA,qA,qA,qA,qA,qA],[.cells [.map 1,.map 2,.map 3,.int .i64 v3],.map (mp (mcT (nF Notation.cel)) r1),.map (mp (mcT (nF Notation.cel)) r2),.map (mp mcB r3)],0,[]⟩=X0 v0 v1 v2 v3 r1 r2 r3)→ ∀ (v0:List Notation) (v1:Int) (v2:Int) (v3:Int) (r1:List (Str×Notation)) (r2:List (Str×Notation)) (r3:List (Str×Bool)),run (qJ n) [.at [0,0,1,0,1,1],.lp m [0,1,0,1,1],.qC 0,.cut [1,1,1],.at [1,1,1]] ⟨[qA,qA,qA,qA,.ptr 0 0,qA,qA,qA,.nE false 4 (mp Notation.cells v0),.int .i64 v1,.int .i64 v2,qA,qA,qA,qA,qA,qA,qA,qA,qA],[.cells [.map 1,.map 2,.map 3,.int .i64 v3],.map (mp (mcT (nF Notation.cel)) r1),.map (mp (mcT (nF Notation.cel)) r2),.map (mp mcB r3)],0,[]⟩=B X0 v0 v1 v2 v3 r1 r2 r3}:=by
 apply jM
 intro m X0 ih v0 v1 v2 v3 r1 r2 r3
 simp (config:={maxSteps:=100000000}) only[go_sem,jD,jE,jz,jA,jF,jG,jI,jJ,jK,jC,jH,jL,Hr,Hs,Tryd.f51,jB,mixed,p9,qa,q4,nR,pq,zM,ih]
 exact rfl
noncomputable def vX (n:Nat):Nat→(List Notation)→Int→Int→Int→T3→T3→T4→Option To
 |0,_,_,_,_,_,_,_=>none
 |m+1,v0,v1,v2,v3,r1,r2,r3=>(zN n).1 (vX n m) v0 v1 v2 v3 r1 r2 r3
theorem Ew (n:Nat): ∀ (m:Nat),(∀ (v0:List Notation) (v1:Int) (v2:Int) (v3:Int) (r1:List (Str×Notation)) (r2:List (Str×Notation)) (r3:List (Str×Bool)),run (qJ n) [.lq m [0,1,0,1,1],.qC 0,.cut [1,1,1],.at [1,1,1]] ⟨[qA,qA,qA,qA,.ptr 0 0,qA,qA,qA,.nE false 4 (mp Notation.cells v0),.int .i64 v1,.int .i64 v2,qA,qA,qA,qA,qA,qA,qA,qA,qA],[.cells [.map 1,.map 2,.map 3,.int .i64 v3],.map (mp (mcT (nF Notation.cel)) r1),.map (mp (mcT (nF Notation.cel)) r2),.map (mp mcB r3)],0,[]⟩=vX n m v0 v1 v2 v3 r1 r2 r3)
 |0=>by intros;exact nk
 |m+1=>by
  have ih:=Ew n m
  intro v0 v1 v2 v3 r1 r2 r3
  rw[nq]
  exact (zN n).2 m _ ih v0 v1 v2 v3 r1 r2 r3
noncomputable def Dh (n:Nat):{B:(List Notation)→Option To // ∀ (a0:(List Notation)),run (qJ n) [.at []] {slots:=((qy (oa Notation.row) pP).enc (wX.lens ()) (a0,()))++jN (20-((qy (oa Notation.row) pP).enc (wX.lens ()) (a0,())).length) qA,heap:=(wX.enc (wX.lens ()) ()),low:=(wX.enc (wX.lens ()) ()).length}=B a0}:=by
 apply jM
 intro a0
 simp (config:={maxSteps:=100000000}) only[go_sem,jD,jE,jz,jA,jF,jG,jI,jJ,jK,jC,jH,jL,Hr,Hs,Tryd.f51,jB,mixed,p9,qa,q4,nR,pq,zM,Ew n]
 exact rfl
noncomputable def uK:Nat→(List Notation)→Option To
 |0,_=>none
 |n+1,a0=>(Dh n).1 a0
theorem Cy: ∀ (n:Nat) (a0:(List Notation)) (r:To),uK n a0=some r→FnP Tryd.prog 51 ((qy (oa Notation.row) pP).enc (wX.lens ()) (a0,())) (wX.enc (wX.lens ()) ()) (enP false wX p9 qa (tI 0 (alK (.bool true) MX pP)) r)
 |0,_,_,h=>by cases h
 |n+1,a0,r,h=>by
  exact fnS_run (p1:=[]) (p2:=[.arg 0 [],.obj 0 0 [],.obj 0 1 [],.obj 0 2 []]) (b1:=[]) (M:=qJ n) ⟨(mV (zF (fun b a r h=>(EM n) a.1 b.1.1 b.2.1 b.2.2.1 b.2.2.2.1 r h)) (mV (zF (fun b a r h=>(LD n) r h)) mY)),mZ,nH _,nI _,oh,oH,oV,oG⟩ Tryd.func51 rfl rfl (sE (jO (of_decide_eq_true (by kernel_rfl)) (jP (wX.sz _ _).symm)) _ ((qy (oa Notation.row) pP).nb _ _)) (fun x hx=>tN (jO (of_decide_eq_true (by kernel_rfl)) (jP (wX.sz _ _).symm)) _ (wX.nb _ _ x hx)) Tryd.ntmps51 Tryd.results51 (low:=0) (by rfl) rfl (((Dh n).2 a0).trans h)
noncomputable def wR (n:Nat):pO Tp where
 body:=(Tryd.f31.body).getD .skip
 P:=Tryd.prog
 cl:=om [(23,qj (oa Notation.row) pe (BZ n)),(60,tH (oa Notation.row) (nF Notation.cel) (o9 .i64) (E9 n))]
 cd:=oo []
 qT:=ot []
 cut:=ou []
 n:=n
 out:=pW Tryd.prog [.tmp 4,.tmp 5] (K0 (oa Notation.row) (o9 .i64))
 qZ:=nj []
theorem Zz (n:Nat):(wR n).P=Tryd.prog∧(wR n).cl=om [(23,qj (oa Notation.row) pe (BZ n)),(60,tH (oa Notation.row) (nF Notation.cel) (o9 .i64) (E9 n))]∧(wR n).cd=oo []∧(wR n).qT=ot []∧(wR n).cut=ou []∧(wR n).n=n∧(wR n).out=pW Tryd.prog [.tmp 4,.tmp 5] (K0 (oa Notation.row) (o9 .i64))∧(wR n).qZ=nj []:=⟨rfl,rfl,rfl,rfl,rfl,rfl,rfl,rfl⟩
theorem ZA (n:Nat):(wR n).body=(Tryd.f31.body).getD .skip:=rfl
noncomputable def Io (n:Nat):{B:(List Notation)→Notation→Option Tp // ∀ (a0:(List Notation)) (a1:Notation),run (wR n) [.at []] {slots:=[(oa Notation.row).enc a0,(nF Notation.cel).enc a1]++jN (24-[(oa Notation.row).enc a0,(nF Notation.cel).enc a1].length) qA,heap:=[]}=B a0 a1}:=by
 apply jM
 intro a0 a1
 simp (config:={maxSteps:=100000000}) only[go_sem,jD,jE,jz,jA,jF,jG,jI,jJ,jK,jC,jH,jL,Zz,ZA,Tryd.f31,jB,mixed]
 exact rfl
noncomputable def GN:Nat→(List Notation)→Notation→Option Tp
 |0,_,_=>none
 |n+1,a0,a1=>(Io n).1 a0 a1
theorem W5: ∀ (n:Nat) (a0:(List Notation)) (a1:Notation) (r:Tp),GN n a0 a1=some r→xS Tryd.prog 31 [(oa Notation.row).enc a0,(nF Notation.cel).enc a1] (fun v=>v=(K0 (oa Notation.row) (o9 .i64)).enc r)
 |0,_,_,_,h=>by cases h
 |n+1,a0,a1,r,h=>by
  exact pL (M:=wR n) ⟨(mV (qi (LY n)) (mV (uH (OK n)) mY)),mZ,nH _,nI _,oh,oH,oV,oG⟩ Tryd.func31 rfl rfl ⟨(oa Notation.row).nb 0 _,(nF Notation.cel).nb 0 _,trivial⟩ Tryd.ntmps31 Tryd.results31 (fun σ hs=>pz (P:=Tryd.prog) (rs:=[.tmp 4,.tmp 5]) (t:=(K0 (oa Notation.row) (o9 .i64))) (σ:=σ) (r:=r) hs) (((Io n).2 a0 a1).trans h)
noncomputable def tg (n:Nat):pO Tu where
 body:=(Tryd.f16.body).getD .skip
 P:=Tryd.prog
 cl:=om [(23,qj (oa Notation.row) pe (BZ n)),(54,entG [0] (B9 (ID mO.cel) Ba) (Uu 0 (Ue (o9 .i64) Mo)) (B9 (ID mO.cel) Ba) (Jw (nF Syntax.cel) (Jw (o9 .i64) Kf)) (fun (b:Tj) a=>(nG n) b.1 a.1))]
 cd:=oo []
 qT:=ot []
 cut:=ou []
 n:=n
 out:=pW Tryd.prog [.cell 4 36,.tmp 5,.tmp 6] (Ud (nF Syntax.cel) (o9 .i64) (o9 .i64))
 qZ:=nj []
 Ay:=nj []
 Ax:=nj []
theorem UW (n:Nat):(tg n).P=Tryd.prog∧(tg n).cl=om [(23,qj (oa Notation.row) pe (BZ n)),(54,entG [0] (B9 (ID mO.cel) Ba) (Uu 0 (Ue (o9 .i64) Mo)) (B9 (ID mO.cel) Ba) (Jw (nF Syntax.cel) (Jw (o9 .i64) Kf)) (fun (b:Tj) a=>(nG n) b.1 a.1))]∧(tg n).cd=oo []∧(tg n).qT=ot []∧(tg n).cut=ou []∧(tg n).n=n∧(tg n).out=pW Tryd.prog [.cell 4 36,.tmp 5,.tmp 6] (Ud (nF Syntax.cel) (o9 .i64) (o9 .i64))∧(tg n).qZ=nj []∧(tg n).Ay=nj []∧(tg n).Ax=nj []:=⟨rfl,rfl,rfl,rfl,rfl,rfl,rfl,rfl,rfl,rfl⟩
theorem UX (n:Nat):(tg n).body=(Tryd.f16.body).getD .skip:=rfl
theorem UY (n:Nat):tY (tg n) [0,0,1,0,1,1,1,1,1]=true:=by kernel_rfl
noncomputable def CQ (n:Nat):{B:(List Notation)→(List Syntax)→Option Tu // ∀ (a0:(List Notation)) (a1:(List Syntax)),run (tg n) [.at []] {slots:=[(oa Notation.row).enc a0,(oa Syntax.row).enc a1]++jN (46-[(oa Notation.row).enc a0,(oa Syntax.row).enc a1].length) qA,heap:=[]}=B a0 a1}:=by
 apply jM
 intro a0 a1
 simp (config:={maxSteps:=100000000}) only[go_sem,jD,jE,jz,jA,jF,jG,jI,jJ,jK,jC,jH,jL,UW,UX,Tryd.f16,jB,mixed,UY]
 exact rfl
noncomputable def As:Nat→(List Notation)→(List Syntax)→Option Tu
 |0,_,_=>none
 |n+1,a0,a1=>(CQ n).1 a0 a1
theorem S6: ∀ (n:Nat) (a0:(List Notation)) (a1:(List Syntax)) (r:Tu),As n a0 a1=some r→xS Tryd.prog 16 [(oa Notation.row).enc a0,(oa Syntax.row).enc a1] (fun v=>v=(Ud (nF Syntax.cel) (o9 .i64) (o9 .i64)).enc r)
 |0,_,_,_,h=>by cases h
 |n+1,a0,a1,r,h=>by
  exact pL (M:=tg n) ⟨(mV (qi (LY n)) (mV (Kh (fun b a r h=>(yF n) b.1 a.1 r h)) mY)),mZ,nH _,nI _,oh,oH,oV,oG⟩ Tryd.func16 rfl rfl ⟨(oa Notation.row).nb 0 _,(oa Syntax.row).nb 0 _,trivial⟩ Tryd.ntmps16 Tryd.results16 (fun σ hs=>pz (P:=Tryd.prog) (rs:=[.cell 4 36,.tmp 5,.tmp 6]) (t:=(Ud (nF Syntax.cel) (o9 .i64) (o9 .i64))) (σ:=σ) (r:=r) hs) (((CQ n).2 a0 a1).trans h)
end Go.Abs
