/- A part of the proof: what the functions compute. -/
import Derived.Test.YtfilfimjoeapgaaDoorDataA
import Derived.Test.YtfilfimjoeapgaaDoorWalkC
import Derived.Test.YtfilfimjoeapgaaDoorWalkA
import Derived.Test.YtfilfimjoeapgaaDoorWalkB
import Derived.Test.YtfilfimjoeapgaaDoorExtA
set_option linter.all false
open Nat renaming reduceLeDiff → ju,reduceEqDiff → jv,reduceAdd → jy,reduceSub → jz,reduceBEq → jA,reduceMul → jB,reduceLT → jD,le_trans → jJ,le_of_eq → jK
open Option renaming getD_some → jw
open Int renaming reduceToNat → jx,reduceBEq → jC,reduceLE → jE,reduceLT → jF,reduceEq → jG
open Subtype renaming mk → jH
open List renaming replicate → jI
open Go.Abs.AV renaming any → qA
namespace Go.Abs
open Go.Proofs
set_option maxRecDepth 100000
set_option maxHeartbeats 4000000
noncomputable def vB (n:Nat):Mach Bool where
 body:=(Tryd.f37.body).getD .skip
 P:=Tryd.prog
 cl:=oJ [(38,su (tyL sD) (E4 39) oF (qN n))]
 cd:=oN []
 qR:=oO []
 cut:=oP []
 n:=n
 out:=pS Tryd.prog [.tmp 2] oF
 q6:=nJ []
theorem Ua (n:Nat):(vB n).P=Tryd.prog∧(vB n).cl=oJ [(38,su (tyL sD) (E4 39) oF (qN n))]∧(vB n).cd=oN []∧(vB n).qR=oO []∧(vB n).cut=oP []∧(vB n).n=n∧(vB n).out=pS Tryd.prog [.tmp 2] oF∧(vB n).q6=nJ []:=⟨rfl,rfl,rfl,rfl,rfl,rfl,rfl,rfl⟩
theorem Ub (n:Nat):(vB n).body=(Tryd.f37.body).getD .skip:=rfl
noncomputable def IS (n:Nat):{B:Notation→Option Bool // ∀ (a0:Notation),run (vB n) [.at []] {slots:=[(nG Notation.cel).enc a0]++jI (18-[(nG Notation.cel).enc a0].length) qA,heap:=[]}=B a0}:=by
 apply jH
 intro a0
 simp (config:={maxSteps:=100000000}) only[go_sem,jy,jz,ju,jv,jA,jB,jD,jE,jF,jx,jC,jG,Ua,Ub,Tryd.f37,jw,mixed]
 exact rfl
noncomputable def H7:Nat→Notation→Option Bool
 |0,_=>none
 |n+1,a0=>(IS n).1 a0
theorem Sl: ∀ (n:Nat) (a0:Notation) (r:Bool),H7 n a0=some r→xY Tryd.prog 37 [(nG Notation.cel).enc a0] (fun v=>v=oF.enc r)
 |0,_,_,h=>by cases h
 |n+1,a0,r,h=>by
  exact pg (M:=vB n) ⟨(mZ (sI (Au n)) m5),m6,nT _,nU _,oS,oQ,pz,oX⟩ Tryd.func37 rfl rfl ⟨(nG Notation.cel).nb 0 _,trivial⟩ Tryd.ntmps37 Tryd.results37 (fun σ hs=>oZ (P:=Tryd.prog) (rs:=[.tmp 2]) (t:=oF) (σ:=σ) (r:=r) hs) (((IS n).2 a0).trans h)
noncomputable def tV (n:Nat):Mach Bool where
 body:=(Tryd.f68.body).getD .skip
 P:=Tryd.prog
 cl:=oJ [(97,entX [] yt pV (tA Ke yt) (xL 0 pV) (fun (b:Unit) (a:Unit)=>(BL n)))]
 cd:=oN []
 qR:=oO []
 cut:=oP []
 n:=n
 out:=pS Tryd.prog [.tmp 2] oF
 q6:=nJ []
theorem Qt (n:Nat):(tV n).P=Tryd.prog∧(tV n).cl=oJ [(97,entX [] yt pV (tA Ke yt) (xL 0 pV) (fun (b:Unit) (a:Unit)=>(BL n)))]∧(tV n).cd=oN []∧(tV n).qR=oO []∧(tV n).cut=oP []∧(tV n).n=n∧(tV n).out=pS Tryd.prog [.tmp 2] oF∧(tV n).q6=nJ []:=⟨rfl,rfl,rfl,rfl,rfl,rfl,rfl,rfl⟩
theorem Qu (n:Nat):(tV n).body=(Tryd.f68.body).getD .skip:=rfl
noncomputable def F3 (n:Nat):{B:Str→Option Bool // ∀ (a0:Str),run (tV n) [.at []] {slots:=[uI.enc a0]++jI (6-[uI.enc a0].length) qA,heap:=[]}=B a0}:=by
 apply jH
 intro a0
 simp (config:={maxSteps:=100000000}) only[go_sem,jy,jz,ju,jv,jA,jB,jD,jE,jF,jx,jC,jG,Qt,Qu,Tryd.f68,jw,mixed]
 exact rfl
noncomputable def CA:Nat→Str→Option Bool
 |0,_=>none
 |n+1,a0=>(F3 n).1 a0
theorem OZ: ∀ (n:Nat) (a0:Str) (r:Bool),CA n a0=some r→xY Tryd.prog 68 [uI.enc a0] (fun v=>v=oF.enc r)
 |0,_,_,h=>by cases h
 |n+1,a0,r,h=>by
  exact pg (M:=tV n) ⟨(mZ (B5 (fun b a r h=>(NP n) r h)) m5),m6,nT _,nU _,oS,oQ,pz,oX⟩ Tryd.func68 rfl rfl ⟨uI.nb 0 _,trivial⟩ Tryd.ntmps68 Tryd.results68 (fun σ hs=>oZ (P:=Tryd.prog) (rs:=[.tmp 2]) (t:=oF) (σ:=σ) (r:=r) hs) (((F3 n).2 a0).trans h)
noncomputable def wF:Nrm:=⟨[],[],[zK,zK,zA,zA,zA,zA,zA,zK,zT (tyL Syntax.row),zA,zA,zA,zA,zA,zA,zA,zA,zA,zA,zA,zA,zA,zA,zA,zA,zA,zA,zT (tyL sD),zK,zK,zA,zA,zA,zA,zA,zA,zA,zA,zA,zA,zA,zA,zA,zA,zA,zA,zA,zA,zA,zA,zA,zA,zA,zA,zA,zA,zA,zA,zA,zA,zA],[oC [zK],oA Syntax.row,oM (nG Notation.cel),oD,oT Notation.cel],none,none⟩
noncomputable def pY:AL (Syntax×Unit):=(uk 0 (alA 1 (qO (nG Syntax.cel) pV)))
noncomputable def nO:OL Ta:=(tA (B4 (xL 2 pV)) (tA (ogA true Syntax.row) (tA (wI (nG Notation.cel)) yt)))
noncomputable def pq:OL Ta:=(tA (B4 (xL 2 pV)) (tA (ogA true Syntax.row) (tA (wI (nG Notation.cel)) yt)))
noncomputable def pN (X:Syntax→(List Syntax)→T3→Option (Ta×Unit)) (n:Nat):Mach (Ta×Unit) where
 body:=(Tryd.f58.body).getD .skip
 P:=Tryd.prog
 cl:=oJ [(58,Ns 1 true 8 (entX [.arg 0 [],.arg 1 [],.obj 0 0 []] nO pY pq (alA 1 pV) (fun (b:Ta) (a:(Syntax×Unit))=>X a.1 b.2.1 b.2.2.1))),(89,entX [.arg 0 [],.obj 0 0 []] ng (uk 0 (qO (nG Syntax.cel) pV)) nH nS (fun (b:T9) (a:(Syntax×Unit))=>(qV n) a.1 b.2.1)),(90,entX [.arg 0 [],.obj 0 0 []] nM pQ oR (qO oF pV) (fun (b:T9) (a:To)=>(pF n) a.1 a.2.1 a.2.2.1 b.2.1))]
 cd:=oN []
 qR:=oO [([0,1,0,1,1,1],wF)]
 cut:=oP []
 n:=n
 out:=Cy Tryd.prog [.tmp 6] [] [0,1,2] 3 pq (alA 1 pV)
 q6:=nJ []
theorem CB (X:Syntax→(List Syntax)→T3→Option (Ta×Unit)) (n:Nat):(pN X n).P=Tryd.prog∧(pN X n).cl=oJ [(58,Ns 1 true 8 (entX [.arg 0 [],.arg 1 [],.obj 0 0 []] nO pY pq (alA 1 pV) (fun (b:Ta) (a:(Syntax×Unit))=>X a.1 b.2.1 b.2.2.1))),(89,entX [.arg 0 [],.obj 0 0 []] ng (uk 0 (qO (nG Syntax.cel) pV)) nH nS (fun (b:T9) (a:(Syntax×Unit))=>(qV n) a.1 b.2.1)),(90,entX [.arg 0 [],.obj 0 0 []] nM pQ oR (qO oF pV) (fun (b:T9) (a:To)=>(pF n) a.1 a.2.1 a.2.2.1 b.2.1))]∧(pN X n).cd=oN []∧(pN X n).qR=oO [([0,1,0,1,1,1],wF)]∧(pN X n).cut=oP []∧(pN X n).n=n∧(pN X n).out=Cy Tryd.prog [.tmp 6] [] [0,1,2] 3 pq (alA 1 pV)∧(pN X n).q6=nJ []:=⟨rfl,rfl,rfl,rfl,rfl,rfl,rfl,rfl⟩
theorem CC (X:Syntax→(List Syntax)→T3→Option (Ta×Unit)) (n:Nat):(pN X n).body=(Tryd.f58.body).getD .skip:=rfl
noncomputable def tF (X:Syntax→(List Syntax)→T3→Option (Ta×Unit)) (n:Nat):{B:((List Syntax)→(List Str)→Int→Int→(List Syntax)→T3→Notation→Option (Ta×Unit))→(List Syntax)→(List Str)→Int→Int→(List Syntax)→T3→Notation→Option (Ta×Unit) // ∀m X0,(∀ (v0:List Syntax) (v1:List Str) (v2:Int) (v3:Int) (r1:List Syntax) (r2:List (Str×Notation)) (o4:Notation) (c1:Nat),c1=r1.length→run (pN X n) [.lq m [0,1,0,1,1,1],.q9 0,.cut [1,1,1,1],.at [1,1,1,1]] ⟨[.ptr 0 0,.acc 1 c1,qA,qA,qA,qA,qA,.ptr 4 0,.nY false 8 (mp Syntax.cells v0),qA,qA,qA,qA,qA,qA,qA,qA,qA,qA,qA,qA,qA,qA,qA,qA,qA,qA,.nY false 1 (mp pP v1),.int .i64 v2,.int .i64 v3,qA,qA,qA,qA,qA,qA,qA,qA,qA,qA,qA,qA,qA,qA,qA,qA,qA,qA,qA,qA,qA,qA,qA,qA,qA,qA,qA,qA,qA,qA,qA],[.cells [.map 2],.acc true 8 (mp Syntax.cells r1),.map (mp (mcT (nG Notation.cel)) r2),.dead,.cells (Notation.cells o4)],3,[]⟩=X0 v0 v1 v2 v3 r1 r2 o4)→ ∀ (v0:List Syntax) (v1:List Str) (v2:Int) (v3:Int) (r1:List Syntax) (r2:List (Str×Notation)) (o4:Notation),run (pN X n) [.at [0,0,1,0,1,1,1],.lp m [0,1,0,1,1,1],.q9 0,.cut [1,1,1,1],.at [1,1,1,1]] ⟨[.ptr 0 0,.acc 1 r1.length,qA,qA,qA,qA,qA,.ptr 4 0,.nY false 8 (mp Syntax.cells v0),qA,qA,qA,qA,qA,qA,qA,qA,qA,qA,qA,qA,qA,qA,qA,qA,qA,qA,.nY false 1 (mp pP v1),.int .i64 v2,.int .i64 v3,qA,qA,qA,qA,qA,qA,qA,qA,qA,qA,qA,qA,qA,qA,qA,qA,qA,qA,qA,qA,qA,qA,qA,qA,qA,qA,qA,qA,qA,qA,qA],[.cells [.map 2],.acc true 8 (mp Syntax.cells r1),.map (mp (mcT (nG Notation.cel)) r2),.dead,.cells (Notation.cells o4)],3,[]⟩=B X0 v0 v1 v2 v3 r1 r2 o4}:=by
 apply jH
 intro m X0 ih v0 v1 v2 v3 r1 r2 o4
 simp (config:={maxSteps:=100000000}) only[go_sem,jy,jz,ju,jv,jA,jB,jD,jE,jF,jx,jC,jG,CB,CC,Tryd.f58,jw,mixed,pY,nO,pq,ng,nH,nS,pQ,nM,oR,wF,ih]
 exact rfl
noncomputable def rD (X:Syntax→(List Syntax)→T3→Option (Ta×Unit)) (n:Nat):Nat→(List Syntax)→(List Str)→Int→Int→(List Syntax)→T3→Notation→Option (Ta×Unit)
 |0,_,_,_,_,_,_,_=>none
 |m+1,v0,v1,v2,v3,r1,r2,o4=>(tF X n).1 (rD X n m) v0 v1 v2 v3 r1 r2 o4
theorem A6 (X:Syntax→(List Syntax)→T3→Option (Ta×Unit)) (n:Nat): ∀ (m:Nat),(∀ (v0:List Syntax) (v1:List Str) (v2:Int) (v3:Int) (r1:List Syntax) (r2:List (Str×Notation)) (o4:Notation) (c1:Nat),c1=r1.length→run (pN X n) [.lq m [0,1,0,1,1,1],.q9 0,.cut [1,1,1,1],.at [1,1,1,1]] ⟨[.ptr 0 0,.acc 1 c1,qA,qA,qA,qA,qA,.ptr 4 0,.nY false 8 (mp Syntax.cells v0),qA,qA,qA,qA,qA,qA,qA,qA,qA,qA,qA,qA,qA,qA,qA,qA,qA,qA,.nY false 1 (mp pP v1),.int .i64 v2,.int .i64 v3,qA,qA,qA,qA,qA,qA,qA,qA,qA,qA,qA,qA,qA,qA,qA,qA,qA,qA,qA,qA,qA,qA,qA,qA,qA,qA,qA,qA,qA,qA,qA],[.cells [.map 2],.acc true 8 (mp Syntax.cells r1),.map (mp (mcT (nG Notation.cel)) r2),.dead,.cells (Notation.cells o4)],3,[]⟩=rD X n m v0 v1 v2 v3 r1 r2 o4)
 |0=>by intros;exact nK
 |m+1=>by
  have ih:=A6 X n m
  intro v0 v1 v2 v3 r1 r2 o4 c1 ec1
  subst ec1
  rw[nL]
  exact (tF X n).2 m _ ih v0 v1 v2 v3 r1 r2 o4
noncomputable def xh (X:Syntax→(List Syntax)→T3→Option (Ta×Unit)) (n:Nat):{B:Syntax→(List Syntax)→T3→Option (Ta×Unit) // ∀ (a0:Syntax) (o0:(List Syntax)) (o1:T3),run (pN X n) [.at []] {slots:=(pY.enc (nO.lens ((),o0,o1,())) (a0,()))++jI (61-(pY.enc (nO.lens ((),o0,o1,())) (a0,())).length) qA,heap:=(nO.enc (nO.lens ((),o0,o1,())) ((),o0,o1,())),low:=(nO.enc (nO.lens ((),o0,o1,())) ((),o0,o1,())).length}=B a0 o0 o1}:=by
 apply jH
 intro a0 o0 o1
 simp (config:={maxSteps:=100000000}) only[go_sem,jy,jz,ju,jv,jA,jB,jD,jE,jF,jx,jC,jG,CB,CC,Tryd.f58,jw,mixed,pY,nO,pq,ng,nH,nS,pQ,nM,oR,wF,A6 X n]
 exact rfl
noncomputable def qB:Nat→Syntax→(List Syntax)→T3→Option (Ta×Unit)
 |0,_,_,_=>none
 |n+1,a0,o0,o1=>(xh (qB n) n).1 a0 o0 o1
theorem Cl: ∀ (n:Nat) (a0:Syntax) (o0:(List Syntax)) (o1:T3) (r:(Ta×Unit)),qB n a0 o0 o1=some r→QF Tryd.prog 58 (pY.enc (nO.lens ((),o0,o1,())) (a0,())) (nO.enc (nO.lens ((),o0,o1,())) ((),o0,o1,())) (fun o H'=>o= .ret (vX ((alA 1 pV).enc (pq.lens r.1) r.2))∧H'=pq.enc (pq.lens r.1) r.1)
 |0,_,_,_,_,h=>by cases h
 |n+1,a0,o0,o1,r,h=>by
  have Hu:=Cl n
  exact B3 (M:=pN (qB n) n) ⟨(mZ (RJ (B5 (fun b a r h=>(Hu) a.1 b.2.1 b.2.2.1 r h))) (mZ (B5 (fun b a r h=>(yj n) a.1 b.2.1 r h)) (mZ (B5 (fun b a r h=>(y8 n) a.1 a.2.1 a.2.2.1 b.2.1 r h)) m5))),m6,nT _,nU _,oS,oQ,pz,oX⟩ Tryd.func58 rfl rfl (sP (jJ (of_decide_eq_true (by kernel_rfl)) (jK (nO.sz _ _).symm)) _ (pY.nb _ _)) (fun x hx=>uC (jJ (of_decide_eq_true (by kernel_rfl)) (jK (nO.sz _ _).symm)) _ (nO.nb _ _ x hx)) Tryd.ntmps58 Tryd.results58 (fun σ hs=>Bo (P:=Tryd.prog) (rs:=[.tmp 6]) (pos:=[]) (base:=[0,1,2]) (low:=3) (os:=pq) (s:=(alA 1 pV)) (σ:=σ) (r:=r) (by rfl) hs) (((xh (qB n) n).2 a0 o0 o1).trans h)
noncomputable def A7:Nrm:=⟨[],[],[zK,zA,zA,zA,zT (tyL sD),zK,zA,zA,zA,zA,zA,zA,zA,zA,zA,zA,zA,zA,zA,zA,zA,zA,zA,zA,zA,zA,zA,zA,zA,zA,zA,zA,zA,zA,zA,zA,zA,zA,zA,zA,zA,zA,zA,zA,zA,zA,zA,zA,zA,zA,zA,zA,zA,zA,zA,zA,zA,zA,zA,zA,zA,zA,zA,zA,zA,zA,zA,zA,zA,zA,zA,zA,zA],[],none,none⟩
noncomputable def A8:Nrm:=⟨[],[],[zK,zA,zA,zK,zA,zA,zA,zA,zA,zA,zA,zA,zA,zA,zA,zA,zA,zA,zA,zA,zA,zA,zA,zA,zA,zA,zA,zA,zA,zA,zA,zA,zA,zA,zA,zA,zA,zA,zA,zA,zA,zA,zA,zA,zA,zA,zA,zA,zA,zA,zA,zA,zA,zA,zA,zA,zA,zA,zA,zA,zA,zA,zA,zA,zA,zA,zA,zA,zA,zA,zA,zA,zA],[],none,none⟩
noncomputable def q4 (n:Nat):Mach Bool where
 body:=(Tryd.f46.body).getD .skip
 P:=Tryd.prog
 cl:=oJ [(72,p9 (pT .u8) oF (AM n)),(73,su uI (pT .i64) (pT .i64) (A5 n)),(74,p9 uI oF (Cz n)),(75,p9 (pT .u8) oF (GL n)),(76,JH (VZ sD) (FD n))]
 cd:=oN []
 qR:=oO [([0,1,0,1,1,1,1,1],A7),([0,1,0,1,1,1],A8)]
 cut:=oP []
 n:=n
 out:=pS Tryd.prog [.tmp 2] oF
 q6:=nJ []
theorem GW (n:Nat):(q4 n).P=Tryd.prog∧(q4 n).cl=oJ [(72,p9 (pT .u8) oF (AM n)),(73,su uI (pT .i64) (pT .i64) (A5 n)),(74,p9 uI oF (Cz n)),(75,p9 (pT .u8) oF (GL n)),(76,JH (VZ sD) (FD n))]∧(q4 n).cd=oN []∧(q4 n).qR=oO [([0,1,0,1,1,1,1,1],A7),([0,1,0,1,1,1],A8)]∧(q4 n).cut=oP []∧(q4 n).n=n∧(q4 n).out=pS Tryd.prog [.tmp 2] oF∧(q4 n).q6=nJ []:=⟨rfl,rfl,rfl,rfl,rfl,rfl,rfl,rfl⟩
theorem GX (n:Nat):(q4 n).body=(Tryd.f46.body).getD .skip:=rfl
noncomputable def CR (n:Nat):{B:(Str→(List Str)→Int→Option Bool)→Str→(List Str)→Int→Option Bool // ∀m X0,(∀ (v0:Str) (v1:List Str) (v2:Int),run (q4 n) [.lq m [0,1,0,1,1,1,1,1],.q9 2,.cut [1,1,1,1,1,1],.at [1,1,1,1,1,1]] ⟨[.str (sb v0),qA,qA,qA,.nY false 1 (mp pP v1),.int .i64 v2,qA,qA,qA,qA,qA,qA,qA,qA,qA,qA,qA,qA,qA,qA,qA,qA,qA,qA,qA,qA,qA,qA,qA,qA,qA,qA,qA,qA,qA,qA,qA,qA,qA,qA,qA,qA,qA,qA,qA,qA,qA,qA,qA,qA,qA,qA,qA,qA,qA,qA,qA,qA,qA,qA,qA,qA,qA,qA,qA,qA,qA,qA,qA,qA,qA,qA,qA],[],0,[]⟩=X0 v0 v1 v2)→ ∀ (v0:Str) (v1:List Str) (v2:Int),run (q4 n) [.at [0,0,1,0,1,1,1,1,1],.lp m [0,1,0,1,1,1,1,1],.q9 2,.cut [1,1,1,1,1,1],.at [1,1,1,1,1,1]] ⟨[.str (sb v0),qA,qA,qA,.nY false 1 (mp pP v1),.int .i64 v2,qA,qA,qA,qA,qA,qA,qA,qA,qA,qA,qA,qA,qA,qA,qA,qA,qA,qA,qA,qA,qA,qA,qA,qA,qA,qA,qA,qA,qA,qA,qA,qA,qA,qA,qA,qA,qA,qA,qA,qA,qA,qA,qA,qA,qA,qA,qA,qA,qA,qA,qA,qA,qA,qA,qA,qA,qA,qA,qA,qA,qA,qA,qA,qA,qA,qA,qA],[],0,[]⟩=B X0 v0 v1 v2}:=by
 apply jH
 intro m X0 ih v0 v1 v2
 simp (config:={maxSteps:=100000000}) only[go_sem,jy,jz,ju,jv,jA,jB,jD,jE,jF,jx,jC,jG,GW,GX,Tryd.f46,jw,mixed,A7,A8,ih]
 exact rfl
noncomputable def xN (n:Nat):Nat→Str→(List Str)→Int→Option Bool
 |0,_,_,_=>none
 |m+1,v0,v1,v2=>(CR n).1 (xN n m) v0 v1 v2
theorem C7 (n:Nat): ∀ (m:Nat),(∀ (v0:Str) (v1:List Str) (v2:Int),run (q4 n) [.lq m [0,1,0,1,1,1,1,1],.q9 2,.cut [1,1,1,1,1,1],.at [1,1,1,1,1,1]] ⟨[.str (sb v0),qA,qA,qA,.nY false 1 (mp pP v1),.int .i64 v2,qA,qA,qA,qA,qA,qA,qA,qA,qA,qA,qA,qA,qA,qA,qA,qA,qA,qA,qA,qA,qA,qA,qA,qA,qA,qA,qA,qA,qA,qA,qA,qA,qA,qA,qA,qA,qA,qA,qA,qA,qA,qA,qA,qA,qA,qA,qA,qA,qA,qA,qA,qA,qA,qA,qA,qA,qA,qA,qA,qA,qA,qA,qA,qA,qA,qA,qA],[],0,[]⟩=xN n m v0 v1 v2)
 |0=>by intros;exact nK
 |m+1=>by
  have ih:=C7 n m
  intro v0 v1 v2
  rw[nL]
  exact (CR n).2 m _ ih v0 v1 v2
noncomputable def CS (n:Nat):{B:(Str→Int→Option Bool)→Str→Int→Option Bool // ∀m X0,(∀ (v0:Str) (v1:Int),run (q4 n) [.lq m [0,1,0,1,1,1],.q9 0,.cut [1,1,1,1],.at [1,1,1,1]] ⟨[.str (sb v0),qA,qA,.int .i64 v1,qA,qA,qA,qA,qA,qA,qA,qA,qA,qA,qA,qA,qA,qA,qA,qA,qA,qA,qA,qA,qA,qA,qA,qA,qA,qA,qA,qA,qA,qA,qA,qA,qA,qA,qA,qA,qA,qA,qA,qA,qA,qA,qA,qA,qA,qA,qA,qA,qA,qA,qA,qA,qA,qA,qA,qA,qA,qA,qA,qA,qA,qA,qA,qA,qA,qA,qA,qA,qA],[],0,[]⟩=X0 v0 v1)→ ∀ (v0:Str) (v1:Int),run (q4 n) [.at [0,0,1,0,1,1,1],.lp m [0,1,0,1,1,1],.q9 0,.cut [1,1,1,1],.at [1,1,1,1]] ⟨[.str (sb v0),qA,qA,.int .i64 v1,qA,qA,qA,qA,qA,qA,qA,qA,qA,qA,qA,qA,qA,qA,qA,qA,qA,qA,qA,qA,qA,qA,qA,qA,qA,qA,qA,qA,qA,qA,qA,qA,qA,qA,qA,qA,qA,qA,qA,qA,qA,qA,qA,qA,qA,qA,qA,qA,qA,qA,qA,qA,qA,qA,qA,qA,qA,qA,qA,qA,qA,qA,qA,qA,qA,qA,qA,qA,qA],[],0,[]⟩=B X0 v0 v1}:=by
 apply jH
 intro m X0 ih v0 v1
 simp (config:={maxSteps:=100000000}) only[go_sem,jy,jz,ju,jv,jA,jB,jD,jE,jF,jx,jC,jG,GW,GX,Tryd.f46,jw,mixed,A7,A8,C7 n,ih]
 exact rfl
noncomputable def y9 (n:Nat):Nat→Str→Int→Option Bool
 |0,_,_=>none
 |m+1,v0,v1=>(CS n).1 (y9 n m) v0 v1
theorem GY (n:Nat): ∀ (m:Nat),(∀ (v0:Str) (v1:Int),run (q4 n) [.lq m [0,1,0,1,1,1],.q9 0,.cut [1,1,1,1],.at [1,1,1,1]] ⟨[.str (sb v0),qA,qA,.int .i64 v1,qA,qA,qA,qA,qA,qA,qA,qA,qA,qA,qA,qA,qA,qA,qA,qA,qA,qA,qA,qA,qA,qA,qA,qA,qA,qA,qA,qA,qA,qA,qA,qA,qA,qA,qA,qA,qA,qA,qA,qA,qA,qA,qA,qA,qA,qA,qA,qA,qA,qA,qA,qA,qA,qA,qA,qA,qA,qA,qA,qA,qA,qA,qA,qA,qA,qA,qA,qA,qA],[],0,[]⟩=y9 n m v0 v1)
 |0=>by intros;exact nK
 |m+1=>by
  have ih:=GY n m
  intro v0 v1
  rw[nL]
  exact (CS n).2 m _ ih v0 v1
noncomputable def GZ (n:Nat):{B:Str→Option Bool // ∀ (a0:Str),run (q4 n) [.at []] {slots:=[uI.enc a0]++jI (73-[uI.enc a0].length) qA,heap:=[]}=B a0}:=by
 apply jH
 intro a0
 simp (config:={maxSteps:=100000000}) only[go_sem,jy,jz,ju,jv,jA,jB,jD,jE,jF,jx,jC,jG,GW,GX,Tryd.f46,jw,mixed,A7,A8,C7 n,GY n]
 exact rfl
noncomputable def D2:Nat→Str→Option Bool
 |0,_=>none
 |n+1,a0=>(GZ n).1 a0
theorem Qv: ∀ (n:Nat) (a0:Str) (r:Bool),D2 n a0=some r→xY Tryd.prog 46 [uI.enc a0] (fun v=>v=oF.enc r)
 |0,_,_,h=>by cases h
 |n+1,a0,r,h=>by
  exact pg (M:=q4 n) ⟨(mZ (pZ (Kj n)) (mZ (sI (MW n)) (mZ (pZ (OJ n)) (mZ (pZ (TP n)) (mZ (Lu (Sa n)) m5))))),m6,nT _,nU _,oS,oQ,pz,oX⟩ Tryd.func46 rfl rfl ⟨uI.nb 0 _,trivial⟩ Tryd.ntmps46 Tryd.results46 (fun σ hs=>oZ (P:=Tryd.prog) (rs:=[.tmp 2]) (t:=oF) (σ:=σ) (r:=r) hs) (((GZ n).2 a0).trans h)
noncomputable def D3:Nrm:=⟨[(8,8,true)],[],[zT (tyL Notation.row),zA,zA,zA,zA,zK,zT (tyL Syntax.row),zA,zK,zK,zK,zA,zA,zA,zA,zA,zA,zA,zA,zA,zA,zA,zA,zA,zA,zA,zA,zA,zA,zA,zA,zA,zA,zA,zA,zA,zA,zA,zA,zA,zA,zA,zA,zA,zA,zA,zA,zA,zA,zA,zA,zA,zA,zA,zA,zA,zA,zA,zA,zA,zA,zA,zA,zA,zA,zA,zA,zA,zA,zA],[oD,oT Notation.cel,oA Syntax.row],none,none⟩
noncomputable def rM (X:(List Notation)→Syntax→Option (List Syntax)) (n:Nat):Mach (List Syntax) where
 body:=(Tryd.f59.body).getD .skip
 P:=Tryd.prog
 cl:=oJ [(59,su (tyL Notation.row) (nG Syntax.cel) (tyL Syntax.row) X),(91,su (tyL Notation.row) (nG Syntax.cel) (Py (nG Notation.cel) (tyL Syntax.row) oF) (xg n))]
 cd:=oN [(92,vW (Z7 (tyL Notation.row) (nG Notation.cel) (pT .i64) (nG Syntax.cel) oF (vL n)))]
 qR:=oO [([0,1,0,1,1,1,1,1],D3)]
 cut:=oP []
 n:=n
 out:=pS Tryd.prog [.tmp 4] (tyL Syntax.row)
 q6:=nJ []
 B1:=nJ []
 B0:=nJ []
theorem Ms (X:(List Notation)→Syntax→Option (List Syntax)) (n:Nat):(rM X n).P=Tryd.prog∧(rM X n).cl=oJ [(59,su (tyL Notation.row) (nG Syntax.cel) (tyL Syntax.row) X),(91,su (tyL Notation.row) (nG Syntax.cel) (Py (nG Notation.cel) (tyL Syntax.row) oF) (xg n))]∧(rM X n).cd=oN [(92,vW (Z7 (tyL Notation.row) (nG Notation.cel) (pT .i64) (nG Syntax.cel) oF (vL n)))]∧(rM X n).qR=oO [([0,1,0,1,1,1,1,1],D3)]∧(rM X n).cut=oP []∧(rM X n).n=n∧(rM X n).out=pS Tryd.prog [.tmp 4] (tyL Syntax.row)∧(rM X n).q6=nJ []∧(rM X n).B1=nJ []∧(rM X n).B0=nJ []:=⟨rfl,rfl,rfl,rfl,rfl,rfl,rfl,rfl,rfl,rfl⟩
theorem Mt (X:(List Notation)→Syntax→Option (List Syntax)) (n:Nat):(rM X n).body=(Tryd.f59.body).getD .skip:=rfl
theorem Mu (X:(List Notation)→Syntax→Option (List Syntax)) (n:Nat):wH (rM X n) [0,0,1,0,0,1,0,0,1,0,1,1,1,1,1]=true:=by kernel_rfl
noncomputable def Aq (X:(List Notation)→Syntax→Option (List Syntax)) (n:Nat):{B:((List Notation)→(List Syntax)→Int→Int→Notation→(List Syntax)→Option (List Syntax))→(List Notation)→(List Syntax)→Int→Int→Notation→(List Syntax)→Option (List Syntax) // ∀m X0,(∀ (v0:List Notation) (v1:List Syntax) (v2:Int) (v3:Int) (o1:Notation) (r2:List Syntax) (c2:Nat),c2=r2.length→run (rM X n) [.lq m [0,1,0,1,1,1,1,1],.q9 0,.cut [1,1,1,1,1,1],.at [1,1,1,1,1,1]] ⟨[.nY false 4 (mp Notation.cells v0),qA,qA,qA,qA,.ptr 1 0,.nY false 8 (mp Syntax.cells v1),qA,.acc 2 c2,.int .i64 v2,.int .i64 v3,qA,qA,qA,qA,qA,qA,qA,qA,qA,qA,qA,qA,qA,qA,qA,qA,qA,qA,qA,qA,qA,qA,qA,qA,qA,qA,qA,qA,qA,qA,qA,qA,qA,qA,qA,qA,qA,qA,qA,qA,qA,qA,qA,qA,qA,qA,qA,qA,qA,qA,qA,qA,qA,qA,qA,qA,qA,qA,qA],[.dead,.cells (Notation.cells o1),.acc true 8 (mp Syntax.cells r2)],0,[]⟩=X0 v0 v1 v2 v3 o1 r2)→ ∀ (v0:List Notation) (v1:List Syntax) (v2:Int) (v3:Int) (o1:Notation) (r2:List Syntax),run (rM X n) [.at [0,0,1,0,1,1,1,1,1],.lp m [0,1,0,1,1,1,1,1],.q9 0,.cut [1,1,1,1,1,1],.at [1,1,1,1,1,1]] ⟨[.nY false 4 (mp Notation.cells v0),qA,qA,qA,qA,.ptr 1 0,.nY false 8 (mp Syntax.cells v1),qA,.acc 2 r2.length,.int .i64 v2,.int .i64 v3,qA,qA,qA,qA,qA,qA,qA,qA,qA,qA,qA,qA,qA,qA,qA,qA,qA,qA,qA,qA,qA,qA,qA,qA,qA,qA,qA,qA,qA,qA,qA,qA,qA,qA,qA,qA,qA,qA,qA,qA,qA,qA,qA,qA,qA,qA,qA,qA,qA,qA,qA,qA,qA,qA,qA,qA,qA,qA,qA],[.dead,.cells (Notation.cells o1),.acc true 8 (mp Syntax.cells r2)],0,[]⟩=B X0 v0 v1 v2 v3 o1 r2}:=by
 apply jH
 intro m X0 ih v0 v1 v2 v3 o1 r2
 simp (config:={maxSteps:=100000000}) only[go_sem,jy,jz,ju,jv,jA,jB,jD,jE,jF,jx,jC,jG,Ms,Mt,Tryd.f59,jw,mixed,Mu,D3,ih]
 exact rfl
noncomputable def xu (X:(List Notation)→Syntax→Option (List Syntax)) (n:Nat):Nat→(List Notation)→(List Syntax)→Int→Int→Notation→(List Syntax)→Option (List Syntax)
 |0,_,_,_,_,_,_=>none
 |m+1,v0,v1,v2,v3,o1,r2=>(Aq X n).1 (xu X n m) v0 v1 v2 v3 o1 r2
theorem H8 (X:(List Notation)→Syntax→Option (List Syntax)) (n:Nat): ∀ (m:Nat),(∀ (v0:List Notation) (v1:List Syntax) (v2:Int) (v3:Int) (o1:Notation) (r2:List Syntax) (c2:Nat),c2=r2.length→run (rM X n) [.lq m [0,1,0,1,1,1,1,1],.q9 0,.cut [1,1,1,1,1,1],.at [1,1,1,1,1,1]] ⟨[.nY false 4 (mp Notation.cells v0),qA,qA,qA,qA,.ptr 1 0,.nY false 8 (mp Syntax.cells v1),qA,.acc 2 c2,.int .i64 v2,.int .i64 v3,qA,qA,qA,qA,qA,qA,qA,qA,qA,qA,qA,qA,qA,qA,qA,qA,qA,qA,qA,qA,qA,qA,qA,qA,qA,qA,qA,qA,qA,qA,qA,qA,qA,qA,qA,qA,qA,qA,qA,qA,qA,qA,qA,qA,qA,qA,qA,qA,qA,qA,qA,qA,qA,qA,qA,qA,qA,qA,qA],[.dead,.cells (Notation.cells o1),.acc true 8 (mp Syntax.cells r2)],0,[]⟩=xu X n m v0 v1 v2 v3 o1 r2)
 |0=>by intros;exact nK
 |m+1=>by
  have ih:=H8 X n m
  intro v0 v1 v2 v3 o1 r2 c2 ec2
  subst ec2
  rw[nL]
  exact (Aq X n).2 m _ ih v0 v1 v2 v3 o1 r2
noncomputable def Fb (X:(List Notation)→Syntax→Option (List Syntax)) (n:Nat):{B:(List Notation)→Syntax→Option (List Syntax) // ∀ (a0:(List Notation)) (a1:Syntax),run (rM X n) [.at []] {slots:=[(tyL Notation.row).enc a0,(nG Syntax.cel).enc a1]++jI (70-[(tyL Notation.row).enc a0,(nG Syntax.cel).enc a1].length) qA,heap:=[]}=B a0 a1}:=by
 apply jH
 intro a0 a1
 simp (config:={maxSteps:=100000000}) only[go_sem,jy,jz,ju,jv,jA,jB,jD,jE,jF,jx,jC,jG,Ms,Mt,Tryd.f59,jw,mixed,Mu,D3,H8 X n]
 exact rfl
noncomputable def xw:Nat→(List Notation)→Syntax→Option (List Syntax)
 |0,_,_=>none
 |n+1,a0,a1=>(Fb (xw n) n).1 a0 a1
theorem K4: ∀ (n:Nat) (a0:(List Notation)) (a1:Syntax) (r:(List Syntax)),xw n a0 a1=some r→xY Tryd.prog 59 [(tyL Notation.row).enc a0,(nG Syntax.cel).enc a1] (fun v=>v=(tyL Syntax.row).enc r)
 |0,_,_,_,h=>by cases h
 |n+1,a0,a1,r,h=>by
  have Sm:=K4 n
  exact pg (M:=rM (xw n) n) ⟨(mZ (sI (Sm)) (mZ (sI (EM n)) m5)),(qt (XM (GR n)) m6),nT _,nU _,oS,oQ,pz,oX⟩ Tryd.func59 rfl rfl ⟨(tyL Notation.row).nb 0 _,(nG Syntax.cel).nb 0 _,trivial⟩ Tryd.ntmps59 Tryd.results59 (fun σ hs=>oZ (P:=Tryd.prog) (rs:=[.tmp 4]) (t:=(tyL Syntax.row)) (σ:=σ) (r:=r) hs) (((Fb (xw n) n).2 a0 a1).trans h)
end Go.Abs
namespace Go.Abs
open Go.Proofs
set_option maxRecDepth 100000
set_option maxHeartbeats 4000000
noncomputable def sj:Nrm:=⟨[],[],[zT (tyL Notation.row),zT (E4 37),zA,zA,zA,zA,zA,zK,zK,zA,zA,zA,zA,zA,zA,zA,zA,zA,zA],[],none,none⟩
noncomputable def nD (n:Nat):Mach Int where
 body:=(Tryd.f64.body).getD .skip
 P:=Tryd.prog
 cl:=oJ [(37,p9 (nG Notation.cel) oF (H7 n))]
 cd:=oN []
 qR:=oO [([0,1,0,1],sj)]
 cut:=oP []
 n:=n
 out:=pS Tryd.prog [.tmp 4] (pT .i64)
 q6:=nJ []
theorem wX (n:Nat):(nD n).P=Tryd.prog∧(nD n).cl=oJ [(37,p9 (nG Notation.cel) oF (H7 n))]∧(nD n).cd=oN []∧(nD n).qR=oO [([0,1,0,1],sj)]∧(nD n).cut=oP []∧(nD n).n=n∧(nD n).out=pS Tryd.prog [.tmp 4] (pT .i64)∧(nD n).q6=nJ []:=⟨rfl,rfl,rfl,rfl,rfl,rfl,rfl,rfl⟩
theorem wY (n:Nat):(nD n).body=(Tryd.f64.body).getD .skip:=rfl
noncomputable def sk (n:Nat):{B:((List Notation)→Int→Int→Option Int)→(List Notation)→Int→Int→Option Int // ∀m X0,(∀ (v0:List Notation) (v1:Int) (v2:Int),run (nD n) [.lq m [0,1,0,1],.q9 0,.cut [1,1],.at [1,1]] ⟨[.nY false 4 (mp Notation.cells v0),.func (.func 37) [] [],qA,qA,qA,qA,qA,.int .i64 v1,.int .i64 v2,qA,qA,qA,qA,qA,qA,qA,qA,qA,qA],[],0,[]⟩=X0 v0 v1 v2)→ ∀ (v0:List Notation) (v1:Int) (v2:Int),run (nD n) [.at [0,0,1,0,1],.lp m [0,1,0,1],.q9 0,.cut [1,1],.at [1,1]] ⟨[.nY false 4 (mp Notation.cells v0),.func (.func 37) [] [],qA,qA,qA,qA,qA,.int .i64 v1,.int .i64 v2,qA,qA,qA,qA,qA,qA,qA,qA,qA,qA],[],0,[]⟩=B X0 v0 v1 v2}:=by
 apply jH
 intro m X0 ih v0 v1 v2
 simp (config:={maxSteps:=100000000}) only[go_sem,jy,jz,ju,jv,jA,jB,jD,jE,jF,jx,jC,jG,wX,wY,Tryd.f64,jw,mixed,sj,ih]
 exact rfl
noncomputable def qh (n:Nat):Nat→(List Notation)→Int→Int→Option Int
 |0,_,_,_=>none
 |m+1,v0,v1,v2=>(sk n).1 (qh n m) v0 v1 v2
theorem vT (n:Nat): ∀ (m:Nat),(∀ (v0:List Notation) (v1:Int) (v2:Int),run (nD n) [.lq m [0,1,0,1],.q9 0,.cut [1,1],.at [1,1]] ⟨[.nY false 4 (mp Notation.cells v0),.func (.func 37) [] [],qA,qA,qA,qA,qA,.int .i64 v1,.int .i64 v2,qA,qA,qA,qA,qA,qA,qA,qA,qA,qA],[],0,[]⟩=qh n m v0 v1 v2)
 |0=>by intros;exact nK
 |m+1=>by
  have ih:=vT n m
  intro v0 v1 v2
  rw[nL]
  exact (sk n).2 m _ ih v0 v1 v2
noncomputable def uB (n:Nat):{B:(List Notation)→Unit→Option Int // ∀ (a0:(List Notation)) (a1:Unit),run (nD n) [.at []] {slots:=[(tyL Notation.row).enc a0,(E4 37).enc a1]++jI (19-[(tyL Notation.row).enc a0,(E4 37).enc a1].length) qA,heap:=[]}=B a0 a1}:=by
 apply jH
 intro a0 a1
 simp (config:={maxSteps:=100000000}) only[go_sem,jy,jz,ju,jv,jA,jB,jD,jE,jF,jx,jC,jG,wX,wY,Tryd.f64,jw,mixed,sj,vT n]
 exact rfl
noncomputable def sO:Nat→(List Notation)→Unit→Option Int
 |0,_,_=>none
 |n+1,a0,a1=>(uB n).1 a0 a1
theorem Bj: ∀ (n:Nat) (a0:(List Notation)) (a1:Unit) (r:Int),sO n a0 a1=some r→xY Tryd.prog 64 [(tyL Notation.row).enc a0,(E4 37).enc a1] (fun v=>v=(pT .i64).enc r)
 |0,_,_,_,h=>by cases h
 |n+1,a0,a1,r,h=>by
  exact pg (M:=nD n) ⟨(mZ (pZ (Sl n)) m5),m6,nT _,nU _,oS,oQ,pz,oX⟩ Tryd.func64 rfl rfl ⟨(tyL Notation.row).nb 0 _,(E4 37).nb 0 _,trivial⟩ Tryd.ntmps64 Tryd.results64 (fun σ hs=>oZ (P:=Tryd.prog) (rs:=[.tmp 4]) (t:=(pT .i64)) (σ:=σ) (r:=r) hs) (((uB n).2 a0 a1).trans h)
noncomputable def za:Nrm:=⟨[],[],[zK,zA,zA,zA,zA,zA,zA,zA,zA,zA,zA,zA,zA,zA,zA,zA,zA,zA,zA,zA,zA,zA,zA,zA,zA,zA,zA,zA,zA,zA,zA,zA,zA,zA,zA,zA,zA,zA,zA,zA,zA,zA,zA,zA,zA,zA,zA,zA,zA,zA,zA,zT (tyL sD),zK,zK,zA,zA,zA,zA,zA,zA,zA,zA,zA],[],none,none⟩
noncomputable def zb:Nrm:=⟨[],[],[zK,zA,zA,zA,zA,zA,zA,zA,zA,zA,zA,zA,zA,zA,zA,zA,zA,zA,zA,zA,zA,zA,zA,zA,zA,zA,zA,zA,zA,zA,zA,zA,zK,zK,zA,zA,zA,zA,zA,zA,zA,zA,zA,zA,zA,zA,zA,zA,zA,zA,zA,zA,zA,zA,zA,zA,zA,zA,zA,zA,zA,zA,zA],[],none,none⟩
noncomputable def zc:Nrm:=⟨[],[],[zK,zA,zA,zA,zA,zA,zA,zA,zA,zA,zA,zA,zA,zA,zK,zK,zA,zA,zA,zA,zA,zA,zA,zA,zA,zA,zA,zA,zA,zA,zA,zA,zA,zA,zA,zA,zA,zA,zA,zA,zA,zA,zA,zA,zA,zA,zA,zA,zA,zA,zA,zA,zA,zA,zA,zA,zA,zA,zA,zA,zA,zA,zA],[],none,none⟩
noncomputable def qo (n:Nat):Mach Bool where
 body:=(Tryd.f42.body).getD .skip
 P:=Tryd.prog
 cl:=oJ [(66,p9 (pT .u8) (pT .i64) (BF n)),(67,p9 (pT .u8) oF (DR n)),(68,p9 uI oF (CA n)),(69,su uI uI oF (strings_Contains n)),(70,JH (tyL sD) (FF n))]
 cd:=oN []
 qR:=oO [([0,1,0,1,1,1,1,1],za),([0,1,0,1,1,1],zb),([0,1,0,0,1,0,1,1],zc)]
 cut:=oP []
 n:=n
 out:=pS Tryd.prog [.tmp 2] oF
 q6:=nJ []
theorem D4 (n:Nat):(qo n).P=Tryd.prog∧(qo n).cl=oJ [(66,p9 (pT .u8) (pT .i64) (BF n)),(67,p9 (pT .u8) oF (DR n)),(68,p9 uI oF (CA n)),(69,su uI uI oF (strings_Contains n)),(70,JH (tyL sD) (FF n))]∧(qo n).cd=oN []∧(qo n).qR=oO [([0,1,0,1,1,1,1,1],za),([0,1,0,1,1,1],zb),([0,1,0,0,1,0,1,1],zc)]∧(qo n).cut=oP []∧(qo n).n=n∧(qo n).out=pS Tryd.prog [.tmp 2] oF∧(qo n).q6=nJ []:=⟨rfl,rfl,rfl,rfl,rfl,rfl,rfl,rfl⟩
theorem D5 (n:Nat):(qo n).body=(Tryd.f42.body).getD .skip:=rfl
noncomputable def CT (n:Nat):{B:(Str→(List Str)→Int→Int→Option Bool)→Str→(List Str)→Int→Int→Option Bool // ∀m X0,(∀ (v0:Str) (v1:List Str) (v2:Int) (v3:Int),run (qo n) [.lq m [0,1,0,1,1,1,1,1],.q9 4,.cut [1,1,1,1,1,1],.at [1,1,1,1,1,1]] ⟨[.str (sb v0),qA,qA,qA,qA,qA,qA,qA,qA,qA,qA,qA,qA,qA,qA,qA,qA,qA,qA,qA,qA,qA,qA,qA,qA,qA,qA,qA,qA,qA,qA,qA,qA,qA,qA,qA,qA,qA,qA,qA,qA,qA,qA,qA,qA,qA,qA,qA,qA,qA,qA,.nY false 1 (mp pP v1),.int .i64 v2,.int .i64 v3,qA,qA,qA,qA,qA,qA,qA,qA,qA],[],0,[]⟩=X0 v0 v1 v2 v3)→ ∀ (v0:Str) (v1:List Str) (v2:Int) (v3:Int),run (qo n) [.at [0,0,1,0,1,1,1,1,1],.lp m [0,1,0,1,1,1,1,1],.q9 4,.cut [1,1,1,1,1,1],.at [1,1,1,1,1,1]] ⟨[.str (sb v0),qA,qA,qA,qA,qA,qA,qA,qA,qA,qA,qA,qA,qA,qA,qA,qA,qA,qA,qA,qA,qA,qA,qA,qA,qA,qA,qA,qA,qA,qA,qA,qA,qA,qA,qA,qA,qA,qA,qA,qA,qA,qA,qA,qA,qA,qA,qA,qA,qA,qA,.nY false 1 (mp pP v1),.int .i64 v2,.int .i64 v3,qA,qA,qA,qA,qA,qA,qA,qA,qA],[],0,[]⟩=B X0 v0 v1 v2 v3}:=by
 apply jH
 intro m X0 ih v0 v1 v2 v3
 simp (config:={maxSteps:=100000000}) only[go_sem,jy,jz,ju,jv,jA,jB,jD,jE,jF,jx,jC,jG,D4,D5,Tryd.f42,jw,mixed,za,zb,zc,ih]
 exact rfl
noncomputable def xO (n:Nat):Nat→Str→(List Str)→Int→Int→Option Bool
 |0,_,_,_,_=>none
 |m+1,v0,v1,v2,v3=>(CT n).1 (xO n m) v0 v1 v2 v3
theorem AR (n:Nat): ∀ (m:Nat),(∀ (v0:Str) (v1:List Str) (v2:Int) (v3:Int),run (qo n) [.lq m [0,1,0,1,1,1,1,1],.q9 4,.cut [1,1,1,1,1,1],.at [1,1,1,1,1,1]] ⟨[.str (sb v0),qA,qA,qA,qA,qA,qA,qA,qA,qA,qA,qA,qA,qA,qA,qA,qA,qA,qA,qA,qA,qA,qA,qA,qA,qA,qA,qA,qA,qA,qA,qA,qA,qA,qA,qA,qA,qA,qA,qA,qA,qA,qA,qA,qA,qA,qA,qA,qA,qA,qA,.nY false 1 (mp pP v1),.int .i64 v2,.int .i64 v3,qA,qA,qA,qA,qA,qA,qA,qA,qA],[],0,[]⟩=xO n m v0 v1 v2 v3)
 |0=>by intros;exact nK
 |m+1=>by
  have ih:=AR n m
  intro v0 v1 v2 v3
  rw[nL]
  exact (CT n).2 m _ ih v0 v1 v2 v3
noncomputable def CU (n:Nat):{B:(Str→Int→Int→Option Bool)→Str→Int→Int→Option Bool // ∀m X0,(∀ (v0:Str) (v1:Int) (v2:Int),run (qo n) [.lq m [0,1,0,1,1,1],.q9 2,.cut [1,1,1,1],.at [1,1,1,1]] ⟨[.str (sb v0),qA,qA,qA,qA,qA,qA,qA,qA,qA,qA,qA,qA,qA,qA,qA,qA,qA,qA,qA,qA,qA,qA,qA,qA,qA,qA,qA,qA,qA,qA,qA,.int .i64 v1,.int .i64 v2,qA,qA,qA,qA,qA,qA,qA,qA,qA,qA,qA,qA,qA,qA,qA,qA,qA,qA,qA,qA,qA,qA,qA,qA,qA,qA,qA,qA,qA],[],0,[]⟩=X0 v0 v1 v2)→ ∀ (v0:Str) (v1:Int) (v2:Int),run (qo n) [.at [0,0,1,0,1,1,1],.lp m [0,1,0,1,1,1],.q9 2,.cut [1,1,1,1],.at [1,1,1,1]] ⟨[.str (sb v0),qA,qA,qA,qA,qA,qA,qA,qA,qA,qA,qA,qA,qA,qA,qA,qA,qA,qA,qA,qA,qA,qA,qA,qA,qA,qA,qA,qA,qA,qA,qA,.int .i64 v1,.int .i64 v2,qA,qA,qA,qA,qA,qA,qA,qA,qA,qA,qA,qA,qA,qA,qA,qA,qA,qA,qA,qA,qA,qA,qA,qA,qA,qA,qA,qA,qA],[],0,[]⟩=B X0 v0 v1 v2}:=by
 apply jH
 intro m X0 ih v0 v1 v2
 simp (config:={maxSteps:=100000000}) only[go_sem,jy,jz,ju,jv,jA,jB,jD,jE,jF,jx,jC,jG,D4,D5,Tryd.f42,jw,mixed,za,zb,zc,AR n,ih]
 exact rfl
noncomputable def zd (n:Nat):Nat→Str→Int→Int→Option Bool
 |0,_,_,_=>none
 |m+1,v0,v1,v2=>(CU n).1 (zd n m) v0 v1 v2
theorem C8 (n:Nat): ∀ (m:Nat),(∀ (v0:Str) (v1:Int) (v2:Int),run (qo n) [.lq m [0,1,0,1,1,1],.q9 2,.cut [1,1,1,1],.at [1,1,1,1]] ⟨[.str (sb v0),qA,qA,qA,qA,qA,qA,qA,qA,qA,qA,qA,qA,qA,qA,qA,qA,qA,qA,qA,qA,qA,qA,qA,qA,qA,qA,qA,qA,qA,qA,qA,.int .i64 v1,.int .i64 v2,qA,qA,qA,qA,qA,qA,qA,qA,qA,qA,qA,qA,qA,qA,qA,qA,qA,qA,qA,qA,qA,qA,qA,qA,qA,qA,qA,qA,qA],[],0,[]⟩=zd n m v0 v1 v2)
 |0=>by intros;exact nK
 |m+1=>by
  have ih:=C8 n m
  intro v0 v1 v2
  rw[nL]
  exact (CU n).2 m _ ih v0 v1 v2
noncomputable def CV (n:Nat):{B:(Str→Int→Int→Option Bool)→Str→Int→Int→Option Bool // ∀m X0,(∀ (v0:Str) (v1:Int) (v2:Int),run (qo n) [.lq m [0,1,0,0,1,0,1,1],.q9 0,.cut [1,0,1,0,1,1],.at [1,0,1,0,1,1],.cut [1,1,1],.at [1,1,1]] ⟨[.str (sb v0),qA,qA,qA,qA,qA,qA,qA,qA,qA,qA,qA,qA,qA,.int .i64 v1,.int .i64 v2,qA,qA,qA,qA,qA,qA,qA,qA,qA,qA,qA,qA,qA,qA,qA,qA,qA,qA,qA,qA,qA,qA,qA,qA,qA,qA,qA,qA,qA,qA,qA,qA,qA,qA,qA,qA,qA,qA,qA,qA,qA,qA,qA,qA,qA,qA,qA],[],0,[]⟩=X0 v0 v1 v2)→ ∀ (v0:Str) (v1:Int) (v2:Int),run (qo n) [.at [0,0,1,0,0,1,0,1,1],.lp m [0,1,0,0,1,0,1,1],.q9 0,.cut [1,0,1,0,1,1],.at [1,0,1,0,1,1],.cut [1,1,1],.at [1,1,1]] ⟨[.str (sb v0),qA,qA,qA,qA,qA,qA,qA,qA,qA,qA,qA,qA,qA,.int .i64 v1,.int .i64 v2,qA,qA,qA,qA,qA,qA,qA,qA,qA,qA,qA,qA,qA,qA,qA,qA,qA,qA,qA,qA,qA,qA,qA,qA,qA,qA,qA,qA,qA,qA,qA,qA,qA,qA,qA,qA,qA,qA,qA,qA,qA,qA,qA,qA,qA,qA,qA],[],0,[]⟩=B X0 v0 v1 v2}:=by
 apply jH
 intro m X0 ih v0 v1 v2
 simp (config:={maxSteps:=100000000}) only[go_sem,jy,jz,ju,jv,jA,jB,jD,jE,jF,jx,jC,jG,D4,D5,Tryd.f42,jw,mixed,za,zb,zc,AR n,C8 n,ih]
 exact rfl
noncomputable def ze (n:Nat):Nat→Str→Int→Int→Option Bool
 |0,_,_,_=>none
 |m+1,v0,v1,v2=>(CV n).1 (ze n m) v0 v1 v2
theorem G0 (n:Nat): ∀ (m:Nat),(∀ (v0:Str) (v1:Int) (v2:Int),run (qo n) [.lq m [0,1,0,0,1,0,1,1],.q9 0,.cut [1,0,1,0,1,1],.at [1,0,1,0,1,1],.cut [1,1,1],.at [1,1,1]] ⟨[.str (sb v0),qA,qA,qA,qA,qA,qA,qA,qA,qA,qA,qA,qA,qA,.int .i64 v1,.int .i64 v2,qA,qA,qA,qA,qA,qA,qA,qA,qA,qA,qA,qA,qA,qA,qA,qA,qA,qA,qA,qA,qA,qA,qA,qA,qA,qA,qA,qA,qA,qA,qA,qA,qA,qA,qA,qA,qA,qA,qA,qA,qA,qA,qA,qA,qA,qA,qA],[],0,[]⟩=ze n m v0 v1 v2)
 |0=>by intros;exact nK
 |m+1=>by
  have ih:=G0 n m
  intro v0 v1 v2
  rw[nL]
  exact (CV n).2 m _ ih v0 v1 v2
noncomputable def G1 (n:Nat):{B:Str→Option Bool // ∀ (a0:Str),run (qo n) [.at []] {slots:=[uI.enc a0]++jI (63-[uI.enc a0].length) qA,heap:=[]}=B a0}:=by
 apply jH
 intro a0
 simp (config:={maxSteps:=100000000}) only[go_sem,jy,jz,ju,jv,jA,jB,jD,jE,jF,jx,jC,jG,D4,D5,Tryd.f42,jw,mixed,za,zb,zc,AR n,C8 n,G0 n]
 exact rfl
noncomputable def D6:Nat→Str→Option Bool
 |0,_=>none
 |n+1,a0=>(G1 n).1 a0
theorem Qw: ∀ (n:Nat) (a0:Str) (r:Bool),D6 n a0=some r→xY Tryd.prog 42 [uI.enc a0] (fun v=>v=oF.enc r)
 |0,_,_,h=>by cases h
 |n+1,a0,r,h=>by
  exact pg (M:=qo n) ⟨(mZ (pZ (KU n)) (mZ (pZ (Qq n)) (mZ (pZ (OZ n)) (mZ (sI (LS n)) (mZ (Lu (Sg n)) m5))))),m6,nT _,nU _,oS,oQ,pz,oX⟩ Tryd.func42 rfl rfl ⟨uI.nb 0 _,trivial⟩ Tryd.ntmps42 Tryd.results42 (fun σ hs=>oZ (P:=Tryd.prog) (rs:=[.tmp 2]) (t:=oF) (σ:=σ) (r:=r) hs) (((G1 n).2 a0).trans h)
noncomputable def BO:Nrm:=⟨[],[],[zA,zK,zA,zA,zA,zK,zA,zA,zA,zA,zA,zA,zA,zA,zA,zA,zA,zA,zA,zA,zA,zA,zA,zA,zA,zA,zA,zA,zA,zA,zA,zA,zA,zA,zA,zA,zA,zA,zA,zA,zA,zA,zA,zA,zA,zA,zA,zA,zA,zA,zA,zA,zA,zA,zA,zA,zA,zA,zA,zA,zA,zA,zA,zA,zA,zA,zA,zA,zA,zA,zA,zA,zA,zA,zA,zA,zA,zA,zA,zA,zA,zA,zA,zA,zA,zA,zA,zA,zA,zA,zA,zA,zA,zA,zA,zA,zA,zA,zA,zA,zA,zA,zA,zA,zA,zA,zA,zA,zA],[oT Notation.cel],none,none⟩
noncomputable def BP:Nrm:=⟨[],[],[zA,zK,zA,zK,zK,zA,zA,zA,zA,zA,zA,zA,zA,zA,zA,zA,zA,zA,zA,zA,zA,zA,zA,zA,zA,zA,zA,zA,zA,zA,zA,zA,zA,zA,zA,zA,zA,zA,zA,zA,zA,zA,zA,zA,zA,zA,zA,zA,zA,zA,zA,zA,zA,zA,zA,zA,zA,zA,zA,zA,zA,zA,zA,zA,zA,zA,zA,zA,zA,zA,zA,zA,zA,zA,zA,zA,zA,zA,zA,zA,zA,zA,zA,zA,zA,zA,zA,zA,zA,zA,zA,zA,zA,zA,zA,zA,zA,zA,zA,zA,zA,zA,zA,zA,zA,zA,zA,zA,zA],[oT Notation.cel],none,none⟩
noncomputable def rN (n:Nat):Mach Int where
 body:=(Tryd.f13.body).getD .skip
 P:=Tryd.prog
 cl:=oJ [(46,p9 uI oF (D2 n)),(47,p9 (nG Notation.cel) oF (ug n)),(48,p9 (nG Notation.cel) oF (xp n)),(49,p9 uI oF (GQ n))]
 cd:=oN []
 qR:=oO [([0,1,0,1,1,1,1,1],BO),([0,1,0,1,1,1],BP)]
 cut:=oP []
 n:=n
 out:=pS Tryd.prog [.tmp 2] (pT .i64)
 q6:=nJ []
theorem IT (n:Nat):(rN n).P=Tryd.prog∧(rN n).cl=oJ [(46,p9 uI oF (D2 n)),(47,p9 (nG Notation.cel) oF (ug n)),(48,p9 (nG Notation.cel) oF (xp n)),(49,p9 uI oF (GQ n))]∧(rN n).cd=oN []∧(rN n).qR=oO [([0,1,0,1,1,1,1,1],BO),([0,1,0,1,1,1],BP)]∧(rN n).cut=oP []∧(rN n).n=n∧(rN n).out=pS Tryd.prog [.tmp 2] (pT .i64)∧(rN n).q6=nJ []:=⟨rfl,rfl,rfl,rfl,rfl,rfl,rfl,rfl⟩
theorem IU (n:Nat):(rN n).body=(Tryd.f13.body).getD .skip:=rfl
noncomputable def D7 (n:Nat):{B:(Int→Notation→Option Int)→Int→Notation→Option Int // ∀m X0,(∀ (v0:Int) (o0:Notation),run (rN n) [.lq m [0,1,0,1,1,1,1,1],.q9 2,.cut [1,1,1,1,1,1],.at [1,1,1,1,1,1]] ⟨[qA,.ptr 0 0,qA,qA,qA,.int .i64 v0,qA,qA,qA,qA,qA,qA,qA,qA,qA,qA,qA,qA,qA,qA,qA,qA,qA,qA,qA,qA,qA,qA,qA,qA,qA,qA,qA,qA,qA,qA,qA,qA,qA,qA,qA,qA,qA,qA,qA,qA,qA,qA,qA,qA,qA,qA,qA,qA,qA,qA,qA,qA,qA,qA,qA,qA,qA,qA,qA,qA,qA,qA,qA,qA,qA,qA,qA,qA,qA,qA,qA,qA,qA,qA,qA,qA,qA,qA,qA,qA,qA,qA,qA,qA,qA,qA,qA,qA,qA,qA,qA,qA,qA,qA,qA,qA,qA,qA,qA,qA,qA,qA,qA],[.cells (Notation.cells o0)],0,[]⟩=X0 v0 o0)→ ∀ (v0:Int) (o0:Notation),run (rN n) [.at [0,0,1,0,1,1,1,1,1],.lp m [0,1,0,1,1,1,1,1],.q9 2,.cut [1,1,1,1,1,1],.at [1,1,1,1,1,1]] ⟨[qA,.ptr 0 0,qA,qA,qA,.int .i64 v0,qA,qA,qA,qA,qA,qA,qA,qA,qA,qA,qA,qA,qA,qA,qA,qA,qA,qA,qA,qA,qA,qA,qA,qA,qA,qA,qA,qA,qA,qA,qA,qA,qA,qA,qA,qA,qA,qA,qA,qA,qA,qA,qA,qA,qA,qA,qA,qA,qA,qA,qA,qA,qA,qA,qA,qA,qA,qA,qA,qA,qA,qA,qA,qA,qA,qA,qA,qA,qA,qA,qA,qA,qA,qA,qA,qA,qA,qA,qA,qA,qA,qA,qA,qA,qA,qA,qA,qA,qA,qA,qA,qA,qA,qA,qA,qA,qA,qA,qA,qA,qA,qA,qA],[.cells (Notation.cells o0)],0,[]⟩=B X0 v0 o0}:=by
 apply jH
 intro m X0 ih v0 o0
 simp (config:={maxSteps:=100000000}) only[go_sem,jy,jz,ju,jv,jA,jB,jD,jE,jF,jx,jC,jG,IT,IU,Tryd.f13,jw,mixed,BO,BP,ih]
 exact rfl
noncomputable def yR (n:Nat):Nat→Int→Notation→Option Int
 |0,_,_=>none
 |m+1,v0,o0=>(D7 n).1 (yR n m) v0 o0
theorem D8 (n:Nat): ∀ (m:Nat),(∀ (v0:Int) (o0:Notation),run (rN n) [.lq m [0,1,0,1,1,1,1,1],.q9 2,.cut [1,1,1,1,1,1],.at [1,1,1,1,1,1]] ⟨[qA,.ptr 0 0,qA,qA,qA,.int .i64 v0,qA,qA,qA,qA,qA,qA,qA,qA,qA,qA,qA,qA,qA,qA,qA,qA,qA,qA,qA,qA,qA,qA,qA,qA,qA,qA,qA,qA,qA,qA,qA,qA,qA,qA,qA,qA,qA,qA,qA,qA,qA,qA,qA,qA,qA,qA,qA,qA,qA,qA,qA,qA,qA,qA,qA,qA,qA,qA,qA,qA,qA,qA,qA,qA,qA,qA,qA,qA,qA,qA,qA,qA,qA,qA,qA,qA,qA,qA,qA,qA,qA,qA,qA,qA,qA,qA,qA,qA,qA,qA,qA,qA,qA,qA,qA,qA,qA,qA,qA,qA,qA,qA,qA],[.cells (Notation.cells o0)],0,[]⟩=yR n m v0 o0)
 |0=>by intros;exact nK
 |m+1=>by
  have ih:=D8 n m
  intro v0 o0
  rw[nL]
  exact (D7 n).2 m _ ih v0 o0
noncomputable def D9 (n:Nat):{B:(Bool→Int→Notation→Option Int)→Bool→Int→Notation→Option Int // ∀m X0,(∀ (v0:Bool) (v1:Int) (o0:Notation),run (rN n) [.lq m [0,1,0,1,1,1],.q9 0,.cut [1,1,1,1],.at [1,1,1,1]] ⟨[qA,.ptr 0 0,qA,.bool v0,.int .i64 v1,qA,qA,qA,qA,qA,qA,qA,qA,qA,qA,qA,qA,qA,qA,qA,qA,qA,qA,qA,qA,qA,qA,qA,qA,qA,qA,qA,qA,qA,qA,qA,qA,qA,qA,qA,qA,qA,qA,qA,qA,qA,qA,qA,qA,qA,qA,qA,qA,qA,qA,qA,qA,qA,qA,qA,qA,qA,qA,qA,qA,qA,qA,qA,qA,qA,qA,qA,qA,qA,qA,qA,qA,qA,qA,qA,qA,qA,qA,qA,qA,qA,qA,qA,qA,qA,qA,qA,qA,qA,qA,qA,qA,qA,qA,qA,qA,qA,qA,qA,qA,qA,qA,qA,qA],[.cells (Notation.cells o0)],0,[]⟩=X0 v0 v1 o0)→ ∀ (v0:Bool) (v1:Int) (o0:Notation),run (rN n) [.at [0,0,1,0,1,1,1],.lp m [0,1,0,1,1,1],.q9 0,.cut [1,1,1,1],.at [1,1,1,1]] ⟨[qA,.ptr 0 0,qA,.bool v0,.int .i64 v1,qA,qA,qA,qA,qA,qA,qA,qA,qA,qA,qA,qA,qA,qA,qA,qA,qA,qA,qA,qA,qA,qA,qA,qA,qA,qA,qA,qA,qA,qA,qA,qA,qA,qA,qA,qA,qA,qA,qA,qA,qA,qA,qA,qA,qA,qA,qA,qA,qA,qA,qA,qA,qA,qA,qA,qA,qA,qA,qA,qA,qA,qA,qA,qA,qA,qA,qA,qA,qA,qA,qA,qA,qA,qA,qA,qA,qA,qA,qA,qA,qA,qA,qA,qA,qA,qA,qA,qA,qA,qA,qA,qA,qA,qA,qA,qA,qA,qA,qA,qA,qA,qA,qA,qA],[.cells (Notation.cells o0)],0,[]⟩=B X0 v0 v1 o0}:=by
 apply jH
 intro m X0 ih v0 v1 o0
 simp (config:={maxSteps:=100000000}) only[go_sem,jy,jz,ju,jv,jA,jB,jD,jE,jF,jx,jC,jG,IT,IU,Tryd.f13,jw,mixed,BO,BP,D8 n,ih]
 exact rfl
noncomputable def wA (n:Nat):Nat→Bool→Int→Notation→Option Int
 |0,_,_,_=>none
 |m+1,v0,v1,o0=>(D9 n).1 (wA n m) v0 v1 o0
theorem H9 (n:Nat): ∀ (m:Nat),(∀ (v0:Bool) (v1:Int) (o0:Notation),run (rN n) [.lq m [0,1,0,1,1,1],.q9 0,.cut [1,1,1,1],.at [1,1,1,1]] ⟨[qA,.ptr 0 0,qA,.bool v0,.int .i64 v1,qA,qA,qA,qA,qA,qA,qA,qA,qA,qA,qA,qA,qA,qA,qA,qA,qA,qA,qA,qA,qA,qA,qA,qA,qA,qA,qA,qA,qA,qA,qA,qA,qA,qA,qA,qA,qA,qA,qA,qA,qA,qA,qA,qA,qA,qA,qA,qA,qA,qA,qA,qA,qA,qA,qA,qA,qA,qA,qA,qA,qA,qA,qA,qA,qA,qA,qA,qA,qA,qA,qA,qA,qA,qA,qA,qA,qA,qA,qA,qA,qA,qA,qA,qA,qA,qA,qA,qA,qA,qA,qA,qA,qA,qA,qA,qA,qA,qA,qA,qA,qA,qA,qA,qA],[.cells (Notation.cells o0)],0,[]⟩=wA n m v0 v1 o0)
 |0=>by intros;exact nK
 |m+1=>by
  have ih:=H9 n m
  intro v0 v1 o0
  rw[nL]
  exact (D9 n).2 m _ ih v0 v1 o0
noncomputable def IV (n:Nat):{B:Notation→Option Int // ∀ (a0:Notation),run (rN n) [.at []] {slots:=[(nG Notation.cel).enc a0]++jI (109-[(nG Notation.cel).enc a0].length) qA,heap:=[]}=B a0}:=by
 apply jH
 intro a0
 simp (config:={maxSteps:=100000000}) only[go_sem,jy,jz,ju,jv,jA,jB,jD,jE,jF,jx,jC,jG,IT,IU,Tryd.f13,jw,mixed,BO,BP,D8 n,H9 n]
 exact rfl
noncomputable def FG:Nat→Notation→Option Int
 |0,_=>none
 |n+1,a0=>(IV n).1 a0
theorem Sn: ∀ (n:Nat) (a0:Notation) (r:Int),FG n a0=some r→xY Tryd.prog 13 [(nG Notation.cel).enc a0] (fun v=>v=(pT .i64).enc r)
 |0,_,_,h=>by cases h
 |n+1,a0,r,h=>by
  exact pg (M:=rN n) ⟨(mZ (pZ (Qv n)) (mZ (pZ (zF n)) (mZ (pZ (DJ n)) (mZ (pZ (TW n)) m5)))),m6,nT _,nU _,oS,oQ,pz,oX⟩ Tryd.func13 rfl rfl ⟨(nG Notation.cel).nb 0 _,trivial⟩ Tryd.ntmps13 Tryd.results13 (fun σ hs=>oZ (P:=Tryd.prog) (rs:=[.tmp 2]) (t:=(pT .i64)) (σ:=σ) (r:=r) hs) (((IV n).2 a0).trans h)
end Go.Abs
namespace Go.Abs
open Go.Proofs
set_option maxRecDepth 100000
set_option maxHeartbeats 4000000
noncomputable def nR (n:Nat):Mach Bool where
 body:=(Tryd.f36.body).getD .skip
 P:=Tryd.prog
 cl:=oJ [(64,su (tyL Notation.row) (E4 37) (pT .i64) (sO n))]
 cd:=oN []
 qR:=oO []
 cut:=oP []
 n:=n
 out:=pS Tryd.prog [.tmp 4] oF
 q6:=nJ []
theorem AS (n:Nat):(nR n).P=Tryd.prog∧(nR n).cl=oJ [(64,su (tyL Notation.row) (E4 37) (pT .i64) (sO n))]∧(nR n).cd=oN []∧(nR n).qR=oO []∧(nR n).cut=oP []∧(nR n).n=n∧(nR n).out=pS Tryd.prog [.tmp 4] oF∧(nR n).q6=nJ []:=⟨rfl,rfl,rfl,rfl,rfl,rfl,rfl,rfl⟩
theorem AT (n:Nat):(nR n).body=(Tryd.f36.body).getD .skip:=rfl
noncomputable def tL (n:Nat):{B:(List Notation)→Unit→Option Bool // ∀ (a0:(List Notation)) (a1:Unit),run (nR n) [.at []] {slots:=[(tyL Notation.row).enc a0,(E4 37).enc a1]++jI (9-[(tyL Notation.row).enc a0,(E4 37).enc a1].length) qA,heap:=[]}=B a0 a1}:=by
 apply jH
 intro a0 a1
 simp (config:={maxSteps:=100000000}) only[go_sem,jy,jz,ju,jv,jA,jB,jD,jE,jF,jx,jC,jG,AS,AT,Tryd.f36,jw,mixed]
 exact rfl
noncomputable def sn:Nat→(List Notation)→Unit→Option Bool
 |0,_,_=>none
 |n+1,a0,a1=>(tL n).1 a0 a1
theorem Av: ∀ (n:Nat) (a0:(List Notation)) (a1:Unit) (r:Bool),sn n a0 a1=some r→xY Tryd.prog 36 [(tyL Notation.row).enc a0,(E4 37).enc a1] (fun v=>v=oF.enc r)
 |0,_,_,_,h=>by cases h
 |n+1,a0,a1,r,h=>by
  exact pg (M:=nR n) ⟨(mZ (sI (Bj n)) m5),m6,nT _,nU _,oS,oQ,pz,oX⟩ Tryd.func36 rfl rfl ⟨(tyL Notation.row).nb 0 _,(E4 37).nb 0 _,trivial⟩ Tryd.ntmps36 Tryd.results36 (fun σ hs=>oZ (P:=Tryd.prog) (rs:=[.tmp 4]) (t:=oF) (σ:=σ) (r:=r) hs) (((tL n).2 a0 a1).trans h)
noncomputable def zm:Nrm:=⟨[],[],[zA,zK,zA,zA,zA,zA,zA,zA,zA,zA,zA,zA,zA,zA,zA,zA,zA,zA,zA,zA,zA,zA,zA,zA,zA,zA,zA,zA,zA,zA,zA,zA,zA,zA,zA,zA,zA,zA,zA,zA,zA,zA,zA,zA,zA,zT (tyL sD),zK,zK,zA,zA,zA,zA,zA,zA,zA,zA,zA,zA,zA,zA,zA,zA,zA,zA,zA,zA,zA,zA,zA,zA,zA,zA,zA,zA,zA,zA,zA,zA,zA,zA,zA,zA,zA,zA,zA,zA,zA,zA,zA,zA],[oT Notation.cel],none,none⟩
noncomputable def zn:Nrm:=⟨[],[],[zA,zK,zA,zK,zA,zA,zA,zA,zA,zA,zA,zA,zA,zA,zA,zA,zA,zA,zA,zT (tyL sD),zK,zK,zA,zA,zA,zA,zA,zA,zA,zA,zA,zA,zA,zA,zA,zA,zA,zA,zA,zA,zA,zA,zA,zA,zA,zA,zA,zA,zA,zA,zA,zA,zA,zA,zA,zA,zA,zA,zA,zA,zA,zA,zA,zA,zA,zA,zA,zA,zA,zA,zA,zA,zA,zA,zA,zA,zA,zA,zA,zA,zA,zA,zA,zA,zA,zA,zA,zA,zA,zA],[oT Notation.cel],none,none⟩
noncomputable def qq (n:Nat):Mach Int where
 body:=(Tryd.f12.body).getD .skip
 P:=Tryd.prog
 cl:=oJ [(42,p9 uI oF (D6 n)),(43,p9 (nG Notation.cel) oF (tY n)),(44,p9 (nG Notation.cel) oF (sS n)),(45,p9 uI oF (Jj n))]
 cd:=oN []
 qR:=oO [([0,1,0,1,1,1,1,1],zm),([0,1,0,1,1,1],zn)]
 cut:=oP []
 n:=n
 out:=pS Tryd.prog [.tmp 2] (pT .i64)
 q6:=nJ []
theorem EP (n:Nat):(qq n).P=Tryd.prog∧(qq n).cl=oJ [(42,p9 uI oF (D6 n)),(43,p9 (nG Notation.cel) oF (tY n)),(44,p9 (nG Notation.cel) oF (sS n)),(45,p9 uI oF (Jj n))]∧(qq n).cd=oN []∧(qq n).qR=oO [([0,1,0,1,1,1,1,1],zm),([0,1,0,1,1,1],zn)]∧(qq n).cut=oP []∧(qq n).n=n∧(qq n).out=pS Tryd.prog [.tmp 2] (pT .i64)∧(qq n).q6=nJ []:=⟨rfl,rfl,rfl,rfl,rfl,rfl,rfl,rfl⟩
theorem ER (n:Nat):(qq n).body=(Tryd.f12.body).getD .skip:=rfl
noncomputable def Bs (n:Nat):{B:((List Str)→Int→Int→Notation→Option Int)→(List Str)→Int→Int→Notation→Option Int // ∀m X0,(∀ (v0:List Str) (v1:Int) (v2:Int) (o0:Notation),run (qq n) [.lq m [0,1,0,1,1,1,1,1],.q9 2,.cut [1,1,1,1,1,1],.at [1,1,1,1,1,1]] ⟨[qA,.ptr 0 0,qA,qA,qA,qA,qA,qA,qA,qA,qA,qA,qA,qA,qA,qA,qA,qA,qA,qA,qA,qA,qA,qA,qA,qA,qA,qA,qA,qA,qA,qA,qA,qA,qA,qA,qA,qA,qA,qA,qA,qA,qA,qA,qA,.nY false 1 (mp pP v0),.int .i64 v1,.int .i64 v2,qA,qA,qA,qA,qA,qA,qA,qA,qA,qA,qA,qA,qA,qA,qA,qA,qA,qA,qA,qA,qA,qA,qA,qA,qA,qA,qA,qA,qA,qA,qA,qA,qA,qA,qA,qA,qA,qA,qA,qA,qA,qA],[.cells (Notation.cells o0)],0,[]⟩=X0 v0 v1 v2 o0)→ ∀ (v0:List Str) (v1:Int) (v2:Int) (o0:Notation),run (qq n) [.at [0,0,1,0,1,1,1,1,1],.lp m [0,1,0,1,1,1,1,1],.q9 2,.cut [1,1,1,1,1,1],.at [1,1,1,1,1,1]] ⟨[qA,.ptr 0 0,qA,qA,qA,qA,qA,qA,qA,qA,qA,qA,qA,qA,qA,qA,qA,qA,qA,qA,qA,qA,qA,qA,qA,qA,qA,qA,qA,qA,qA,qA,qA,qA,qA,qA,qA,qA,qA,qA,qA,qA,qA,qA,qA,.nY false 1 (mp pP v0),.int .i64 v1,.int .i64 v2,qA,qA,qA,qA,qA,qA,qA,qA,qA,qA,qA,qA,qA,qA,qA,qA,qA,qA,qA,qA,qA,qA,qA,qA,qA,qA,qA,qA,qA,qA,qA,qA,qA,qA,qA,qA,qA,qA,qA,qA,qA,qA],[.cells (Notation.cells o0)],0,[]⟩=B X0 v0 v1 v2 o0}:=by
 apply jH
 intro m X0 ih v0 v1 v2 o0
 simp (config:={maxSteps:=100000000}) only[go_sem,jy,jz,ju,jv,jA,jB,jD,jE,jF,jx,jC,jG,EP,ER,Tryd.f12,jw,mixed,zm,zn,ih]
 exact rfl
noncomputable def wB (n:Nat):Nat→(List Str)→Int→Int→Notation→Option Int
 |0,_,_,_,_=>none
 |m+1,v0,v1,v2,o0=>(Bs n).1 (wB n m) v0 v1 v2 o0
theorem BQ (n:Nat): ∀ (m:Nat),(∀ (v0:List Str) (v1:Int) (v2:Int) (o0:Notation),run (qq n) [.lq m [0,1,0,1,1,1,1,1],.q9 2,.cut [1,1,1,1,1,1],.at [1,1,1,1,1,1]] ⟨[qA,.ptr 0 0,qA,qA,qA,qA,qA,qA,qA,qA,qA,qA,qA,qA,qA,qA,qA,qA,qA,qA,qA,qA,qA,qA,qA,qA,qA,qA,qA,qA,qA,qA,qA,qA,qA,qA,qA,qA,qA,qA,qA,qA,qA,qA,qA,.nY false 1 (mp pP v0),.int .i64 v1,.int .i64 v2,qA,qA,qA,qA,qA,qA,qA,qA,qA,qA,qA,qA,qA,qA,qA,qA,qA,qA,qA,qA,qA,qA,qA,qA,qA,qA,qA,qA,qA,qA,qA,qA,qA,qA,qA,qA,qA,qA,qA,qA,qA,qA],[.cells (Notation.cells o0)],0,[]⟩=wB n m v0 v1 v2 o0)
 |0=>by intros;exact nK
 |m+1=>by
  have ih:=BQ n m
  intro v0 v1 v2 o0
  rw[nL]
  exact (Bs n).2 m _ ih v0 v1 v2 o0
noncomputable def Bt (n:Nat):{B:(Int→(List Str)→Int→Int→Notation→Option Int)→Int→(List Str)→Int→Int→Notation→Option Int // ∀m X0,(∀ (v0:Int) (v1:List Str) (v2:Int) (v3:Int) (o0:Notation),run (qq n) [.lq m [0,1,0,1,1,1],.q9 0,.cut [1,1,1,1],.at [1,1,1,1]] ⟨[qA,.ptr 0 0,qA,.int .i64 v0,qA,qA,qA,qA,qA,qA,qA,qA,qA,qA,qA,qA,qA,qA,qA,.nY false 1 (mp pP v1),.int .i64 v2,.int .i64 v3,qA,qA,qA,qA,qA,qA,qA,qA,qA,qA,qA,qA,qA,qA,qA,qA,qA,qA,qA,qA,qA,qA,qA,qA,qA,qA,qA,qA,qA,qA,qA,qA,qA,qA,qA,qA,qA,qA,qA,qA,qA,qA,qA,qA,qA,qA,qA,qA,qA,qA,qA,qA,qA,qA,qA,qA,qA,qA,qA,qA,qA,qA,qA,qA,qA,qA,qA,qA],[.cells (Notation.cells o0)],0,[]⟩=X0 v0 v1 v2 v3 o0)→ ∀ (v0:Int) (v1:List Str) (v2:Int) (v3:Int) (o0:Notation),run (qq n) [.at [0,0,1,0,1,1,1],.lp m [0,1,0,1,1,1],.q9 0,.cut [1,1,1,1],.at [1,1,1,1]] ⟨[qA,.ptr 0 0,qA,.int .i64 v0,qA,qA,qA,qA,qA,qA,qA,qA,qA,qA,qA,qA,qA,qA,qA,.nY false 1 (mp pP v1),.int .i64 v2,.int .i64 v3,qA,qA,qA,qA,qA,qA,qA,qA,qA,qA,qA,qA,qA,qA,qA,qA,qA,qA,qA,qA,qA,qA,qA,qA,qA,qA,qA,qA,qA,qA,qA,qA,qA,qA,qA,qA,qA,qA,qA,qA,qA,qA,qA,qA,qA,qA,qA,qA,qA,qA,qA,qA,qA,qA,qA,qA,qA,qA,qA,qA,qA,qA,qA,qA,qA,qA,qA,qA],[.cells (Notation.cells o0)],0,[]⟩=B X0 v0 v1 v2 v3 o0}:=by
 apply jH
 intro m X0 ih v0 v1 v2 v3 o0
 simp (config:={maxSteps:=100000000}) only[go_sem,jy,jz,ju,jv,jA,jB,jD,jE,jF,jx,jC,jG,EP,ER,Tryd.f12,jw,mixed,zm,zn,BQ n,ih]
 exact rfl
noncomputable def xF (n:Nat):Nat→Int→(List Str)→Int→Int→Notation→Option Int
 |0,_,_,_,_,_=>none
 |m+1,v0,v1,v2,v3,o0=>(Bt n).1 (xF n m) v0 v1 v2 v3 o0
theorem FH (n:Nat): ∀ (m:Nat),(∀ (v0:Int) (v1:List Str) (v2:Int) (v3:Int) (o0:Notation),run (qq n) [.lq m [0,1,0,1,1,1],.q9 0,.cut [1,1,1,1],.at [1,1,1,1]] ⟨[qA,.ptr 0 0,qA,.int .i64 v0,qA,qA,qA,qA,qA,qA,qA,qA,qA,qA,qA,qA,qA,qA,qA,.nY false 1 (mp pP v1),.int .i64 v2,.int .i64 v3,qA,qA,qA,qA,qA,qA,qA,qA,qA,qA,qA,qA,qA,qA,qA,qA,qA,qA,qA,qA,qA,qA,qA,qA,qA,qA,qA,qA,qA,qA,qA,qA,qA,qA,qA,qA,qA,qA,qA,qA,qA,qA,qA,qA,qA,qA,qA,qA,qA,qA,qA,qA,qA,qA,qA,qA,qA,qA,qA,qA,qA,qA,qA,qA,qA,qA,qA,qA],[.cells (Notation.cells o0)],0,[]⟩=xF n m v0 v1 v2 v3 o0)
 |0=>by intros;exact nK
 |m+1=>by
  have ih:=FH n m
  intro v0 v1 v2 v3 o0
  rw[nL]
  exact (Bt n).2 m _ ih v0 v1 v2 v3 o0
noncomputable def ES (n:Nat):{B:Notation→Option Int // ∀ (a0:Notation),run (qq n) [.at []] {slots:=[(nG Notation.cel).enc a0]++jI (90-[(nG Notation.cel).enc a0].length) qA,heap:=[]}=B a0}:=by
 apply jH
 intro a0
 simp (config:={maxSteps:=100000000}) only[go_sem,jy,jz,ju,jv,jA,jB,jD,jE,jF,jx,jC,jG,EP,ER,Tryd.f12,jw,mixed,zm,zn,BQ n,FH n]
 exact rfl
noncomputable def BR:Nat→Notation→Option Int
 |0,_=>none
 |n+1,a0=>(ES n).1 a0
theorem NR: ∀ (n:Nat) (a0:Notation) (r:Int),BR n a0=some r→xY Tryd.prog 12 [(nG Notation.cel).enc a0] (fun v=>v=(pT .i64).enc r)
 |0,_,_,h=>by cases h
 |n+1,a0,r,h=>by
  exact pg (M:=qq n) ⟨(mZ (pZ (Qw n)) (mZ (pZ (Ad n)) (mZ (pZ (zj n)) (mZ (pZ (We n)) m5)))),m6,nT _,nU _,oS,oQ,pz,oX⟩ Tryd.func12 rfl rfl ⟨(nG Notation.cel).nb 0 _,trivial⟩ Tryd.ntmps12 Tryd.results12 (fun σ hs=>oZ (P:=Tryd.prog) (rs:=[.tmp 2]) (t:=(pT .i64)) (σ:=σ) (r:=r) hs) (((ES n).2 a0).trans h)
noncomputable def Gn:Nrm:=⟨[],[],[zT (tyL Notation.row),zA,zA,zK,zA,zA,zK,zA,zA,zA,zA,zA,zA,zA,zA,zA,zA,zA,zA,zA,zA,zA,zA,zA,zA,zA,zA,zA,zA,zA,zA,zA,zA,zA,zA,zA,zA,zA,zA,zA,zA,zA,zA,zA,zA,zA,zA,zA,zA,zA],[oT Notation.cel],none,none⟩
noncomputable def tE (n:Nat):Mach Int where
 body:=(Tryd.f60.body).getD .skip
 P:=Tryd.prog
 cl:=oJ [(13,p9 (nG Notation.cel) (pT .i64) (FG n)),(93,su (nG Notation.cel) (nG Notation.cel) oF (xq n))]
 cd:=oN [(47,vW (p9 (nG Notation.cel) oF (ug n))),(93,vW (su (nG Notation.cel) (nG Notation.cel) oF (xq n))),(94,vW (p9 (nG Notation.cel) uI (BK n)))]
 qR:=oO [([0,1,0,1,1,1,1],Gn)]
 cut:=oP []
 n:=n
 out:=pS Tryd.prog [.tmp 4] (pT .i64)
 q6:=nJ []
 B1:=nJ []
 B0:=nJ []
theorem PO (n:Nat):(tE n).P=Tryd.prog∧(tE n).cl=oJ [(13,p9 (nG Notation.cel) (pT .i64) (FG n)),(93,su (nG Notation.cel) (nG Notation.cel) oF (xq n))]∧(tE n).cd=oN [(47,vW (p9 (nG Notation.cel) oF (ug n))),(93,vW (su (nG Notation.cel) (nG Notation.cel) oF (xq n))),(94,vW (p9 (nG Notation.cel) uI (BK n)))]∧(tE n).qR=oO [([0,1,0,1,1,1,1],Gn)]∧(tE n).cut=oP []∧(tE n).n=n∧(tE n).out=pS Tryd.prog [.tmp 4] (pT .i64)∧(tE n).q6=nJ []∧(tE n).B1=nJ []∧(tE n).B0=nJ []:=⟨rfl,rfl,rfl,rfl,rfl,rfl,rfl,rfl,rfl,rfl⟩
theorem PS (n:Nat):(tE n).body=(Tryd.f60.body).getD .skip:=rfl
theorem PT (n:Nat):wH (tE n) [0,0,0,1,0,0,1,0,1,1,1,1]=true:=by kernel_rfl
noncomputable def Gp (n:Nat):{B:((List Notation)→Int→Notation→Option Int)→(List Notation)→Int→Notation→Option Int // ∀m X0,(∀ (v0:List Notation) (v1:Int) (o0:Notation),run (tE n) [.lq m [0,1,0,1,1,1,1],.q9 0,.cut [1,1,1,1,1],.at [1,1,1,1,1]] ⟨[.nY false 4 (mp Notation.cells v0),qA,qA,.ptr 0 0,qA,qA,.int .i64 v1,qA,qA,qA,qA,qA,qA,qA,qA,qA,qA,qA,qA,qA,qA,qA,qA,qA,qA,qA,qA,qA,qA,qA,qA,qA,qA,qA,qA,qA,qA,qA,qA,qA,qA,qA,qA,qA,qA,qA,qA,qA,qA,qA],[.cells (Notation.cells o0)],0,[]⟩=X0 v0 v1 o0)→ ∀ (v0:List Notation) (v1:Int) (o0:Notation),run (tE n) [.at [0,0,1,0,1,1,1,1],.lp m [0,1,0,1,1,1,1],.q9 0,.cut [1,1,1,1,1],.at [1,1,1,1,1]] ⟨[.nY false 4 (mp Notation.cells v0),qA,qA,.ptr 0 0,qA,qA,.int .i64 v1,qA,qA,qA,qA,qA,qA,qA,qA,qA,qA,qA,qA,qA,qA,qA,qA,qA,qA,qA,qA,qA,qA,qA,qA,qA,qA,qA,qA,qA,qA,qA,qA,qA,qA,qA,qA,qA,qA,qA,qA,qA,qA,qA],[.cells (Notation.cells o0)],0,[]⟩=B X0 v0 v1 o0}:=by
 apply jH
 intro m X0 ih v0 v1 o0
 simp (config:={maxSteps:=100000000}) only[go_sem,jy,jz,ju,jv,jA,jB,jD,jE,jF,jx,jC,jG,PO,PS,Tryd.f60,jw,mixed,PT,Gn,ih]
 exact rfl
noncomputable def AU (n:Nat):Nat→(List Notation)→Int→Notation→Option Int
 |0,_,_,_=>none
 |m+1,v0,v1,o0=>(Gp n).1 (AU n m) v0 v1 o0
theorem Kk (n:Nat): ∀ (m:Nat),(∀ (v0:List Notation) (v1:Int) (o0:Notation),run (tE n) [.lq m [0,1,0,1,1,1,1],.q9 0,.cut [1,1,1,1,1],.at [1,1,1,1,1]] ⟨[.nY false 4 (mp Notation.cells v0),qA,qA,.ptr 0 0,qA,qA,.int .i64 v1,qA,qA,qA,qA,qA,qA,qA,qA,qA,qA,qA,qA,qA,qA,qA,qA,qA,qA,qA,qA,qA,qA,qA,qA,qA,qA,qA,qA,qA,qA,qA,qA,qA,qA,qA,qA,qA,qA,qA,qA,qA,qA,qA],[.cells (Notation.cells o0)],0,[]⟩=AU n m v0 v1 o0)
 |0=>by intros;exact nK
 |m+1=>by
  have ih:=Kk n m
  intro v0 v1 o0
  rw[nL]
  exact (Gp n).2 m _ ih v0 v1 o0
noncomputable def K5 (n:Nat):{B:(List Notation)→Notation→Option Int // ∀ (a0:(List Notation)) (a1:Notation),run (tE n) [.at []] {slots:=[(tyL Notation.row).enc a0,(nG Notation.cel).enc a1]++jI (50-[(tyL Notation.row).enc a0,(nG Notation.cel).enc a1].length) qA,heap:=[]}=B a0 a1}:=by
 apply jH
 intro a0 a1
 simp (config:={maxSteps:=100000000}) only[go_sem,jy,jz,ju,jv,jA,jB,jD,jE,jF,jx,jC,jG,PO,PS,Tryd.f60,jw,mixed,PT,Gn,Kk n]
 exact rfl
noncomputable def Jm:Nat→(List Notation)→Notation→Option Int
 |0,_,_=>none
 |n+1,a0,a1=>(K5 n).1 a0 a1
theorem Wj: ∀ (n:Nat) (a0:(List Notation)) (a1:Notation) (r:Int),Jm n a0 a1=some r→xY Tryd.prog 60 [(tyL Notation.row).enc a0,(nG Notation.cel).enc a1] (fun v=>v=(pT .i64).enc r)
 |0,_,_,_,h=>by cases h
 |n+1,a0,a1,r,h=>by
  exact pg (M:=tE n) ⟨(mZ (pZ (Sn n)) (mZ (sI (HY n)) m5)),(qt (DA (zF n)) (qt (DB (HY n)) (qt (DA (Mo n)) m6))),nT _,nU _,oS,oQ,pz,oX⟩ Tryd.func60 rfl rfl ⟨(tyL Notation.row).nb 0 _,(nG Notation.cel).nb 0 _,trivial⟩ Tryd.ntmps60 Tryd.results60 (fun σ hs=>oZ (P:=Tryd.prog) (rs:=[.tmp 4]) (t:=(pT .i64)) (σ:=σ) (r:=r) hs) (((K5 n).2 a0 a1).trans h)
end Go.Abs
namespace Go.Abs
open Go.Proofs
set_option maxRecDepth 100000
set_option maxHeartbeats 4000000
noncomputable def xx (n:Nat):Mach Bool where
 body:=(Tryd.f10.body).getD .skip
 P:=Tryd.prog
 cl:=oJ [(36,su (tyL Notation.row) (E4 37) oF (sn n))]
 cd:=oN []
 qR:=oO []
 cut:=oP []
 n:=n
 out:=pS Tryd.prog [.tmp 2] oF
 q6:=nJ []
theorem YI (n:Nat):(xx n).P=Tryd.prog∧(xx n).cl=oJ [(36,su (tyL Notation.row) (E4 37) oF (sn n))]∧(xx n).cd=oN []∧(xx n).qR=oO []∧(xx n).cut=oP []∧(xx n).n=n∧(xx n).out=pS Tryd.prog [.tmp 2] oF∧(xx n).q6=nJ []:=⟨rfl,rfl,rfl,rfl,rfl,rfl,rfl,rfl⟩
theorem YJ (n:Nat):(xx n).body=(Tryd.f10.body).getD .skip:=rfl
noncomputable def K6 (n:Nat):{B:(List Notation)→Option Bool // ∀ (a0:(List Notation)),run (xx n) [.at []] {slots:=[(tyL Notation.row).enc a0]++jI (11-[(tyL Notation.row).enc a0].length) qA,heap:=[]}=B a0}:=by
 apply jH
 intro a0
 simp (config:={maxSteps:=100000000}) only[go_sem,jy,jz,ju,jv,jA,jB,jD,jE,jF,jx,jC,jG,YI,YJ,Tryd.f10,jw,mixed]
 exact rfl
noncomputable def Cc:Nat→(List Notation)→Option Bool
 |0,_=>none
 |n+1,a0=>(K6 n).1 a0
theorem J2: ∀ (n:Nat) (a0:(List Notation)) (r:Bool),Cc n a0=some r→xY Tryd.prog 10 [(tyL Notation.row).enc a0] (fun v=>v=oF.enc r)
 |0,_,_,h=>by cases h
 |n+1,a0,r,h=>by
  exact pg (M:=xx n) ⟨(mZ (sI (Av n)) m5),m6,nT _,nU _,oS,oQ,pz,oX⟩ Tryd.func10 rfl rfl ⟨(tyL Notation.row).nb 0 _,trivial⟩ Tryd.ntmps10 Tryd.results10 (fun σ hs=>oZ (P:=Tryd.prog) (rs:=[.tmp 2]) (t:=oF) (σ:=σ) (r:=r) hs) (((K6 n).2 a0).trans h)
noncomputable def va:Nrm:=⟨[],[],[zK,zA,zA,zA,zA,zA,zA,zA,zA,zA,zA,zA,zA,zA,zA,zA,zA,zA,zA,zA,zA,zA,zA,zA,zA,zA,zA,zA,zA,zA,zA,zA,zA,zA,zA,zA,zA,zA,zA,zA,zA,zA,zA,zA,zA,zA,zA,zA,zA,zA,zA,zA,zA,zA,zA,zA,zA,zA,zA,zA,zA,zA,zA,zA,zA,zA,zA,zA,zA,zA,zA,zA,zA,zA,zA,zA,zA,zA,zA,zA,zT (tyL sD),zK,zK,zA,zA,zA,zA,zA,zA,zA,zA,zA,zA,zA,zA,zA,zA,zA,zA,zA,zA],[oC [zK,zK,zK,zK],oM (nG Notation.cel),oM (nG Notation.cel),oK],none,none⟩
noncomputable def vc:Nrm:=⟨[],[],[zK,zA,zA,zK,zA,zA,zK,zK,zT (tyL sD),zA,zA,zA,zA,zA,zA,zA,zA,zA,zA,zA,zA,zA,zA,zA,zA,zA,zA,zA,zA,zA,zA,zA,zA,zA,zA,zA,zA,zA,zA,zA,zA,zA,zA,zA,zA,zA,zA,zA,zA,zA,zA,zA,zA,zA,zA,zA,zT (tyL sD),zK,zK,zA,zA,zA,zA,zA,zA,zA,zA,zA,zA,zA,zA,zA,zA,zA,zA,zA,zA,zA,zA,zA,zA,zA,zA,zA,zA,zA,zA,zA,zA,zA,zA,zA,zA,zA,zA,zA,zA,zA,zA,zA,zA],[oC [zK,zK,zK,zK],oM (nG Notation.cel),oM (nG Notation.cel),oK,oT Notation.cel],none,(some (6,2))⟩
noncomputable def ve:Nrm:=⟨[],[],[zK,zA,zA,zK,zA,zA,zK,zK,zT (tyL sD),zA,zA,zA,zA,zA,zA,zA,zA,zA,zA,zA,zA,zA,zA,zA,zA,zA,zA,zA,zA,zA,zA,zA,zA,zA,zA,zA,zA,zA,zA,zA,zA,zA,zA,zA,zA,zA,zA,zA,zA,zA,zA,zA,zA,zA,zA,zA,zT (tyL sD),zK,zK,zA,zA,zA,zA,zA,zA,zA,zA,zA,zA,zA,zA,zA,zA,zA,zA,zA,zA,zA,zA,zA,zA,zA,zA,zA,zA,zA,zA,zA,zA,zA,zA,zA,zA,zA,zA,zA,zA,zA,zA,zA,zA],[oC [zK,zK,zK,zK],oM (nG Notation.cel),oM (nG Notation.cel),oK,oT Notation.cel],none,(some (6,1))⟩
noncomputable def oh:OL T7:=(tA (B4 (xL 1 (xL 2 (xL 3 (qO (pT .i64) pV))))) (tA (wI (nG Notation.cel)) (tA (wI (nG Notation.cel)) (tA Ke yt))))
noncomputable def p7:OL T7:=(tA (B4 (xL 1 (xL 2 (xL 3 (qO (pT .i64) pV))))) (tA (wI (nG Notation.cel)) (tA (wI (nG Notation.cel)) (tA Ke yt))))
noncomputable def om (n:Nat):Mach Tk where
 body:=(Tryd.f61.body).getD .skip
 P:=Tryd.prog
 cl:=oJ [(12,p9 (nG Notation.cel) (pT .i64) (BR n)),(43,p9 (nG Notation.cel) oF (tY n)),(96,su (tyL sD) uI oF (wk n))]
 cd:=oN []
 qR:=oO [([0,1,0,1,1,1,1,1,1,1,1],va),([0,1,0,1,1,1,1,1,1],vc),([0,1,0,1,1,1,1,1,1],ve)]
 cut:=oP []
 n:=n
 out:=Cy Tryd.prog [.tmp 4] [] [0,1,2,3] 4 p7 (qO (pT .i64) pV)
 cp:=Kn [(95,entXP false [.arg 0 [],.obj 0 0 [],.obj 0 1 [],.obj 0 2 []] n9 (uk 0 (qO (nG Notation.cel) pV)) qJ (xL 2 (qO uI (qO (tyL sD) pV))) qK (xL 1 (qO uI (qO (tyL sD) pV))) (fun (b:T7) (a:(Notation×Unit))=>(zl n) a.1 b.1.1 b.2.1 b.2.2.1 b.2.2.2.1))]
 q6:=nJ [95]
theorem zu (n:Nat):(om n).P=Tryd.prog∧(om n).cl=oJ [(12,p9 (nG Notation.cel) (pT .i64) (BR n)),(43,p9 (nG Notation.cel) oF (tY n)),(96,su (tyL sD) uI oF (wk n))]∧(om n).cd=oN []∧(om n).qR=oO [([0,1,0,1,1,1,1,1,1,1,1],va),([0,1,0,1,1,1,1,1,1],vc),([0,1,0,1,1,1,1,1,1],ve)]∧(om n).cut=oP []∧(om n).n=n∧(om n).out=Cy Tryd.prog [.tmp 4] [] [0,1,2,3] 4 p7 (qO (pT .i64) pV)∧(om n).cp=Kn [(95,entXP false [.arg 0 [],.obj 0 0 [],.obj 0 1 [],.obj 0 2 []] n9 (uk 0 (qO (nG Notation.cel) pV)) qJ (xL 2 (qO uI (qO (tyL sD) pV))) qK (xL 1 (qO uI (qO (tyL sD) pV))) (fun (b:T7) (a:(Notation×Unit))=>(zl n) a.1 b.1.1 b.2.1 b.2.2.1 b.2.2.2.1))]∧(om n).q6=nJ [95]:=⟨rfl,rfl,rfl,rfl,rfl,rfl,rfl,rfl,rfl⟩
theorem zw (n:Nat):(om n).body=(Tryd.f61.body).getD .skip:=rfl
noncomputable def yU (n:Nat):{B:((List Str)→Int→Int→Int→T3→T3→T5→Option Tk)→(List Str)→Int→Int→Int→T3→T3→T5→Option Tk // ∀m X0,(∀ (v0:List Str) (v1:Int) (v2:Int) (v3:Int) (r1:List (Str×Notation)) (r2:List (Str×Notation)) (r3:List (Str×Bool)),run (om n) [.lq m [0,1,0,1,1,1,1,1,1,1,1],.q9 2,.cut [1,1,1,1,1,1,1,1,1],.at [1,1,1,1,1,1,1,1,1]] ⟨[.ptr 0 0,qA,qA,qA,qA,qA,qA,qA,qA,qA,qA,qA,qA,qA,qA,qA,qA,qA,qA,qA,qA,qA,qA,qA,qA,qA,qA,qA,qA,qA,qA,qA,qA,qA,qA,qA,qA,qA,qA,qA,qA,qA,qA,qA,qA,qA,qA,qA,qA,qA,qA,qA,qA,qA,qA,qA,qA,qA,qA,qA,qA,qA,qA,qA,qA,qA,qA,qA,qA,qA,qA,qA,qA,qA,qA,qA,qA,qA,qA,qA,.nY false 1 (mp pP v0),.int .i64 v1,.int .i64 v2,qA,qA,qA,qA,qA,qA,qA,qA,qA,qA,qA,qA,qA,qA,qA,qA,qA,qA],[.cells [.map 1,.map 2,.map 3,.int .i64 v3],.map (mp (mcT (nG Notation.cel)) r1),.map (mp (mcT (nG Notation.cel)) r2),.map (mp mcB r3)],4,[]⟩=X0 v0 v1 v2 v3 r1 r2 r3)→ ∀ (v0:List Str) (v1:Int) (v2:Int) (v3:Int) (r1:List (Str×Notation)) (r2:List (Str×Notation)) (r3:List (Str×Bool)),run (om n) [.at [0,0,1,0,1,1,1,1,1,1,1,1],.lp m [0,1,0,1,1,1,1,1,1,1,1],.q9 2,.cut [1,1,1,1,1,1,1,1,1],.at [1,1,1,1,1,1,1,1,1]] ⟨[.ptr 0 0,qA,qA,qA,qA,qA,qA,qA,qA,qA,qA,qA,qA,qA,qA,qA,qA,qA,qA,qA,qA,qA,qA,qA,qA,qA,qA,qA,qA,qA,qA,qA,qA,qA,qA,qA,qA,qA,qA,qA,qA,qA,qA,qA,qA,qA,qA,qA,qA,qA,qA,qA,qA,qA,qA,qA,qA,qA,qA,qA,qA,qA,qA,qA,qA,qA,qA,qA,qA,qA,qA,qA,qA,qA,qA,qA,qA,qA,qA,qA,.nY false 1 (mp pP v0),.int .i64 v1,.int .i64 v2,qA,qA,qA,qA,qA,qA,qA,qA,qA,qA,qA,qA,qA,qA,qA,qA,qA,qA],[.cells [.map 1,.map 2,.map 3,.int .i64 v3],.map (mp (mcT (nG Notation.cel)) r1),.map (mp (mcT (nG Notation.cel)) r2),.map (mp mcB r3)],4,[]⟩=B X0 v0 v1 v2 v3 r1 r2 r3}:=by
 apply jH
 intro m X0 ih v0 v1 v2 v3 r1 r2 r3
 simp (config:={maxSteps:=100000000,implicitDefEqProofs:=false}) only[go_sem,jy,jz,ju,jv,jA,jB,jD,jE,jF,jx,jC,jG,zu,zw,Tryd.f61,jw,mixed,oh,p7,n9,qJ,qK,va,vc,ve,ih]
 exact rfl
noncomputable def uh (n:Nat):Nat→(List Str)→Int→Int→Int→T3→T3→T5→Option Tk
 |0,_,_,_,_,_,_,_=>none
 |m+1,v0,v1,v2,v3,r1,r2,r3=>(yU n).1 (uh n m) v0 v1 v2 v3 r1 r2 r3
theorem xj (n:Nat): ∀ (m:Nat),(∀ (v0:List Str) (v1:Int) (v2:Int) (v3:Int) (r1:List (Str×Notation)) (r2:List (Str×Notation)) (r3:List (Str×Bool)),run (om n) [.lq m [0,1,0,1,1,1,1,1,1,1,1],.q9 2,.cut [1,1,1,1,1,1,1,1,1],.at [1,1,1,1,1,1,1,1,1]] ⟨[.ptr 0 0,qA,qA,qA,qA,qA,qA,qA,qA,qA,qA,qA,qA,qA,qA,qA,qA,qA,qA,qA,qA,qA,qA,qA,qA,qA,qA,qA,qA,qA,qA,qA,qA,qA,qA,qA,qA,qA,qA,qA,qA,qA,qA,qA,qA,qA,qA,qA,qA,qA,qA,qA,qA,qA,qA,qA,qA,qA,qA,qA,qA,qA,qA,qA,qA,qA,qA,qA,qA,qA,qA,qA,qA,qA,qA,qA,qA,qA,qA,qA,.nY false 1 (mp pP v0),.int .i64 v1,.int .i64 v2,qA,qA,qA,qA,qA,qA,qA,qA,qA,qA,qA,qA,qA,qA,qA,qA,qA,qA],[.cells [.map 1,.map 2,.map 3,.int .i64 v3],.map (mp (mcT (nG Notation.cel)) r1),.map (mp (mcT (nG Notation.cel)) r2),.map (mp mcB r3)],4,[]⟩=uh n m v0 v1 v2 v3 r1 r2 r3)
 |0=>by intros;exact nK
 |m+1=>by
  have ih:=xj n m
  intro v0 v1 v2 v3 r1 r2 r3
  rw[nL]
  exact (yU n).2 m _ ih v0 v1 v2 v3 r1 r2 r3
noncomputable def yV (n:Nat):{B:Tq→Str→(List Str)→(List Str)→Int→Int→Int→T3→T3→T5→Notation→Option Tk // ∀m X0,(∀ (v0:Str) (v1:List Str) (v2:List Str) (v3:Int) (v4:Int) (v5:Int) (r1:List (Str×Notation)) (r2:List (Str×Notation)) (r3:List (Str×Bool)) (o4:Notation),run (om n) [.lq m [0,1,0,1,1,1,1,1,1],.q9 0,.cut [1,1,1,1,1,1,1],.at [1,1,1,1,1,1,1]] ⟨[.ptr 0 0,qA,qA,.ptr 4 0,qA,qA,.map 2,.str (sb v0),.nY false 1 (mp pP v1),qA,qA,qA,qA,qA,qA,qA,qA,qA,qA,qA,qA,qA,qA,qA,qA,qA,qA,qA,qA,qA,qA,qA,qA,qA,qA,qA,qA,qA,qA,qA,qA,qA,qA,qA,qA,qA,qA,qA,qA,qA,qA,qA,qA,qA,qA,qA,.nY false 1 (mp pP v2),.int .i64 v3,.int .i64 v4,qA,qA,qA,qA,qA,qA,qA,qA,qA,qA,qA,qA,qA,qA,qA,qA,qA,qA,qA,qA,qA,qA,qA,qA,qA,qA,qA,qA,qA,qA,qA,qA,qA,qA,qA,qA,qA,qA,qA,qA,qA,qA],[.cells [.map 1,.map 2,.map 3,.int .i64 v5],.map (mp (mcT (nG Notation.cel)) r1),.map (mp (mcT (nG Notation.cel)) r2),.map (mp mcB r3),.cells (Notation.cells o4)],4,[]⟩=X0 v0 v1 v2 v3 v4 v5 r1 r2 r3 o4)→ ∀ (v0:Str) (v1:List Str) (v2:List Str) (v3:Int) (v4:Int) (v5:Int) (r1:List (Str×Notation)) (r2:List (Str×Notation)) (r3:List (Str×Bool)) (o4:Notation),run (om n) [.at [0,0,1,0,1,1,1,1,1,1],.lp m [0,1,0,1,1,1,1,1,1],.q9 0,.cut [1,1,1,1,1,1,1],.at [1,1,1,1,1,1,1]] ⟨[.ptr 0 0,qA,qA,.ptr 4 0,qA,qA,.map 2,.str (sb v0),.nY false 1 (mp pP v1),qA,qA,qA,qA,qA,qA,qA,qA,qA,qA,qA,qA,qA,qA,qA,qA,qA,qA,qA,qA,qA,qA,qA,qA,qA,qA,qA,qA,qA,qA,qA,qA,qA,qA,qA,qA,qA,qA,qA,qA,qA,qA,qA,qA,qA,qA,qA,.nY false 1 (mp pP v2),.int .i64 v3,.int .i64 v4,qA,qA,qA,qA,qA,qA,qA,qA,qA,qA,qA,qA,qA,qA,qA,qA,qA,qA,qA,qA,qA,qA,qA,qA,qA,qA,qA,qA,qA,qA,qA,qA,qA,qA,qA,qA,qA,qA,qA,qA,qA,qA],[.cells [.map 1,.map 2,.map 3,.int .i64 v5],.map (mp (mcT (nG Notation.cel)) r1),.map (mp (mcT (nG Notation.cel)) r2),.map (mp mcB r3),.cells (Notation.cells o4)],4,[]⟩=B X0 v0 v1 v2 v3 v4 v5 r1 r2 r3 o4}:=by
 apply jH
 intro m X0 ih v0 v1 v2 v3 v4 v5 r1 r2 r3 o4
 simp (config:={maxSteps:=100000000,implicitDefEqProofs:=false}) only[go_sem,jy,jz,ju,jv,jA,jB,jD,jE,jF,jx,jC,jG,zu,zw,Tryd.f61,jw,mixed,oh,p7,n9,qJ,qK,va,vc,ve,xj n,ih]
 exact rfl
noncomputable def vf (n:Nat):Nat→Str→(List Str)→(List Str)→Int→Int→Int→T3→T3→T5→Notation→Option Tk
 |0,_,_,_,_,_,_,_,_,_,_=>none
 |m+1,v0,v1,v2,v3,v4,v5,r1,r2,r3,o4=>(yV n).1 (vf n m) v0 v1 v2 v3 v4 v5 r1 r2 r3 o4
theorem zI (n:Nat): ∀ (m:Nat),(∀ (v0:Str) (v1:List Str) (v2:List Str) (v3:Int) (v4:Int) (v5:Int) (r1:List (Str×Notation)) (r2:List (Str×Notation)) (r3:List (Str×Bool)) (o4:Notation),run (om n) [.lq m [0,1,0,1,1,1,1,1,1],.q9 0,.cut [1,1,1,1,1,1,1],.at [1,1,1,1,1,1,1]] ⟨[.ptr 0 0,qA,qA,.ptr 4 0,qA,qA,.map 2,.str (sb v0),.nY false 1 (mp pP v1),qA,qA,qA,qA,qA,qA,qA,qA,qA,qA,qA,qA,qA,qA,qA,qA,qA,qA,qA,qA,qA,qA,qA,qA,qA,qA,qA,qA,qA,qA,qA,qA,qA,qA,qA,qA,qA,qA,qA,qA,qA,qA,qA,qA,qA,qA,qA,.nY false 1 (mp pP v2),.int .i64 v3,.int .i64 v4,qA,qA,qA,qA,qA,qA,qA,qA,qA,qA,qA,qA,qA,qA,qA,qA,qA,qA,qA,qA,qA,qA,qA,qA,qA,qA,qA,qA,qA,qA,qA,qA,qA,qA,qA,qA,qA,qA,qA,qA,qA,qA],[.cells [.map 1,.map 2,.map 3,.int .i64 v5],.map (mp (mcT (nG Notation.cel)) r1),.map (mp (mcT (nG Notation.cel)) r2),.map (mp mcB r3),.cells (Notation.cells o4)],4,[]⟩=vf n m v0 v1 v2 v3 v4 v5 r1 r2 r3 o4)
 |0=>by intros;exact nK
 |m+1=>by
  have ih:=zI n m
  intro v0 v1 v2 v3 v4 v5 r1 r2 r3 o4
  rw[nL]
  exact (yV n).2 m _ ih v0 v1 v2 v3 v4 v5 r1 r2 r3 o4
noncomputable def yW (n:Nat):{B:Tq→Str→(List Str)→(List Str)→Int→Int→Int→T3→T3→T5→Notation→Option Tk // ∀m X0,(∀ (v0:Str) (v1:List Str) (v2:List Str) (v3:Int) (v4:Int) (v5:Int) (r1:List (Str×Notation)) (r2:List (Str×Notation)) (r3:List (Str×Bool)) (o4:Notation),run (om n) [.lq m [0,1,0,1,1,1,1,1,1],.q9 0,.cut [1,1,1,1,1,1,1],.at [1,1,1,1,1,1,1]] ⟨[.ptr 0 0,qA,qA,.ptr 4 0,qA,qA,.map 1,.str (sb v0),.nY false 1 (mp pP v1),qA,qA,qA,qA,qA,qA,qA,qA,qA,qA,qA,qA,qA,qA,qA,qA,qA,qA,qA,qA,qA,qA,qA,qA,qA,qA,qA,qA,qA,qA,qA,qA,qA,qA,qA,qA,qA,qA,qA,qA,qA,qA,qA,qA,qA,qA,qA,.nY false 1 (mp pP v2),.int .i64 v3,.int .i64 v4,qA,qA,qA,qA,qA,qA,qA,qA,qA,qA,qA,qA,qA,qA,qA,qA,qA,qA,qA,qA,qA,qA,qA,qA,qA,qA,qA,qA,qA,qA,qA,qA,qA,qA,qA,qA,qA,qA,qA,qA,qA,qA],[.cells [.map 1,.map 2,.map 3,.int .i64 v5],.map (mp (mcT (nG Notation.cel)) r1),.map (mp (mcT (nG Notation.cel)) r2),.map (mp mcB r3),.cells (Notation.cells o4)],4,[]⟩=X0 v0 v1 v2 v3 v4 v5 r1 r2 r3 o4)→ ∀ (v0:Str) (v1:List Str) (v2:List Str) (v3:Int) (v4:Int) (v5:Int) (r1:List (Str×Notation)) (r2:List (Str×Notation)) (r3:List (Str×Bool)) (o4:Notation),run (om n) [.at [0,0,1,0,1,1,1,1,1,1],.lp m [0,1,0,1,1,1,1,1,1],.q9 0,.cut [1,1,1,1,1,1,1],.at [1,1,1,1,1,1,1]] ⟨[.ptr 0 0,qA,qA,.ptr 4 0,qA,qA,.map 1,.str (sb v0),.nY false 1 (mp pP v1),qA,qA,qA,qA,qA,qA,qA,qA,qA,qA,qA,qA,qA,qA,qA,qA,qA,qA,qA,qA,qA,qA,qA,qA,qA,qA,qA,qA,qA,qA,qA,qA,qA,qA,qA,qA,qA,qA,qA,qA,qA,qA,qA,qA,qA,qA,qA,.nY false 1 (mp pP v2),.int .i64 v3,.int .i64 v4,qA,qA,qA,qA,qA,qA,qA,qA,qA,qA,qA,qA,qA,qA,qA,qA,qA,qA,qA,qA,qA,qA,qA,qA,qA,qA,qA,qA,qA,qA,qA,qA,qA,qA,qA,qA,qA,qA,qA,qA,qA,qA],[.cells [.map 1,.map 2,.map 3,.int .i64 v5],.map (mp (mcT (nG Notation.cel)) r1),.map (mp (mcT (nG Notation.cel)) r2),.map (mp mcB r3),.cells (Notation.cells o4)],4,[]⟩=B X0 v0 v1 v2 v3 v4 v5 r1 r2 r3 o4}:=by
 apply jH
 intro m X0 ih v0 v1 v2 v3 v4 v5 r1 r2 r3 o4
 simp (config:={maxSteps:=100000000,implicitDefEqProofs:=false}) only[go_sem,jy,jz,ju,jv,jA,jB,jD,jE,jF,jx,jC,jG,zu,zw,Tryd.f61,jw,mixed,oh,p7,n9,qJ,qK,va,vc,ve,xj n,zI n,ih]
 exact rfl
noncomputable def vg (n:Nat):Nat→Str→(List Str)→(List Str)→Int→Int→Int→T3→T3→T5→Notation→Option Tk
 |0,_,_,_,_,_,_,_,_,_,_=>none
 |m+1,v0,v1,v2,v3,v4,v5,r1,r2,r3,o4=>(yW n).1 (vg n m) v0 v1 v2 v3 v4 v5 r1 r2 r3 o4
theorem CD (n:Nat): ∀ (m:Nat),(∀ (v0:Str) (v1:List Str) (v2:List Str) (v3:Int) (v4:Int) (v5:Int) (r1:List (Str×Notation)) (r2:List (Str×Notation)) (r3:List (Str×Bool)) (o4:Notation),run (om n) [.lq m [0,1,0,1,1,1,1,1,1],.q9 0,.cut [1,1,1,1,1,1,1],.at [1,1,1,1,1,1,1]] ⟨[.ptr 0 0,qA,qA,.ptr 4 0,qA,qA,.map 1,.str (sb v0),.nY false 1 (mp pP v1),qA,qA,qA,qA,qA,qA,qA,qA,qA,qA,qA,qA,qA,qA,qA,qA,qA,qA,qA,qA,qA,qA,qA,qA,qA,qA,qA,qA,qA,qA,qA,qA,qA,qA,qA,qA,qA,qA,qA,qA,qA,qA,qA,qA,qA,qA,qA,.nY false 1 (mp pP v2),.int .i64 v3,.int .i64 v4,qA,qA,qA,qA,qA,qA,qA,qA,qA,qA,qA,qA,qA,qA,qA,qA,qA,qA,qA,qA,qA,qA,qA,qA,qA,qA,qA,qA,qA,qA,qA,qA,qA,qA,qA,qA,qA,qA,qA,qA,qA,qA],[.cells [.map 1,.map 2,.map 3,.int .i64 v5],.map (mp (mcT (nG Notation.cel)) r1),.map (mp (mcT (nG Notation.cel)) r2),.map (mp mcB r3),.cells (Notation.cells o4)],4,[]⟩=vg n m v0 v1 v2 v3 v4 v5 r1 r2 r3 o4)
 |0=>by intros;exact nK
 |m+1=>by
  have ih:=CD n m
  intro v0 v1 v2 v3 v4 v5 r1 r2 r3 o4
  rw[nL]
  exact (yW n).2 m _ ih v0 v1 v2 v3 v4 v5 r1 r2 r3 o4
noncomputable def BS (n:Nat):{B:Notation→Int→T3→T3→T5→Option Tk // ∀ (a0:Notation) (o0:Int) (o1:T3) (o2:T3) (o3:T5),run (om n) [.at []] {slots:=((uk 0 (qO (nG Notation.cel) pV)).enc (oh.lens ((o0,()),o1,o2,o3,())) (a0,()))++jI (101-((uk 0 (qO (nG Notation.cel) pV)).enc (oh.lens ((o0,()),o1,o2,o3,())) (a0,())).length) qA,heap:=(oh.enc (oh.lens ((o0,()),o1,o2,o3,())) ((o0,()),o1,o2,o3,())),low:=(oh.enc (oh.lens ((o0,()),o1,o2,o3,())) ((o0,()),o1,o2,o3,())).length}=B a0 o0 o1 o2 o3}:=by
 apply jH
 intro a0 o0 o1 o2 o3
 simp (config:={maxSteps:=100000000,implicitDefEqProofs:=false}) only[go_sem,jy,jz,ju,jv,jA,jB,jD,jE,jF,jx,jC,jG,zu,zw,Tryd.f61,jw,mixed,oh,p7,n9,qJ,qK,va,vc,ve,xj n,zI n,CD n]
 exact rfl
noncomputable def yS:Nat→Notation→Int→T3→T3→T5→Option Tk
 |0,_,_,_,_,_=>none
 |n+1,a0,o0,o1,o2,o3=>(BS n).1 a0 o0 o1 o2 o3
theorem Ks: ∀ (n:Nat) (a0:Notation) (o0:Int) (o1:T3) (o2:T3) (o3:T5) (r:Tk),yS n a0 o0 o1 o2 o3=some r→QF Tryd.prog 61 ((uk 0 (qO (nG Notation.cel) pV)).enc (oh.lens ((o0,()),o1,o2,o3,())) (a0,())) (oh.enc (oh.lens ((o0,()),o1,o2,o3,())) ((o0,()),o1,o2,o3,())) (fun o H'=>o= .ret (vX ((qO (pT .i64) pV).enc (p7.lens r.1) r.2))∧H'=p7.enc (p7.lens r.1) r.1)
 |0,_,_,_,_,_,_,h=>by cases h
 |n+1,a0,o0,o1,o2,o3,r,h=>by
  exact B3 (M:=om n) ⟨(mZ (pZ (NR n)) (mZ (pZ (Ad n)) (mZ (sI (Ho n)) m5))),m6,nT _,nU _,oS,oQ,(zg (DC (fun b a r h=>(Ji n) a.1 b.1.1 b.2.1 b.2.2.1 b.2.2.2.1 r h)) Di),oX⟩ Tryd.func61 rfl rfl (sP (jJ (of_decide_eq_true (by kernel_rfl)) (jK (oh.sz _ _).symm)) _ ((uk 0 (qO (nG Notation.cel) pV)).nb _ _)) (fun x hx=>uC (jJ (of_decide_eq_true (by kernel_rfl)) (jK (oh.sz _ _).symm)) _ (oh.nb _ _ x hx)) Tryd.ntmps61 Tryd.results61 (fun σ hs=>Bo (P:=Tryd.prog) (rs:=[.tmp 4]) (pos:=[]) (base:=[0,1,2,3]) (low:=4) (os:=p7) (s:=(qO (pT .i64) pV)) (σ:=σ) (r:=r) (by rfl) hs) (((BS n).2 a0 o0 o1 o2 o3).trans h)
noncomputable def Ea:Nrm:=⟨[],[],[zT (tyL Notation.row),zA,zA,zK,zA,zA,zA,zA,zA,zA,zA,zA,zA,zA,zA,zA,zA,zA,zA],[],none,none⟩
noncomputable def rO (n:Nat):Mach Bool where
 body:=(Tryd.f23.body).getD .skip
 P:=Tryd.prog
 cl:=oJ []
 cd:=oN [(60,vW (su (tyL Notation.row) (nG Notation.cel) (pT .i64) (Jm n)))]
 qR:=oO [([0,1,0,1],Ea)]
 cut:=oP []
 n:=n
 out:=pS Tryd.prog [.tmp 2] oF
 q6:=nJ []
 B1:=nJ []
 B0:=nJ []
theorem Mv (n:Nat):(rO n).P=Tryd.prog∧(rO n).cl=oJ []∧(rO n).cd=oN [(60,vW (su (tyL Notation.row) (nG Notation.cel) (pT .i64) (Jm n)))]∧(rO n).qR=oO [([0,1,0,1],Ea)]∧(rO n).cut=oP []∧(rO n).n=n∧(rO n).out=pS Tryd.prog [.tmp 2] oF∧(rO n).q6=nJ []∧(rO n).B1=nJ []∧(rO n).B0=nJ []:=⟨rfl,rfl,rfl,rfl,rfl,rfl,rfl,rfl,rfl,rfl⟩
theorem Mw (n:Nat):(rO n).body=(Tryd.f23.body).getD .skip:=rfl
theorem Mx (n:Nat):wH (rO n) [0,0,0,1,0,0,1,0,1]=true:=by kernel_rfl
noncomputable def Eb (n:Nat):{B:((List Notation)→Int→Option Bool)→(List Notation)→Int→Option Bool // ∀m X0,(∀ (v0:List Notation) (v1:Int),run (rO n) [.lq m [0,1,0,1],.q9 0,.cut [1,1],.at [1,1]] ⟨[.nY false 4 (mp Notation.cells v0),qA,qA,.int .i64 v1,qA,qA,qA,qA,qA,qA,qA,qA,qA,qA,qA,qA,qA,qA,qA],[],0,[]⟩=X0 v0 v1)→ ∀ (v0:List Notation) (v1:Int),run (rO n) [.at [0,0,1,0,1],.lp m [0,1,0,1],.q9 0,.cut [1,1],.at [1,1]] ⟨[.nY false 4 (mp Notation.cells v0),qA,qA,.int .i64 v1,qA,qA,qA,qA,qA,qA,qA,qA,qA,qA,qA,qA,qA,qA,qA],[],0,[]⟩=B X0 v0 v1}:=by
 apply jH
 intro m X0 ih v0 v1
 simp (config:={maxSteps:=100000000}) only[go_sem,jy,jz,ju,jv,jA,jB,jD,jE,jF,jx,jC,jG,Mv,Mw,Tryd.f23,jw,mixed,Mx,Ea,ih]
 exact rfl
noncomputable def Ar (n:Nat):Nat→(List Notation)→Int→Option Bool
 |0,_,_=>none
 |m+1,v0,v1=>(Eb n).1 (Ar n m) v0 v1
theorem Ia (n:Nat): ∀ (m:Nat),(∀ (v0:List Notation) (v1:Int),run (rO n) [.lq m [0,1,0,1],.q9 0,.cut [1,1],.at [1,1]] ⟨[.nY false 4 (mp Notation.cells v0),qA,qA,.int .i64 v1,qA,qA,qA,qA,qA,qA,qA,qA,qA,qA,qA,qA,qA,qA,qA],[],0,[]⟩=Ar n m v0 v1)
 |0=>by intros;exact nK
 |m+1=>by
  have ih:=Ia n m
  intro v0 v1
  rw[nL]
  exact (Eb n).2 m _ ih v0 v1
noncomputable def IW (n:Nat):{B:(List Notation)→Option Bool // ∀ (a0:(List Notation)),run (rO n) [.at []] {slots:=[(tyL Notation.row).enc a0]++jI (19-[(tyL Notation.row).enc a0].length) qA,heap:=[]}=B a0}:=by
 apply jH
 intro a0
 simp (config:={maxSteps:=100000000}) only[go_sem,jy,jz,ju,jv,jA,jB,jD,jE,jF,jx,jC,jG,Mv,Mw,Tryd.f23,jw,mixed,Mx,Ea,Ia n]
 exact rfl
noncomputable def zx:Nat→(List Notation)→Option Bool
 |0,_=>none
 |n+1,a0=>(IW n).1 a0
theorem G2: ∀ (n:Nat) (a0:(List Notation)) (r:Bool),zx n a0=some r→xY Tryd.prog 23 [(tyL Notation.row).enc a0] (fun v=>v=oF.enc r)
 |0,_,_,h=>by cases h
 |n+1,a0,r,h=>by
  exact pg (M:=rO n) ⟨m5,(qt (DB (Wj n)) m6),nT _,nU _,oS,oQ,pz,oX⟩ Tryd.func23 rfl rfl ⟨(tyL Notation.row).nb 0 _,trivial⟩ Tryd.ntmps23 Tryd.results23 (fun σ hs=>oZ (P:=Tryd.prog) (rs:=[.tmp 2]) (t:=oF) (σ:=σ) (r:=r) hs) (((IW n).2 a0).trans h)
end Go.Abs
namespace Go.Abs
open Go.Proofs
set_option maxRecDepth 100000
set_option maxHeartbeats 4000000
noncomputable def zU:Nrm:=⟨[],[],[zA,zA,zA,zA,zK,zA,zA,zA,zT (tyL Notation.row),zK,zK,zA,zA,zA,zA,zA,zA,zA,zA,zA],[oC [zK,zK,zK,zK],oM (nG Notation.cel),oM (nG Notation.cel),oK],none,none⟩
noncomputable def qS:AL Unit:=(alK (.raw (.pointer none)) nbK_r (alK (.bool false) PL pV))
noncomputable def qT:OL T7:=(tA (B4 (xL 1 (xL 2 (xL 3 (qO (pT .i64) pV))))) (tA (wI (nG Notation.cel)) (tA (wI (nG Notation.cel)) (tA Ke yt))))
noncomputable def qC (n:Nat):Mach Tm where
 body:=(Tryd.f51.body).getD .skip
 P:=Tryd.prog
 cl:=oJ [(61,entX [.arg 0 [],.obj 0 0 [],.obj 0 1 [],.obj 0 2 []] oh (uk 0 (qO (nG Notation.cel) pV)) p7 (qO (pT .i64) pV) (fun (b:T7) (a:(Notation×Unit))=>(yS n) a.1 b.1.1 b.2.1 b.2.2.1 b.2.2.2.1)),(78,entX [] yt pV qW (uk 0 pV) (fun (b:Unit) (a:Unit)=>(zh n)))]
 cd:=oN []
 qR:=oO [([0,1,0,1,1],zU)]
 cut:=oP []
 n:=n
 out:=RY Tryd.prog [.tmp 2,.tmp 3] [] [] 0 yt qS [.arg 0 [],.obj 0 0 [],.obj 0 1 [],.obj 0 2 []] qT (uk 0 (alK (.bool true) PL pV))
 q6:=nJ []
theorem G3 (n:Nat):(qC n).P=Tryd.prog∧(qC n).cl=oJ [(61,entX [.arg 0 [],.obj 0 0 [],.obj 0 1 [],.obj 0 2 []] oh (uk 0 (qO (nG Notation.cel) pV)) p7 (qO (pT .i64) pV) (fun (b:T7) (a:(Notation×Unit))=>(yS n) a.1 b.1.1 b.2.1 b.2.2.1 b.2.2.2.1)),(78,entX [] yt pV qW (uk 0 pV) (fun (b:Unit) (a:Unit)=>(zh n)))]∧(qC n).cd=oN []∧(qC n).qR=oO [([0,1,0,1,1],zU)]∧(qC n).cut=oP []∧(qC n).n=n∧(qC n).out=RY Tryd.prog [.tmp 2,.tmp 3] [] [] 0 yt qS [.arg 0 [],.obj 0 0 [],.obj 0 1 [],.obj 0 2 []] qT (uk 0 (alK (.bool true) PL pV))∧(qC n).q6=nJ []:=⟨rfl,rfl,rfl,rfl,rfl,rfl,rfl,rfl⟩
theorem G4 (n:Nat):(qC n).body=(Tryd.f51.body).getD .skip:=rfl
noncomputable def zV (n:Nat):{B:((List Notation)→Int→Int→Int→T3→T3→T5→Option Tm)→(List Notation)→Int→Int→Int→T3→T3→T5→Option Tm // ∀m X0,(∀ (v0:List Notation) (v1:Int) (v2:Int) (v3:Int) (r1:List (Str×Notation)) (r2:List (Str×Notation)) (r3:List (Str×Bool)),run (qC n) [.lq m [0,1,0,1,1],.q9 0,.cut [1,1,1],.at [1,1,1]] ⟨[qA,qA,qA,qA,.ptr 0 0,qA,qA,qA,.nY false 4 (mp Notation.cells v0),.int .i64 v1,.int .i64 v2,qA,qA,qA,qA,qA,qA,qA,qA,qA],[.cells [.map 1,.map 2,.map 3,.int .i64 v3],.map (mp (mcT (nG Notation.cel)) r1),.map (mp (mcT (nG Notation.cel)) r2),.map (mp mcB r3)],0,[]⟩=X0 v0 v1 v2 v3 r1 r2 r3)→ ∀ (v0:List Notation) (v1:Int) (v2:Int) (v3:Int) (r1:List (Str×Notation)) (r2:List (Str×Notation)) (r3:List (Str×Bool)),run (qC n) [.at [0,0,1,0,1,1],.lp m [0,1,0,1,1],.q9 0,.cut [1,1,1],.at [1,1,1]] ⟨[qA,qA,qA,qA,.ptr 0 0,qA,qA,qA,.nY false 4 (mp Notation.cells v0),.int .i64 v1,.int .i64 v2,qA,qA,qA,qA,qA,qA,qA,qA,qA],[.cells [.map 1,.map 2,.map 3,.int .i64 v3],.map (mp (mcT (nG Notation.cel)) r1),.map (mp (mcT (nG Notation.cel)) r2),.map (mp mcB r3)],0,[]⟩=B X0 v0 v1 v2 v3 r1 r2 r3}:=by
 apply jH
 intro m X0 ih v0 v1 v2 v3 r1 r2 r3
 simp (config:={maxSteps:=100000000}) only[go_sem,jy,jz,ju,jv,jA,jB,jD,jE,jF,jx,jC,jG,G3,G4,Tryd.f51,jw,mixed,qS,qT,qW,oh,p7,zU,ih]
 exact rfl
noncomputable def wE (n:Nat):Nat→(List Notation)→Int→Int→Int→T3→T3→T5→Option Tm
 |0,_,_,_,_,_,_,_=>none
 |m+1,v0,v1,v2,v3,r1,r2,r3=>(zV n).1 (wE n m) v0 v1 v2 v3 r1 r2 r3
theorem Ec (n:Nat): ∀ (m:Nat),(∀ (v0:List Notation) (v1:Int) (v2:Int) (v3:Int) (r1:List (Str×Notation)) (r2:List (Str×Notation)) (r3:List (Str×Bool)),run (qC n) [.lq m [0,1,0,1,1],.q9 0,.cut [1,1,1],.at [1,1,1]] ⟨[qA,qA,qA,qA,.ptr 0 0,qA,qA,qA,.nY false 4 (mp Notation.cells v0),.int .i64 v1,.int .i64 v2,qA,qA,qA,qA,qA,qA,qA,qA,qA],[.cells [.map 1,.map 2,.map 3,.int .i64 v3],.map (mp (mcT (nG Notation.cel)) r1),.map (mp (mcT (nG Notation.cel)) r2),.map (mp mcB r3)],0,[]⟩=wE n m v0 v1 v2 v3 r1 r2 r3)
 |0=>by intros;exact nK
 |m+1=>by
  have ih:=Ec n m
  intro v0 v1 v2 v3 r1 r2 r3
  rw[nL]
  exact (zV n).2 m _ ih v0 v1 v2 v3 r1 r2 r3
noncomputable def C9 (n:Nat):{B:(List Notation)→Option Tm // ∀ (a0:(List Notation)),run (qC n) [.at []] {slots:=((qO (tyL Notation.row) pV).enc (yt.lens ()) (a0,()))++jI (20-((qO (tyL Notation.row) pV).enc (yt.lens ()) (a0,())).length) qA,heap:=(yt.enc (yt.lens ()) ()),low:=(yt.enc (yt.lens ()) ()).length}=B a0}:=by
 apply jH
 intro a0
 simp (config:={maxSteps:=100000000}) only[go_sem,jy,jz,ju,jv,jA,jB,jD,jE,jF,jx,jC,jG,G3,G4,Tryd.f51,jw,mixed,qS,qT,qW,oh,p7,zU,Ec n]
 exact rfl
noncomputable def wS:Nat→(List Notation)→Option Tm
 |0,_=>none
 |n+1,a0=>(C9 n).1 a0
theorem Gh: ∀ (n:Nat) (a0:(List Notation)) (r:Tm),wS n a0=some r→FnP Tryd.prog 51 ((qO (tyL Notation.row) pV).enc (yt.lens ()) (a0,())) (yt.enc (yt.lens ()) ()) (enP false yt qS qT (uk 0 (alK (.bool true) PL pV)) r)
 |0,_,_,h=>by cases h
 |n+1,a0,r,h=>by
  exact fnS_run (p1:=[]) (p2:=[.arg 0 [],.obj 0 0 [],.obj 0 1 [],.obj 0 2 []]) (b1:=[]) (M:=qC n) ⟨(mZ (B5 (fun b a r h=>(Ks n) a.1 b.1.1 b.2.1 b.2.2.1 b.2.2.2.1 r h)) (mZ (B5 (fun b a r h=>(KT n) r h)) m5)),m6,nT _,nU _,oS,oQ,pz,oX⟩ Tryd.func51 rfl rfl (sP (jJ (of_decide_eq_true (by kernel_rfl)) (jK (yt.sz _ _).symm)) _ ((qO (tyL Notation.row) pV).nb _ _)) (fun x hx=>uC (jJ (of_decide_eq_true (by kernel_rfl)) (jK (yt.sz _ _).symm)) _ (yt.nb _ _ x hx)) Tryd.ntmps51 Tryd.results51 (low:=0) (by rfl) rfl (((C9 n).2 a0).trans h)
noncomputable def vC (n:Nat):Mach Tl where
 body:=(Tryd.f21.body).getD .skip
 P:=Tryd.prog
 cl:=oJ [(23,p9 (tyL Notation.row) oF (zx n)),(59,su (tyL Notation.row) (nG Syntax.cel) (tyL Syntax.row) (xw n))]
 cd:=oN []
 qR:=oO []
 cut:=oP []
 n:=n
 out:=pS Tryd.prog [.tmp 4,.tmp 5] (Lt (tyL Syntax.row) (pT .i64))
 q6:=nJ []
theorem Uc (n:Nat):(vC n).P=Tryd.prog∧(vC n).cl=oJ [(23,p9 (tyL Notation.row) oF (zx n)),(59,su (tyL Notation.row) (nG Syntax.cel) (tyL Syntax.row) (xw n))]∧(vC n).cd=oN []∧(vC n).qR=oO []∧(vC n).cut=oP []∧(vC n).n=n∧(vC n).out=pS Tryd.prog [.tmp 4,.tmp 5] (Lt (tyL Syntax.row) (pT .i64))∧(vC n).q6=nJ []:=⟨rfl,rfl,rfl,rfl,rfl,rfl,rfl,rfl⟩
theorem Ud (n:Nat):(vC n).body=(Tryd.f21.body).getD .skip:=rfl
noncomputable def Fc (n:Nat):{B:(List Notation)→Syntax→Option Tl // ∀ (a0:(List Notation)) (a1:Syntax),run (vC n) [.at []] {slots:=[(tyL Notation.row).enc a0,(nG Syntax.cel).enc a1]++jI (17-[(tyL Notation.row).enc a0,(nG Syntax.cel).enc a1].length) qA,heap:=[]}=B a0 a1}:=by
 apply jH
 intro a0 a1
 simp (config:={maxSteps:=100000000}) only[go_sem,jy,jz,ju,jv,jA,jB,jD,jE,jF,jx,jC,jG,Uc,Ud,Tryd.f21,jw,mixed]
 exact rfl
noncomputable def Dq:Nat→(List Notation)→Syntax→Option Tl
 |0,_,_=>none
 |n+1,a0,a1=>(Fc n).1 a0 a1
theorem So: ∀ (n:Nat) (a0:(List Notation)) (a1:Syntax) (r:Tl),Dq n a0 a1=some r→xY Tryd.prog 21 [(tyL Notation.row).enc a0,(nG Syntax.cel).enc a1] (fun v=>v=(Lt (tyL Syntax.row) (pT .i64)).enc r)
 |0,_,_,_,h=>by cases h
 |n+1,a0,a1,r,h=>by
  exact pg (M:=vC n) ⟨(mZ (pZ (G2 n)) (mZ (sI (K4 n)) m5)),m6,nT _,nU _,oS,oQ,pz,oX⟩ Tryd.func21 rfl rfl ⟨(tyL Notation.row).nb 0 _,(nG Syntax.cel).nb 0 _,trivial⟩ Tryd.ntmps21 Tryd.results21 (fun σ hs=>oZ (P:=Tryd.prog) (rs:=[.tmp 4,.tmp 5]) (t:=(Lt (tyL Syntax.row) (pT .i64))) (σ:=σ) (r:=r) hs) (((Fc n).2 a0 a1).trans h)
end Go.Abs
namespace Go.Abs
open Go.Proofs
set_option maxRecDepth 100000
set_option maxHeartbeats 4000000
noncomputable def rQ (n:Nat):Mach Tz where
 body:=(Tryd.f15.body).getD .skip
 P:=Tryd.prog
 cl:=oJ []
 cd:=oN []
 qR:=oO []
 cut:=oP []
 n:=n
 out:=outU (LR [(52,Kf [.arg 0 [],.arg 1 [],.arg 2 [],.arg 3 [],.obj 0 0 [],.obj 4 0 [],.obj 5 0 [],.obj 5 1 [],.obj 5 2 []] nZ (uk 0 (uk 1 (uk 2 (uk 3 pV)))) qx pV (fun (b:T8) (a:Unit)=>(u6 n) b.2.1.1 b.2.2.1.1 b.2.2.2.1.1 b.2.2.2.2.1.1 b.2.2.2.2.1.2.1 b.2.2.2.2.2.1.1 b.2.2.2.2.2.2.1 b.2.2.2.2.2.2.2.1 b.2.2.2.2.2.2.2.2.1))]) (LR [(52,Kf [.arg 0 [],.arg 1 [],.arg 2 [],.arg 3 [],.obj 0 0 [],.obj 4 0 [],.obj 5 0 [],.obj 5 1 [],.obj 5 2 []] n4 rK qy pV (fun (b:T8) (a:(Unit×Unit))=>(uc n) a.1 b.2.1.1 b.2.2.1.1 b.2.2.2.1.1 b.2.2.2.2.1.1 b.2.2.2.2.1.2.1 b.2.2.2.2.2.1.1 b.2.2.2.2.2.2.1 b.2.2.2.2.2.2.2.1 b.2.2.2.2.2.2.2.2.1))]) Tryd.prog [.cell 4 36,.cell 5 3,.cell 6 28] (Py (nG Syntax.cel) (pT .i64) (pT .i64))
 xT:=outUP (LR [(52,Kf [.arg 0 [],.arg 1 [],.arg 2 [],.arg 3 [],.obj 0 0 [],.obj 4 0 [],.obj 5 0 [],.obj 5 1 [],.obj 5 2 []] nZ (uk 0 (uk 1 (uk 2 (uk 3 pV)))) qx pV (fun (b:T8) (a:Unit)=>(u6 n) b.2.1.1 b.2.2.1.1 b.2.2.2.1.1 b.2.2.2.2.1.1 b.2.2.2.2.1.2.1 b.2.2.2.2.2.1.1 b.2.2.2.2.2.2.1 b.2.2.2.2.2.2.2.1 b.2.2.2.2.2.2.2.2.1))]) (LR [(52,Kf [.arg 0 [],.arg 1 [],.arg 2 [],.arg 3 [],.obj 0 0 [],.obj 4 0 [],.obj 5 0 [],.obj 5 1 [],.obj 5 2 []] n4 rK qy pV (fun (b:T8) (a:(Unit×Unit))=>(uc n) a.1 b.2.1.1 b.2.2.1.1 b.2.2.2.1.1 b.2.2.2.2.1.1 b.2.2.2.2.1.2.1 b.2.2.2.2.2.1.1 b.2.2.2.2.2.2.1 b.2.2.2.2.2.2.2.1 b.2.2.2.2.2.2.2.2.1))]) Tryd.prog [.cell 4 36,.cell 5 3,.cell 6 28] (Py (nG Syntax.cel) (pT .i64) (pT .i64))
 cp:=Kn [(51,entXP false [] yt (qO (tyL Notation.row) pV) yt qS qT (uk 0 (alK (.bool true) PL pV)) (fun (b:Unit) (a:Tt)=>(wS n) a.1)),(53,entXP true [.arg 0 [],.obj 0 0 [],.obj 1 0 [],.obj 1 1 [],.obj 1 2 []] nI (uk 0 (qO (pT .i64) pV)) pJ pK pL (qO (Fq 83 Ft) pV) (fun (b:T0) (a:(Int×Unit))=>(nr n) a.1 b.1.1 b.1.2.1 b.2.1.1 b.2.2.1 b.2.2.2.1 b.2.2.2.2.1))]
 q6:=nJ [51,53]
theorem O0 (n:Nat):(rQ n).P=Tryd.prog∧(rQ n).cl=oJ []∧(rQ n).cd=oN []∧(rQ n).qR=oO []∧(rQ n).cut=oP []∧(rQ n).n=n∧(rQ n).out=outU (LR [(52,Kf [.arg 0 [],.arg 1 [],.arg 2 [],.arg 3 [],.obj 0 0 [],.obj 4 0 [],.obj 5 0 [],.obj 5 1 [],.obj 5 2 []] nZ (uk 0 (uk 1 (uk 2 (uk 3 pV)))) qx pV (fun (b:T8) (a:Unit)=>(u6 n) b.2.1.1 b.2.2.1.1 b.2.2.2.1.1 b.2.2.2.2.1.1 b.2.2.2.2.1.2.1 b.2.2.2.2.2.1.1 b.2.2.2.2.2.2.1 b.2.2.2.2.2.2.2.1 b.2.2.2.2.2.2.2.2.1))]) (LR [(52,Kf [.arg 0 [],.arg 1 [],.arg 2 [],.arg 3 [],.obj 0 0 [],.obj 4 0 [],.obj 5 0 [],.obj 5 1 [],.obj 5 2 []] n4 rK qy pV (fun (b:T8) (a:(Unit×Unit))=>(uc n) a.1 b.2.1.1 b.2.2.1.1 b.2.2.2.1.1 b.2.2.2.2.1.1 b.2.2.2.2.1.2.1 b.2.2.2.2.2.1.1 b.2.2.2.2.2.2.1 b.2.2.2.2.2.2.2.1 b.2.2.2.2.2.2.2.2.1))]) Tryd.prog [.cell 4 36,.cell 5 3,.cell 6 28] (Py (nG Syntax.cel) (pT .i64) (pT .i64))∧(rQ n).xT=outUP (LR [(52,Kf [.arg 0 [],.arg 1 [],.arg 2 [],.arg 3 [],.obj 0 0 [],.obj 4 0 [],.obj 5 0 [],.obj 5 1 [],.obj 5 2 []] nZ (uk 0 (uk 1 (uk 2 (uk 3 pV)))) qx pV (fun (b:T8) (a:Unit)=>(u6 n) b.2.1.1 b.2.2.1.1 b.2.2.2.1.1 b.2.2.2.2.1.1 b.2.2.2.2.1.2.1 b.2.2.2.2.2.1.1 b.2.2.2.2.2.2.1 b.2.2.2.2.2.2.2.1 b.2.2.2.2.2.2.2.2.1))]) (LR [(52,Kf [.arg 0 [],.arg 1 [],.arg 2 [],.arg 3 [],.obj 0 0 [],.obj 4 0 [],.obj 5 0 [],.obj 5 1 [],.obj 5 2 []] n4 rK qy pV (fun (b:T8) (a:(Unit×Unit))=>(uc n) a.1 b.2.1.1 b.2.2.1.1 b.2.2.2.1.1 b.2.2.2.2.1.1 b.2.2.2.2.1.2.1 b.2.2.2.2.2.1.1 b.2.2.2.2.2.2.1 b.2.2.2.2.2.2.2.1 b.2.2.2.2.2.2.2.2.1))]) Tryd.prog [.cell 4 36,.cell 5 3,.cell 6 28] (Py (nG Syntax.cel) (pT .i64) (pT .i64))∧(rQ n).cp=Kn [(51,entXP false [] yt (qO (tyL Notation.row) pV) yt qS qT (uk 0 (alK (.bool true) PL pV)) (fun (b:Unit) (a:Tt)=>(wS n) a.1)),(53,entXP true [.arg 0 [],.obj 0 0 [],.obj 1 0 [],.obj 1 1 [],.obj 1 2 []] nI (uk 0 (qO (pT .i64) pV)) pJ pK pL (qO (Fq 83 Ft) pV) (fun (b:T0) (a:(Int×Unit))=>(nr n) a.1 b.1.1 b.1.2.1 b.2.1.1 b.2.2.1 b.2.2.2.1 b.2.2.2.2.1))]∧(rQ n).q6=nJ [51,53]:=⟨rfl,rfl,rfl,rfl,rfl,rfl,rfl,rfl,rfl,rfl⟩
theorem O1 (n:Nat):(rQ n).body=(Tryd.f15.body).getD .skip:=rfl
noncomputable def ET (n:Nat):{B:(List Notation)→(List Syntax)→Option Tz // ∀ (a0:(List Notation)) (a1:(List Syntax)),run (rQ n) [.at []] {slots:=[(tyL Notation.row).enc a0,(tyL Syntax.row).enc a1]++jI (42-[(tyL Notation.row).enc a0,(tyL Syntax.row).enc a1].length) qA,heap:=[]}=B a0 a1}:=by
 apply jH
 intro a0 a1
 simp (config:={maxSteps:=100000000,implicitDefEqProofs:=false}) only[go_sem,jy,jz,ju,jv,jA,jB,jD,jE,jF,jx,jC,jG,O0,O1,Tryd.f15,jw,mixed,nZ,qx,rK,n4,qy,qS,qT,nI,pJ,pK,pL]
 exact rfl
noncomputable def tW:Nat→(List Notation)→(List Syntax)→Option Tz
 |0,_,_=>none
 |n+1,a0,a1=>(ET n).1 a0 a1
theorem Bu: ∀ (n:Nat) (a0:(List Notation)) (a1:(List Syntax)) (r:Tz),tW n a0 a1=some r→xY Tryd.prog 15 [(tyL Notation.row).enc a0,(tyL Syntax.row).enc a1] (fun v=>v=(Py (nG Syntax.cel) (pT .i64) (pT .i64)).enc r)
 |0,_,_,_,h=>by cases h
 |n+1,a0,a1,r,h=>by
  exact fnC_runU (M:=rQ n) (t:=(Py (nG Syntax.cel) (pT .i64) (pT .i64))) (cr:=(LR [(52,Kf [.arg 0 [],.arg 1 [],.arg 2 [],.arg 3 [],.obj 0 0 [],.obj 4 0 [],.obj 5 0 [],.obj 5 1 [],.obj 5 2 []] nZ (uk 0 (uk 1 (uk 2 (uk 3 pV)))) qx pV (fun (b:T8) (a:Unit)=>(u6 n) b.2.1.1 b.2.2.1.1 b.2.2.2.1.1 b.2.2.2.2.1.1 b.2.2.2.2.1.2.1 b.2.2.2.2.2.1.1 b.2.2.2.2.2.2.1 b.2.2.2.2.2.2.2.1 b.2.2.2.2.2.2.2.2.1))])) (cp:=(LR [(52,Kf [.arg 0 [],.arg 1 [],.arg 2 [],.arg 3 [],.obj 0 0 [],.obj 4 0 [],.obj 5 0 [],.obj 5 1 [],.obj 5 2 []] n4 rK qy pV (fun (b:T8) (a:(Unit×Unit))=>(uc n) a.1 b.2.1.1 b.2.2.1.1 b.2.2.2.1.1 b.2.2.2.2.1.1 b.2.2.2.2.1.2.1 b.2.2.2.2.2.1.1 b.2.2.2.2.2.2.1 b.2.2.2.2.2.2.2.1 b.2.2.2.2.2.2.2.2.1))])) ⟨m5,m6,nT _,nU _,oS,oQ,(zg (DC (fun b a r h=>(Gh n) a.1 r h)) (zg (DC (fun b a r h=>(xE n) a.1 b.1.1 b.1.2.1 b.2.1.1 b.2.2.1 b.2.2.2.1 b.2.2.2.2.1 r h)) Di)),oX⟩ (NB (Yx UD (fun _ _ _ _=>rfl) (by kernel_rfl) (fun b a r h=>(JR n) b.2.1.1 b.2.2.1.1 b.2.2.2.1.1 b.2.2.2.2.1.1 b.2.2.2.2.1.2.1 b.2.2.2.2.2.1.1 b.2.2.2.2.2.2.1 b.2.2.2.2.2.2.2.1 b.2.2.2.2.2.2.2.2.1 r h)) PI) (NB (Yx UE (fun _ _ _ _=>rfl) (by kernel_rfl) (fun b a r h=>(JS n) a.1 b.2.1.1 b.2.2.1.1 b.2.2.2.1.1 b.2.2.2.2.1.1 b.2.2.2.2.1.2.1 b.2.2.2.2.2.1.1 b.2.2.2.2.2.2.1 b.2.2.2.2.2.2.2.1 b.2.2.2.2.2.2.2.2.1 r h)) PI) Tryd.func15 rfl rfl ⟨(tyL Notation.row).nb 0 _,(tyL Syntax.row).nb 0 _,trivial⟩ Tryd.ntmps15 Tryd.results15 rfl rfl (((ET n).2 a0 a1).trans h)
noncomputable def Bv:Nrm:=⟨[],[],[zA,zA,zA,zK,zA,zA,zA,zA,zK,zA,zA,zA,zA,zA,zA,zA,zA,zA,zA,zA,zA,zA,zA,zA,zT (tyL Notation.row),zK,zK,zA,zA,zA,zA,zA,zA,zA,zA,zA,zA,zA,zA,zA,zA,zA,zA,zA,zA,zA,zA,zA,zA,zA,zA,zA,zA,zA,zA,zA,zA],[oT Syntax.cel,oD,oD,oD,oD,oM (nG Notation.cel),oC [zK]],none,none⟩
noncomputable def oB (n:Nat):Mach Tl where
 body:=(Tryd.f20.body).getD .skip
 P:=Tryd.prog
 cl:=oJ [(58,Ns 1 true 8 (entX [.arg 0 [],.arg 1 [],.obj 0 0 []] nO pY pq (alA 1 pV) (fun (b:Ta) (a:(Syntax×Unit))=>(qB n) a.1 b.2.1 b.2.2.1)))]
 cd:=oN []
 qR:=oO [([0,1,0,1,1,1],Bv)]
 cut:=oP []
 n:=n
 out:=pS Tryd.prog [.tmp 4,.tmp 5] (Lt (tyL Syntax.row) (pT .i64))
 cp:=Kn [(51,entXP false [] yt (qO (tyL Notation.row) pV) yt qS qT (uk 0 (alK (.bool true) PL pV)) (fun (b:Unit) (a:Tt)=>(wS n) a.1))]
 q6:=nJ [51]
 B1:=nJ []
 B0:=nJ []
theorem Jn (n:Nat):(oB n).P=Tryd.prog∧(oB n).cl=oJ [(58,Ns 1 true 8 (entX [.arg 0 [],.arg 1 [],.obj 0 0 []] nO pY pq (alA 1 pV) (fun (b:Ta) (a:(Syntax×Unit))=>(qB n) a.1 b.2.1 b.2.2.1)))]∧(oB n).cd=oN []∧(oB n).qR=oO [([0,1,0,1,1,1],Bv)]∧(oB n).cut=oP []∧(oB n).n=n∧(oB n).out=pS Tryd.prog [.tmp 4,.tmp 5] (Lt (tyL Syntax.row) (pT .i64))∧(oB n).cp=Kn [(51,entXP false [] yt (qO (tyL Notation.row) pV) yt qS qT (uk 0 (alK (.bool true) PL pV)) (fun (b:Unit) (a:Tt)=>(wS n) a.1))]∧(oB n).q6=nJ [51]∧(oB n).B1=nJ []∧(oB n).B0=nJ []:=⟨rfl,rfl,rfl,rfl,rfl,rfl,rfl,rfl,rfl,rfl,rfl⟩
theorem Jo (n:Nat):(oB n).body=(Tryd.f20.body).getD .skip:=rfl
theorem Jp (n:Nat):wH (oB n) [0,1,0,0,1,1,0,0,1,0,1,1,1]=true∧wH (oB n) [0,1,1,1,0,0,1,1,0,0,1,0,1,1,1]=true:=⟨by kernel_rfl,by kernel_rfl⟩
theorem Jq (n:Nat):As (oB n) [0,1,0,0,1,1,0,0,1,0,1,1,1] 3 11=true∧As (oB n) [0,1,0,0,1,1,0,0,1,0,1,1,1] 5 11=true∧As (oB n) [0,1,0,0,1,1,0,0,1,0,1,1,1] 6 11=true∧As (oB n) [0,1,0,0,1,1,0,0,1,0,1,1,1] 10 11=true∧As (oB n) [0,1,1,1,0,0,1,1,0,0,1,0,1,1,1] 3 7=true∧As (oB n) [0,1,1,1,0,0,1,1,0,0,1,0,1,1,1] 5 7=true∧As (oB n) [0,1,1,1,0,0,1,1,0,0,1,0,1,1,1] 6 7=true:=⟨by kernel_rfl,by kernel_rfl,by kernel_rfl,by kernel_rfl,by kernel_rfl,by kernel_rfl,by kernel_rfl⟩
noncomputable def Bw (n:Nat):{B:((List Notation)→Int→Int→Syntax→T3→Option Tl)→(List Notation)→Int→Int→Syntax→T3→Option Tl // ∀m X0,(∀ (v0:List Notation) (v1:Int) (v2:Int) (o0:Syntax) (r5:List (Str×Notation)),run (oB n) [.lq m [0,1,0,1,1,1],.q9 0,.cut [1,1,1,1],.at [1,1,1,1]] ⟨[qA,qA,qA,.ptr 0 0,qA,qA,qA,qA,.ptr 6 0,qA,qA,qA,qA,qA,qA,qA,qA,qA,qA,qA,qA,qA,qA,qA,.nY false 4 (mp Notation.cells v0),.int .i64 v1,.int .i64 v2,qA,qA,qA,qA,qA,qA,qA,qA,qA,qA,qA,qA,qA,qA,qA,qA,qA,qA,qA,qA,qA,qA,qA,qA,qA,qA,qA,qA,qA,qA],[.cells (Syntax.cells o0),.dead,.dead,.dead,.dead,.map (mp (mcT (nG Notation.cel)) r5),.cells [.map 5]],0,[]⟩=X0 v0 v1 v2 o0 r5)→ ∀ (v0:List Notation) (v1:Int) (v2:Int) (o0:Syntax) (r5:List (Str×Notation)),run (oB n) [.at [0,0,1,0,1,1,1],.lp m [0,1,0,1,1,1],.q9 0,.cut [1,1,1,1],.at [1,1,1,1]] ⟨[qA,qA,qA,.ptr 0 0,qA,qA,qA,qA,.ptr 6 0,qA,qA,qA,qA,qA,qA,qA,qA,qA,qA,qA,qA,qA,qA,qA,.nY false 4 (mp Notation.cells v0),.int .i64 v1,.int .i64 v2,qA,qA,qA,qA,qA,qA,qA,qA,qA,qA,qA,qA,qA,qA,qA,qA,qA,qA,qA,qA,qA,qA,qA,qA,qA,qA,qA,qA,qA,qA],[.cells (Syntax.cells o0),.dead,.dead,.dead,.dead,.map (mp (mcT (nG Notation.cel)) r5),.cells [.map 5]],0,[]⟩=B X0 v0 v1 v2 o0 r5}:=by
 apply jH
 intro m X0 ih v0 v1 v2 o0 r5
 simp (config:={maxSteps:=100000000,implicitDefEqProofs:=false}) only[go_sem,jy,jz,ju,jv,jA,jB,jD,jE,jF,jx,jC,jG,Jn,Jo,Tryd.f20,jw,mixed,qS,qT,pY,nO,pq,Jp,Jq,Bv,ih]
 exact rfl
noncomputable def xG (n:Nat):Nat→(List Notation)→Int→Int→Syntax→T3→Option Tl
 |0,_,_,_,_,_=>none
 |m+1,v0,v1,v2,o0,r5=>(Bw n).1 (xG n m) v0 v1 v2 o0 r5
theorem FI (n:Nat): ∀ (m:Nat),(∀ (v0:List Notation) (v1:Int) (v2:Int) (o0:Syntax) (r5:List (Str×Notation)),run (oB n) [.lq m [0,1,0,1,1,1],.q9 0,.cut [1,1,1,1],.at [1,1,1,1]] ⟨[qA,qA,qA,.ptr 0 0,qA,qA,qA,qA,.ptr 6 0,qA,qA,qA,qA,qA,qA,qA,qA,qA,qA,qA,qA,qA,qA,qA,.nY false 4 (mp Notation.cells v0),.int .i64 v1,.int .i64 v2,qA,qA,qA,qA,qA,qA,qA,qA,qA,qA,qA,qA,qA,qA,qA,qA,qA,qA,qA,qA,qA,qA,qA,qA,qA,qA,qA,qA,qA,qA],[.cells (Syntax.cells o0),.dead,.dead,.dead,.dead,.map (mp (mcT (nG Notation.cel)) r5),.cells [.map 5]],0,[]⟩=xG n m v0 v1 v2 o0 r5)
 |0=>by intros;exact nK
 |m+1=>by
  have ih:=FI n m
  intro v0 v1 v2 o0 r5
  rw[nL]
  exact (Bw n).2 m _ ih v0 v1 v2 o0 r5
noncomputable def Cd (n:Nat):{B:(List Notation)→Syntax→Option Tl // ∀ (a0:(List Notation)) (a1:Syntax),run (oB n) [.at []] {slots:=[(tyL Notation.row).enc a0,(nG Syntax.cel).enc a1]++jI (57-[(tyL Notation.row).enc a0,(nG Syntax.cel).enc a1].length) qA,heap:=[]}=B a0 a1}:=by
 apply jH
 intro a0 a1
 simp (config:={maxSteps:=100000000,implicitDefEqProofs:=false}) only[go_sem,jy,jz,ju,jv,jA,jB,jD,jE,jF,jx,jC,jG,Jn,Jo,Tryd.f20,jw,mixed,qS,qT,pY,nO,pq,Jp,Jq,Bv,FI n]
 exact rfl
noncomputable def vD:Nat→(List Notation)→Syntax→Option Tl
 |0,_,_=>none
 |n+1,a0,a1=>(Cd n).1 a0 a1
theorem Ed: ∀ (n:Nat) (a0:(List Notation)) (a1:Syntax) (r:Tl),vD n a0 a1=some r→xY Tryd.prog 20 [(tyL Notation.row).enc a0,(nG Syntax.cel).enc a1] (fun v=>v=(Lt (tyL Syntax.row) (pT .i64)).enc r)
 |0,_,_,_,h=>by cases h
 |n+1,a0,a1,r,h=>by
  exact pg (M:=oB n) ⟨(mZ (RJ (B5 (fun b a r h=>(Cl n) a.1 b.2.1 b.2.2.1 r h))) m5),m6,nT _,nU _,oS,oQ,(zg (DC (fun b a r h=>(Gh n) a.1 r h)) Di),oX⟩ Tryd.func20 rfl rfl ⟨(tyL Notation.row).nb 0 _,(nG Syntax.cel).nb 0 _,trivial⟩ Tryd.ntmps20 Tryd.results20 (fun σ hs=>oZ (P:=Tryd.prog) (rs:=[.tmp 4,.tmp 5]) (t:=(Lt (tyL Syntax.row) (pT .i64))) (σ:=σ) (r:=r) hs) (((Cd n).2 a0 a1).trans h)
end Go.Abs
namespace Go.Abs
open Go.Proofs
set_option maxRecDepth 100000
set_option maxHeartbeats 4000000
noncomputable def Ee:Nrm:=⟨[],[],[zA,zK,zK,zK,zA,zA,zA,zA,zA,zA,zA,zA,zA,zA,zA,zA,zA,zA,zA,zA,zA,zA,zA,zA,zA,zA,zA,zA,zA,zA,zA,zA,zA,zA,zA,zA,zA,zA,zA,zA,zA,zA,zA,zA,zA,zA,zA,zA,zA,zA,zA,zA,zA,zA,zA,zA,zA,zA,zA,zA,zA,zA,zA,zA,zA,zA,zA,zA,zA,zA,zA,zA,zT (tyL Anon71.row),zK,zK,zA,zA,zA,zA,zA,zA,zA,zA,zA,zA,zA,zA,zA,zA,zA,zA,zA,zA,zA,zA,zA,zA,zA,zA,zA,zA,zA,zA,zA,zA,zA,zA,zA,zA,zA,zA,zA,zA,zA,zA,zA,zA,zA,zA,zA,zA,zA,zA,zA,zA,zA,zA,zA,zA,zA,zA,zA,zA,zA,zA,zA,zA,zA,zA,zA,zA,zA,zA,zA,zA,zA,zA,zA,zA,zA,zA,zA,zA,zA,zA,zA,zA,zA,zA,zA,zA,zA,zA,zA,zA,zA,zA],[oT Syntax.cel,oT Syntax.cel,oT Syntax.cel],none,none⟩
noncomputable def qm (n:Nat):Mach Bool where
 body:=(Tryd.f11.body).getD .skip
 P:=Tryd.prog
 cl:=oJ [(15,su (tyL Notation.row) (tyL Syntax.row) (Py (nG Syntax.cel) (pT .i64) (pT .i64)) (tW n)),(17,MO (nG Syntax.cel) (nG Syntax.cel) oF oF (rC n)),(27,p9 uI (nG Syntax.cel) (C0 n)),(40,p9 (tyL sD) (tyL Syntax.row) (FE n)),(41,JH (tyL Notation.row) (Fv n))]
 cd:=oN [(15,vW (su (tyL Notation.row) (tyL Syntax.row) (Py (nG Syntax.cel) (pT .i64) (pT .i64)) (tW n))),(20,vW (su (tyL Notation.row) (nG Syntax.cel) (Lt (tyL Syntax.row) (pT .i64)) (vD n))),(29,vW (su uI (tyL Syntax.row) (nG Syntax.cel) (K2 n))),(40,vW (p9 (tyL sD) (tyL Syntax.row) (FE n))),(41,vW (JH (tyL Notation.row) (Fv n)))]
 qR:=oO [([0,1,0,1,1],Ee)]
 cut:=oP []
 n:=n
 out:=pS Tryd.prog [.tmp 0] oF
 q6:=nJ []
 B1:=nJ []
 B0:=nJ []
theorem My (n:Nat):(qm n).P=Tryd.prog∧(qm n).cl=oJ [(15,su (tyL Notation.row) (tyL Syntax.row) (Py (nG Syntax.cel) (pT .i64) (pT .i64)) (tW n)),(17,MO (nG Syntax.cel) (nG Syntax.cel) oF oF (rC n)),(27,p9 uI (nG Syntax.cel) (C0 n)),(40,p9 (tyL sD) (tyL Syntax.row) (FE n)),(41,JH (tyL Notation.row) (Fv n))]∧(qm n).cd=oN [(15,vW (su (tyL Notation.row) (tyL Syntax.row) (Py (nG Syntax.cel) (pT .i64) (pT .i64)) (tW n))),(20,vW (su (tyL Notation.row) (nG Syntax.cel) (Lt (tyL Syntax.row) (pT .i64)) (vD n))),(29,vW (su uI (tyL Syntax.row) (nG Syntax.cel) (K2 n))),(40,vW (p9 (tyL sD) (tyL Syntax.row) (FE n))),(41,vW (JH (tyL Notation.row) (Fv n)))]∧(qm n).qR=oO [([0,1,0,1,1],Ee)]∧(qm n).cut=oP []∧(qm n).n=n∧(qm n).out=pS Tryd.prog [.tmp 0] oF∧(qm n).q6=nJ []∧(qm n).B1=nJ []∧(qm n).B0=nJ []:=⟨rfl,rfl,rfl,rfl,rfl,rfl,rfl,rfl,rfl,rfl⟩
theorem Mz (n:Nat):(qm n).body=(Tryd.f11.body).getD .skip:=rfl
theorem MA (n:Nat):wH (qm n) [0,0,1,1]=true∧wH (qm n) [0,1,0,0,1,1,0,0,1,0,1,1]=true∧wH (qm n) [0,1,1,1,1,1]=true∧wH (qm n) [0,1,1,1,1,1,1]=true:=⟨by kernel_rfl,by kernel_rfl,by kernel_rfl,by kernel_rfl⟩
theorem MB (n:Nat):As (qm n) [0,1,0,0,1,1,0,0,1,0,1,1] 2 9=true∧As (qm n) [0,1,0,0,1,1,0,0,1,0,1,1] 8 9=true:=⟨by kernel_rfl,by kernel_rfl⟩
noncomputable def K7 (n:Nat):{B:((List Anon71)→Int→Int→Syntax→Syntax→Syntax→Option Bool)→(List Anon71)→Int→Int→Syntax→Syntax→Syntax→Option Bool // ∀m X0,(∀ (v0:List Anon71) (v1:Int) (v2:Int) (o0:Syntax) (o1:Syntax) (o2:Syntax),run (qm n) [.lq m [0,1,0,1,1],.q9 0,.cut [1,1,1],.at [1,1,1]] ⟨[qA,.ptr 0 0,.ptr 1 0,.ptr 2 0,qA,qA,qA,qA,qA,qA,qA,qA,qA,qA,qA,qA,qA,qA,qA,qA,qA,qA,qA,qA,qA,qA,qA,qA,qA,qA,qA,qA,qA,qA,qA,qA,qA,qA,qA,qA,qA,qA,qA,qA,qA,qA,qA,qA,qA,qA,qA,qA,qA,qA,qA,qA,qA,qA,qA,qA,qA,qA,qA,qA,qA,qA,qA,qA,qA,qA,qA,qA,.nY false 9 (mp Anon71.cells v0),.int .i64 v1,.int .i64 v2,qA,qA,qA,qA,qA,qA,qA,qA,qA,qA,qA,qA,qA,qA,qA,qA,qA,qA,qA,qA,qA,qA,qA,qA,qA,qA,qA,qA,qA,qA,qA,qA,qA,qA,qA,qA,qA,qA,qA,qA,qA,qA,qA,qA,qA,qA,qA,qA,qA,qA,qA,qA,qA,qA,qA,qA,qA,qA,qA,qA,qA,qA,qA,qA,qA,qA,qA,qA,qA,qA,qA,qA,qA,qA,qA,qA,qA,qA,qA,qA,qA,qA,qA,qA,qA,qA,qA,qA,qA,qA,qA,qA],[.cells (Syntax.cells o0),.cells (Syntax.cells o1),.cells (Syntax.cells o2)],0,[]⟩=X0 v0 v1 v2 o0 o1 o2)→ ∀ (v0:List Anon71) (v1:Int) (v2:Int) (o0:Syntax) (o1:Syntax) (o2:Syntax),run (qm n) [.at [0,0,1,0,1,1],.lp m [0,1,0,1,1],.q9 0,.cut [1,1,1],.at [1,1,1]] ⟨[qA,.ptr 0 0,.ptr 1 0,.ptr 2 0,qA,qA,qA,qA,qA,qA,qA,qA,qA,qA,qA,qA,qA,qA,qA,qA,qA,qA,qA,qA,qA,qA,qA,qA,qA,qA,qA,qA,qA,qA,qA,qA,qA,qA,qA,qA,qA,qA,qA,qA,qA,qA,qA,qA,qA,qA,qA,qA,qA,qA,qA,qA,qA,qA,qA,qA,qA,qA,qA,qA,qA,qA,qA,qA,qA,qA,qA,qA,.nY false 9 (mp Anon71.cells v0),.int .i64 v1,.int .i64 v2,qA,qA,qA,qA,qA,qA,qA,qA,qA,qA,qA,qA,qA,qA,qA,qA,qA,qA,qA,qA,qA,qA,qA,qA,qA,qA,qA,qA,qA,qA,qA,qA,qA,qA,qA,qA,qA,qA,qA,qA,qA,qA,qA,qA,qA,qA,qA,qA,qA,qA,qA,qA,qA,qA,qA,qA,qA,qA,qA,qA,qA,qA,qA,qA,qA,qA,qA,qA,qA,qA,qA,qA,qA,qA,qA,qA,qA,qA,qA,qA,qA,qA,qA,qA,qA,qA,qA,qA,qA,qA,qA,qA],[.cells (Syntax.cells o0),.cells (Syntax.cells o1),.cells (Syntax.cells o2)],0,[]⟩=B X0 v0 v1 v2 o0 o1 o2}:=by
 apply jH
 intro m X0 ih v0 v1 v2 o0 o1 o2
 simp (config:={maxSteps:=100000000}) only[go_sem,jy,jz,ju,jv,jA,jB,jD,jE,jF,jx,jC,jG,My,Mz,Tryd.f11,jw,mixed,MA,MB,Ee,ih]
 exact rfl
noncomputable def K8 (n:Nat):Nat→(List Anon71)→Int→Int→Syntax→Syntax→Syntax→Option Bool
 |0,_,_,_,_,_,_=>none
 |m+1,v0,v1,v2,o0,o1,o2=>(K7 n).1 (K8 n m) v0 v1 v2 o0 o1 o2
theorem Ib (n:Nat): ∀ (m:Nat),(∀ (v0:List Anon71) (v1:Int) (v2:Int) (o0:Syntax) (o1:Syntax) (o2:Syntax),run (qm n) [.lq m [0,1,0,1,1],.q9 0,.cut [1,1,1],.at [1,1,1]] ⟨[qA,.ptr 0 0,.ptr 1 0,.ptr 2 0,qA,qA,qA,qA,qA,qA,qA,qA,qA,qA,qA,qA,qA,qA,qA,qA,qA,qA,qA,qA,qA,qA,qA,qA,qA,qA,qA,qA,qA,qA,qA,qA,qA,qA,qA,qA,qA,qA,qA,qA,qA,qA,qA,qA,qA,qA,qA,qA,qA,qA,qA,qA,qA,qA,qA,qA,qA,qA,qA,qA,qA,qA,qA,qA,qA,qA,qA,qA,.nY false 9 (mp Anon71.cells v0),.int .i64 v1,.int .i64 v2,qA,qA,qA,qA,qA,qA,qA,qA,qA,qA,qA,qA,qA,qA,qA,qA,qA,qA,qA,qA,qA,qA,qA,qA,qA,qA,qA,qA,qA,qA,qA,qA,qA,qA,qA,qA,qA,qA,qA,qA,qA,qA,qA,qA,qA,qA,qA,qA,qA,qA,qA,qA,qA,qA,qA,qA,qA,qA,qA,qA,qA,qA,qA,qA,qA,qA,qA,qA,qA,qA,qA,qA,qA,qA,qA,qA,qA,qA,qA,qA,qA,qA,qA,qA,qA,qA,qA,qA,qA,qA,qA,qA],[.cells (Syntax.cells o0),.cells (Syntax.cells o1),.cells (Syntax.cells o2)],0,[]⟩=K8 n m v0 v1 v2 o0 o1 o2)
 |0=>by intros;exact nK
 |m+1=>by
  have ih:=Ib n m
  intro v0 v1 v2 o0 o1 o2
  rw[nL]
  exact (K7 n).2 m _ ih v0 v1 v2 o0 o1 o2
noncomputable def MC (n:Nat):{B:Option Bool // run (qm n) [.at []] {slots:=([]:List AV)++jI (167-([]:List AV).length) qA,heap:=[]}=B}:=by
 apply jH
 simp (config:={maxSteps:=100000000}) only[go_sem,jy,jz,ju,jv,jA,jB,jD,jE,jF,jx,jC,jG,My,Mz,Tryd.f11,jw,mixed,MA,MB,Ee,Ib n]
 exact rfl
noncomputable def vM:Nat→Option Bool
 |0=>none
 |n+1=>(MC n).1
theorem G5: ∀ (n:Nat) (r:Bool),vM n=some r→xY Tryd.prog 11 [] (fun v=>v=oF.enc r)
 |0,_,h=>by cases h
 |n+1,r,h=>by
  exact pg (M:=qm n) ⟨(mZ (sI (Bu n)) (mZ (ent3_ok (BJ n)) (mZ (pZ (Ir n)) (mZ (pZ (KY n)) (mZ (Lu (KR n)) m5))))),(qt (DB (Bu n)) (qt (DB (Ed n)) (qt (DB (Sh n)) (qt (DA (KY n)) (qt (ent0_okD (KR n)) m6))))),nT _,nU _,oS,oQ,pz,oX⟩ Tryd.func11 rfl rfl trivial Tryd.ntmps11 Tryd.results11 (fun σ hs=>oZ (P:=Tryd.prog) (rs:=[.tmp 0]) (t:=oF) (σ:=σ) (r:=r) hs) (((MC n).2).trans h)
end Go.Abs
namespace Go.Abs
open Go.Proofs
set_option maxRecDepth 100000
set_option maxHeartbeats 4000000
noncomputable def qD (n:Nat):Mach Bool where
 body:=(Tryd.f5.body).getD .skip
 P:=Tryd.prog
 cl:=oJ [(10,p9 (tyL Notation.row) oF (Cc n)),(11,JH oF (vM n)),(14,p9 (tyL Syntax.row) oF (zk n)),(18,p9 (nG Syntax.cel) oF (qI n)),(19,p9 (nG Syntax.cel) oF (rT n)),(20,su (tyL Notation.row) (nG Syntax.cel) (Lt (tyL Syntax.row) (pT .i64)) (vD n)),(21,su (tyL Notation.row) (nG Syntax.cel) (Lt (tyL Syntax.row) (pT .i64)) (Dq n)),(22,su (tyL Syntax.row) (tyL Syntax.row) oF (yA n))]
 cd:=oN []
 qR:=oO []
 cut:=oP []
 n:=n
 out:=pS Tryd.prog [.tmp 4] oF
 q6:=nJ []
theorem J3 (n:Nat):(qD n).P=Tryd.prog∧(qD n).cl=oJ [(10,p9 (tyL Notation.row) oF (Cc n)),(11,JH oF (vM n)),(14,p9 (tyL Syntax.row) oF (zk n)),(18,p9 (nG Syntax.cel) oF (qI n)),(19,p9 (nG Syntax.cel) oF (rT n)),(20,su (tyL Notation.row) (nG Syntax.cel) (Lt (tyL Syntax.row) (pT .i64)) (vD n)),(21,su (tyL Notation.row) (nG Syntax.cel) (Lt (tyL Syntax.row) (pT .i64)) (Dq n)),(22,su (tyL Syntax.row) (tyL Syntax.row) oF (yA n))]∧(qD n).cd=oN []∧(qD n).qR=oO []∧(qD n).cut=oP []∧(qD n).n=n∧(qD n).out=pS Tryd.prog [.tmp 4] oF∧(qD n).q6=nJ []:=⟨rfl,rfl,rfl,rfl,rfl,rfl,rfl,rfl⟩
theorem J4 (n:Nat):(qD n).body=(Tryd.f5.body).getD .skip:=rfl
noncomputable def AW (n:Nat):{B:(List Notation)→Syntax→Option Bool // ∀ (a0:(List Notation)) (a1:Syntax),run (qD n) [.at []] {slots:=[(tyL Notation.row).enc a0,(nG Syntax.cel).enc a1]++jI (51-[(tyL Notation.row).enc a0,(nG Syntax.cel).enc a1].length) qA,heap:=[]}=B a0 a1}:=by
 apply jH
 intro a0 a1
 simp (config:={maxSteps:=100000000}) only[go_sem,jy,jz,ju,jv,jA,jB,jD,jE,jF,jx,jC,jG,J3,J4,Tryd.f5,jw,mixed]
 exact rfl
noncomputable def BT:Nat→(List Notation)→Syntax→Option Bool
 |0,_,_=>none
 |n+1,a0,a1=>(AW n).1 a0 a1
theorem UT: ∀ (n:Nat) (a0:(List Notation)) (a1:Syntax) (r:Bool),BT n a0 a1=some r→xY Tryd.prog 5 [(tyL Notation.row).enc a0,(nG Syntax.cel).enc a1] (fun v=>v=oF.enc r)
 |0,_,_,_,h=>by cases h
 |n+1,a0,a1,r,h=>by
  exact pg (M:=qD n) ⟨(mZ (pZ (J2 n)) (mZ (Lu (G5 n)) (mZ (pZ (GN n)) (mZ (pZ (Ab n)) (mZ (pZ (Bb n)) (mZ (sI (Ed n)) (mZ (sI (So n)) (mZ (sI (LZ n)) m5)))))))),m6,nT _,nU _,oS,oQ,pz,oX⟩ Tryd.func5 rfl rfl ⟨(tyL Notation.row).nb 0 _,(nG Syntax.cel).nb 0 _,trivial⟩ Tryd.ntmps5 Tryd.results5 (fun σ hs=>oZ (P:=Tryd.prog) (rs:=[.tmp 4]) (t:=oF) (σ:=σ) (r:=r) hs) (((AW n).2 a0 a1).trans h)
noncomputable def q5 (n:Nat):Mach Bool where
 body:=(Tryd.f6.body).getD .skip
 P:=Tryd.prog
 cl:=oJ [(10,p9 (tyL Notation.row) oF (Cc n)),(11,JH oF (vM n)),(14,p9 (tyL Syntax.row) oF (zk n)),(15,su (tyL Notation.row) (tyL Syntax.row) (Py (nG Syntax.cel) (pT .i64) (pT .i64)) (tW n)),(17,MO (nG Syntax.cel) (nG Syntax.cel) oF oF (rC n)),(18,p9 (nG Syntax.cel) oF (qI n)),(19,p9 (nG Syntax.cel) oF (rT n)),(20,su (tyL Notation.row) (nG Syntax.cel) (Lt (tyL Syntax.row) (pT .i64)) (vD n)),(23,p9 (tyL Notation.row) oF (zx n))]
 cd:=oN []
 qR:=oO []
 cut:=oP []
 n:=n
 out:=pS Tryd.prog [.tmp 4] oF
 q6:=nJ []
theorem K9 (n:Nat):(q5 n).P=Tryd.prog∧(q5 n).cl=oJ [(10,p9 (tyL Notation.row) oF (Cc n)),(11,JH oF (vM n)),(14,p9 (tyL Syntax.row) oF (zk n)),(15,su (tyL Notation.row) (tyL Syntax.row) (Py (nG Syntax.cel) (pT .i64) (pT .i64)) (tW n)),(17,MO (nG Syntax.cel) (nG Syntax.cel) oF oF (rC n)),(18,p9 (nG Syntax.cel) oF (qI n)),(19,p9 (nG Syntax.cel) oF (rT n)),(20,su (tyL Notation.row) (nG Syntax.cel) (Lt (tyL Syntax.row) (pT .i64)) (vD n)),(23,p9 (tyL Notation.row) oF (zx n))]∧(q5 n).cd=oN []∧(q5 n).qR=oO []∧(q5 n).cut=oP []∧(q5 n).n=n∧(q5 n).out=pS Tryd.prog [.tmp 4] oF∧(q5 n).q6=nJ []:=⟨rfl,rfl,rfl,rfl,rfl,rfl,rfl,rfl⟩
theorem La (n:Nat):(q5 n).body=(Tryd.f6.body).getD .skip:=rfl
noncomputable def BU (n:Nat):{B:(List Notation)→Syntax→Option Bool // ∀ (a0:(List Notation)) (a1:Syntax),run (q5 n) [.at []] {slots:=[(tyL Notation.row).enc a0,(nG Syntax.cel).enc a1]++jI (61-[(tyL Notation.row).enc a0,(nG Syntax.cel).enc a1].length) qA,heap:=[]}=B a0 a1}:=by
 apply jH
 intro a0 a1
 simp (config:={maxSteps:=100000000}) only[go_sem,jy,jz,ju,jv,jA,jB,jD,jE,jF,jx,jC,jG,K9,La,Tryd.f6,jw,mixed]
 exact rfl
noncomputable def Da:Nat→(List Notation)→Syntax→Option Bool
 |0,_,_=>none
 |n+1,a0,a1=>(BU n).1 a0 a1
theorem WB: ∀ (n:Nat) (a0:(List Notation)) (a1:Syntax) (r:Bool),Da n a0 a1=some r→xY Tryd.prog 6 [(tyL Notation.row).enc a0,(nG Syntax.cel).enc a1] (fun v=>v=oF.enc r)
 |0,_,_,_,h=>by cases h
 |n+1,a0,a1,r,h=>by
  exact pg (M:=q5 n) ⟨(mZ (pZ (J2 n)) (mZ (Lu (G5 n)) (mZ (pZ (GN n)) (mZ (sI (Bu n)) (mZ (ent3_ok (BJ n)) (mZ (pZ (Ab n)) (mZ (pZ (Bb n)) (mZ (sI (Ed n)) (mZ (pZ (G2 n)) m5))))))))),m6,nT _,nU _,oS,oQ,pz,oX⟩ Tryd.func6 rfl rfl ⟨(tyL Notation.row).nb 0 _,(nG Syntax.cel).nb 0 _,trivial⟩ Tryd.ntmps6 Tryd.results6 (fun σ hs=>oZ (P:=Tryd.prog) (rs:=[.tmp 4]) (t:=oF) (σ:=σ) (r:=r) hs) (((BU n).2 a0 a1).trans h)
noncomputable def xH:Nrm:=⟨[(6,8,true)],[],[zT (tyL Notation.row),zT (tyL Syntax.row),zA,zA,zA,zK,zK,zA,zA,zA,zA,zA,zA,zA,zA,zA,zA,zA,zA,zA,zA,zA,zA,zA,zA,zA,zA,zA,zA,zA,zA,zA,zA,zA,zA,zK,zK,zA,zA,zA,zA,zA,zA,zA,zA,zA,zA,zA,zA,zA,zA,zA,zA,zA,zA,zA,zA,zA,zA,zA,zA,zA,zA,zA,zA,zA,zA,zA,zA,zA,zA,zA,zA,zA,zA,zA,zA,zA,zA,zA,zA,zA,zA,zA,zA,zA,zA,zA,zA,zA,zA,zA,zA,zA,zA,zA,zA,zA,zA,zA,zA,zA,zA,zA,zA,zA,zA,zA,zA,zA,zA,zA,zA,zA,zA,zA,zA,zA,zA,zA,zA,zA,zA,zA,zA,zA,zA,zA,zA,zA,zA,zA,zA,zA,zA,zA,zA],[oA Syntax.row,oA Syntax.row],none,none⟩
noncomputable def pX (n:Nat):Mach Bool where
 body:=(Tryd.f7.body).getD .skip
 P:=Tryd.prog
 cl:=oJ [(10,p9 (tyL Notation.row) oF (Cc n)),(11,JH oF (vM n)),(14,p9 (tyL Syntax.row) oF (zk n)),(15,su (tyL Notation.row) (tyL Syntax.row) (Py (nG Syntax.cel) (pT .i64) (pT .i64)) (tW n)),(23,p9 (tyL Notation.row) oF (zx n)),(24,entG [] Ov (asT (tyL Syntax.row) asN) (RD (P8 false Syntax.row) Ov) (rsA 0 (fun (b:Td)=>b.1.length) rsN) (fun (b:Unit) a=>(yT n) a.1)),(25,su (nG Syntax.cel) (tyL Syntax.row) (Lt (tyL Syntax.row) oF) (s7 n))]
 cd:=oN []
 qR:=oO [([0,1,0,1,1,1,1],xH)]
 cut:=oP [([1,1,1,1,1],[0])]
 n:=n
 out:=pS Tryd.prog [.tmp 4] oF
 q6:=nJ []
theorem Ef (n:Nat):(pX n).P=Tryd.prog∧(pX n).cl=oJ [(10,p9 (tyL Notation.row) oF (Cc n)),(11,JH oF (vM n)),(14,p9 (tyL Syntax.row) oF (zk n)),(15,su (tyL Notation.row) (tyL Syntax.row) (Py (nG Syntax.cel) (pT .i64) (pT .i64)) (tW n)),(23,p9 (tyL Notation.row) oF (zx n)),(24,entG [] Ov (asT (tyL Syntax.row) asN) (RD (P8 false Syntax.row) Ov) (rsA 0 (fun (b:Td)=>b.1.length) rsN) (fun (b:Unit) a=>(yT n) a.1)),(25,su (nG Syntax.cel) (tyL Syntax.row) (Lt (tyL Syntax.row) oF) (s7 n))]∧(pX n).cd=oN []∧(pX n).qR=oO [([0,1,0,1,1,1,1],xH)]∧(pX n).cut=oP [([1,1,1,1,1],[0])]∧(pX n).n=n∧(pX n).out=pS Tryd.prog [.tmp 4] oF∧(pX n).q6=nJ []:=⟨rfl,rfl,rfl,rfl,rfl,rfl,rfl,rfl⟩
theorem Eg (n:Nat):(pX n).body=(Tryd.f7.body).getD .skip:=rfl
noncomputable def xI (n:Nat):{B:((List Notation)→(List Syntax)→Int→Int→(List Syntax)→(List Syntax)→Option Bool)→(List Notation)→(List Syntax)→Int→Int→(List Syntax)→(List Syntax)→Option Bool // ∀m X0,(∀ (v0:List Notation) (v1:List Syntax) (v2:Int) (v3:Int) (r0:List Syntax) (r1:List Syntax) (c0:Nat) (c1:Nat),c0=r0.length→c1=r1.length→run (pX n) [.lq m [0,1,0,1,1,1,1],.q9 0,.cut [1,1,1,1,1],.at [1,1,1,1,1]] ⟨[.nY false 4 (mp Notation.cells v0),.nY false 8 (mp Syntax.cells v1),qA,qA,qA,.acc 0 c0,.acc 1 c1,qA,qA,qA,qA,qA,qA,qA,qA,qA,qA,qA,qA,qA,qA,qA,qA,qA,qA,qA,qA,qA,qA,qA,qA,qA,qA,qA,qA,.int .i64 v2,.int .i64 v3,qA,qA,qA,qA,qA,qA,qA,qA,qA,qA,qA,qA,qA,qA,qA,qA,qA,qA,qA,qA,qA,qA,qA,qA,qA,qA,qA,qA,qA,qA,qA,qA,qA,qA,qA,qA,qA,qA,qA,qA,qA,qA,qA,qA,qA,qA,qA,qA,qA,qA,qA,qA,qA,qA,qA,qA,qA,qA,qA,qA,qA,qA,qA,qA,qA,qA,qA,qA,qA,qA,qA,qA,qA,qA,qA,qA,qA,qA,qA,qA,qA,qA,qA,qA,qA,qA,qA,qA,qA,qA,qA,qA,qA,qA,qA,qA,qA,qA,qA,qA],[.acc false 8 (mp Syntax.cells r0),.acc true 8 (mp Syntax.cells r1)],0,[]⟩=X0 v0 v1 v2 v3 r0 r1)→ ∀ (v0:List Notation) (v1:List Syntax) (v2:Int) (v3:Int) (r0:List Syntax) (r1:List Syntax),run (pX n) [.at [0,0,1,0,1,1,1,1],.lp m [0,1,0,1,1,1,1],.q9 0,.cut [1,1,1,1,1],.at [1,1,1,1,1]] ⟨[.nY false 4 (mp Notation.cells v0),.nY false 8 (mp Syntax.cells v1),qA,qA,qA,.acc 0 r0.length,.acc 1 r1.length,qA,qA,qA,qA,qA,qA,qA,qA,qA,qA,qA,qA,qA,qA,qA,qA,qA,qA,qA,qA,qA,qA,qA,qA,qA,qA,qA,qA,.int .i64 v2,.int .i64 v3,qA,qA,qA,qA,qA,qA,qA,qA,qA,qA,qA,qA,qA,qA,qA,qA,qA,qA,qA,qA,qA,qA,qA,qA,qA,qA,qA,qA,qA,qA,qA,qA,qA,qA,qA,qA,qA,qA,qA,qA,qA,qA,qA,qA,qA,qA,qA,qA,qA,qA,qA,qA,qA,qA,qA,qA,qA,qA,qA,qA,qA,qA,qA,qA,qA,qA,qA,qA,qA,qA,qA,qA,qA,qA,qA,qA,qA,qA,qA,qA,qA,qA,qA,qA,qA,qA,qA,qA,qA,qA,qA,qA,qA,qA,qA,qA,qA,qA,qA,qA],[.acc false 8 (mp Syntax.cells r0),.acc true 8 (mp Syntax.cells r1)],0,[]⟩=B X0 v0 v1 v2 v3 r0 r1}:=by
 apply jH
 intro m X0 ih v0 v1 v2 v3 r0 r1
 simp (config:={maxSteps:=100000000}) only[go_sem,jy,jz,ju,jv,jA,jB,jD,jE,jF,jx,jC,jG,Ef,Eg,Tryd.f7,jw,mixed,xH,Syntax.cells_eq,List.map_cons,List.map_nil,List.set_set,Syntax.nbset,ih]
 exact rfl
noncomputable def uF (n:Nat):Nat→(List Notation)→(List Syntax)→Int→Int→(List Syntax)→(List Syntax)→Option Bool
 |0,_,_,_,_,_,_=>none
 |m+1,v0,v1,v2,v3,r0,r1=>(xI n).1 (uF n m) v0 v1 v2 v3 r0 r1
theorem BV (n:Nat): ∀ (m:Nat),(∀ (v0:List Notation) (v1:List Syntax) (v2:Int) (v3:Int) (r0:List Syntax) (r1:List Syntax) (c0:Nat) (c1:Nat),c0=r0.length→c1=r1.length→run (pX n) [.lq m [0,1,0,1,1,1,1],.q9 0,.cut [1,1,1,1,1],.at [1,1,1,1,1]] ⟨[.nY false 4 (mp Notation.cells v0),.nY false 8 (mp Syntax.cells v1),qA,qA,qA,.acc 0 c0,.acc 1 c1,qA,qA,qA,qA,qA,qA,qA,qA,qA,qA,qA,qA,qA,qA,qA,qA,qA,qA,qA,qA,qA,qA,qA,qA,qA,qA,qA,qA,.int .i64 v2,.int .i64 v3,qA,qA,qA,qA,qA,qA,qA,qA,qA,qA,qA,qA,qA,qA,qA,qA,qA,qA,qA,qA,qA,qA,qA,qA,qA,qA,qA,qA,qA,qA,qA,qA,qA,qA,qA,qA,qA,qA,qA,qA,qA,qA,qA,qA,qA,qA,qA,qA,qA,qA,qA,qA,qA,qA,qA,qA,qA,qA,qA,qA,qA,qA,qA,qA,qA,qA,qA,qA,qA,qA,qA,qA,qA,qA,qA,qA,qA,qA,qA,qA,qA,qA,qA,qA,qA,qA,qA,qA,qA,qA,qA,qA,qA,qA,qA,qA,qA,qA,qA,qA],[.acc false 8 (mp Syntax.cells r0),.acc true 8 (mp Syntax.cells r1)],0,[]⟩=uF n m v0 v1 v2 v3 r0 r1)
 |0=>by intros;exact nK
 |m+1=>by
  have ih:=BV n m
  intro v0 v1 v2 v3 r0 r1 c0 c1 ec0 ec1
  subst ec0
  subst ec1
  rw[nL]
  exact (xI n).2 m _ ih v0 v1 v2 v3 r0 r1
noncomputable def AX (n:Nat):{B:(List Notation)→(List Syntax)→Option Bool // ∀ (a0:(List Notation)) (a1:(List Syntax)),run (pX n) [.at []] {slots:=[(tyL Notation.row).enc a0,(tyL Syntax.row).enc a1]++jI (137-[(tyL Notation.row).enc a0,(tyL Syntax.row).enc a1].length) qA,heap:=[]}=B a0 a1}:=by
 apply jH
 intro a0 a1
 simp (config:={maxSteps:=100000000}) only[go_sem,jy,jz,ju,jv,jA,jB,jD,jE,jF,jx,jC,jG,Ef,Eg,Tryd.f7,jw,mixed,xH,Syntax.cells_eq,List.map_cons,List.map_nil,List.set_set,Syntax.nbset,BV n]
 exact rfl
noncomputable def BW:Nat→(List Notation)→(List Syntax)→Option Bool
 |0,_,_=>none
 |n+1,a0,a1=>(AX n).1 a0 a1
theorem UU: ∀ (n:Nat) (a0:(List Notation)) (a1:(List Syntax)) (r:Bool),BW n a0 a1=some r→xY Tryd.prog 7 [(tyL Notation.row).enc a0,(tyL Syntax.row).enc a1] (fun v=>v=oF.enc r)
 |0,_,_,_,h=>by cases h
 |n+1,a0,a1,r,h=>by
  exact pg (M:=pX n) ⟨(mZ (pZ (J2 n)) (mZ (Lu (G5 n)) (mZ (pZ (GN n)) (mZ (sI (Bu n)) (mZ (pZ (G2 n)) (mZ (entG_ok (fun b a r h=>(ID n) a.1 r h)) (mZ (sI (H6 n)) m5))))))),m6,nT _,nU _,oS,oQ,pz,oX⟩ Tryd.func7 rfl rfl ⟨(tyL Notation.row).nb 0 _,(tyL Syntax.row).nb 0 _,trivial⟩ Tryd.ntmps7 Tryd.results7 (fun σ hs=>oZ (P:=Tryd.prog) (rs:=[.tmp 4]) (t:=oF) (σ:=σ) (r:=r) hs) (((AX n).2 a0 a1).trans h)
end Go.Abs
