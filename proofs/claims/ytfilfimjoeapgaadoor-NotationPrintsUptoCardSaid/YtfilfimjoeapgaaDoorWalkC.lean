/- A part of the proof: what the functions compute. -/
import Derived.Test.YtfilfimjoeapgaaDoorDataA
import Derived.Test.YtfilfimjoeapgaaDoorWalkA
import Derived.Test.YtfilfimjoeapgaaDoorWalkB
set_option linter.all false
open Nat renaming reduceLeDiff → iY,reduceEqDiff → iZ,reduceAdd → je,reduceSub → jf,reduceBEq → jg,reduceMul → jh,reduceLT → jj,le_trans → jr,le_of_eq → jt
open Option renaming getD_some → jc
open Int renaming reduceToNat → jd,reduceBEq → ji,reduceLE → jk,reduceLT → jl,reduceEq → jm
open Subtype renaming mk → jo
open List renaming replicate → jq
open Go.Abs.AV renaming any → qA
namespace Go.Abs
open Go.Proofs
set_option maxRecDepth 100000
set_option maxHeartbeats 4000000
noncomputable def nQ (n:Nat):Mach Bool where
 body:=(Tryd.f38.body).getD .skip
 P:=Tryd.prog
 cl:=oJ [(65,su (tyL sD) (E4 39) (pT .i64) (sN n))]
 cd:=oN []
 qR:=oO []
 cut:=oP []
 n:=n
 out:=pS Tryd.prog [.tmp 4] oF
 q6:=nJ []
theorem AN (n:Nat):(nQ n).P=Tryd.prog∧(nQ n).cl=oJ [(65,su (tyL sD) (E4 39) (pT .i64) (sN n))]∧(nQ n).cd=oN []∧(nQ n).qR=oO []∧(nQ n).cut=oP []∧(nQ n).n=n∧(nQ n).out=pS Tryd.prog [.tmp 4] oF∧(nQ n).q6=nJ []:=⟨rfl,rfl,rfl,rfl,rfl,rfl,rfl,rfl⟩
theorem AO (n:Nat):(nQ n).body=(Tryd.f38.body).getD .skip:=rfl
noncomputable def tK (n:Nat):{B:(List Str)→Unit→Option Bool // ∀ (a0:(List Str)) (a1:Unit),run (nQ n) [.at []] {slots:=[(tyL sD).enc a0,(E4 39).enc a1]++jq (9-[(tyL sD).enc a0,(E4 39).enc a1].length) qA,heap:=[]}=B a0 a1}:=by
 apply jo
 intro a0 a1
 simp (config:={maxSteps:=100000000}) only[go_sem,je,jf,iY,iZ,jg,jh,jj,jk,jl,jd,ji,jm,AN,AO,Tryd.f38,jc,mixed]
 exact rfl
noncomputable def qN:Nat→(List Str)→Unit→Option Bool
 |0,_,_=>none
 |n+1,a0,a1=>(tK n).1 a0 a1
theorem Au: ∀ (n:Nat) (a0:(List Str)) (a1:Unit) (r:Bool),qN n a0 a1=some r→xY Tryd.prog 38 [(tyL sD).enc a0,(E4 39).enc a1] (fun v=>v=oF.enc r)
 |0,_,_,_,h=>by cases h
 |n+1,a0,a1,r,h=>by
  exact pg (M:=nQ n) ⟨(mZ (sI (Bi n)) m5),m6,nT _,nU _,oS,oQ,pz,oX⟩ Tryd.func38 rfl rfl ⟨(tyL sD).nb 0 _,(E4 39).nb 0 _,trivial⟩ Tryd.ntmps38 Tryd.results38 (fun σ hs=>oZ (P:=Tryd.prog) (rs:=[.tmp 4]) (t:=oF) (σ:=σ) (r:=r) hs) (((tK n).2 a0 a1).trans h)
noncomputable def rP (n:Nat):Mach Tx where
 body:=(Tryd.f97.body).getD .skip
 P:=Tryd.prog
 cl:=oJ [(108,p9 uI (XT 112 (tyP cS)) (DH n)),(112,entX [.arg 0 [],.obj 0 1 [],.obj 1 0 []] oY (xL 0 (qO (tyP cS) pV)) qz pV (fun (b:Tp) (a:(Str×Unit))=>(Cq n) a.1 b.2.2.1))]
 cd:=oN []
 qR:=oO []
 cut:=oP []
 n:=n
 out:=Cy Tryd.prog [.tmp 0] [.arg 0 []] [] 0 (tA Ke yt) (xL 0 pV)
 q6:=nJ []
 js:=tabJ [([0,1,0,1,1],[])]
theorem OK (n:Nat):(rP n).P=Tryd.prog∧(rP n).cl=oJ [(108,p9 uI (XT 112 (tyP cS)) (DH n)),(112,entX [.arg 0 [],.obj 0 1 [],.obj 1 0 []] oY (xL 0 (qO (tyP cS) pV)) qz pV (fun (b:Tp) (a:(Str×Unit))=>(Cq n) a.1 b.2.2.1))]∧(rP n).cd=oN []∧(rP n).qR=oO []∧(rP n).cut=oP []∧(rP n).n=n∧(rP n).out=Cy Tryd.prog [.tmp 0] [.arg 0 []] [] 0 (tA Ke yt) (xL 0 pV)∧(rP n).q6=nJ []∧(rP n).js=tabJ [([0,1,0,1,1],[])]:=⟨rfl,rfl,rfl,rfl,rfl,rfl,rfl,rfl,rfl⟩
theorem OM (n:Nat):(rP n).body=(Tryd.f97.body).getD .skip:=rfl
theorem MV (n:Nat):lkM (rP n) [0,1,0,1,1]=oo:=rfl
noncomputable def Jl (n:Nat):{B:Option Tx // run (rP n) [.at []] {slots:=(pV.enc (yt.lens ()) ())++jq (9-(pV.enc (yt.lens ()) ()).length) qA,heap:=(yt.enc (yt.lens ()) ()),low:=(yt.enc (yt.lens ()) ()).length}=B}:=by
 apply jo
 simp (config:={maxSteps:=100000000}) only[go_sem,je,jf,iY,iZ,jg,jh,jj,jk,jl,jd,ji,jm,OK,OM,Tryd.f97,jc,mixed,oY,qz,vP,MV]
 exact rfl
noncomputable def BL:Nat→Option Tx
 |0=>none
 |n+1=>(Jl n).1
theorem NP: ∀ (n:Nat) (r:Tx),BL n=some r→QF Tryd.prog 97 (pV.enc (yt.lens ()) ()) (yt.enc (yt.lens ()) ()) (fun o H'=>o= .ret (vX ((xL 0 pV).enc ((tA Ke yt).lens r.1) r.2))∧H'=(tA Ke yt).enc ((tA Ke yt).lens r.1) r.1)
 |0,_,h=>by cases h
 |n+1,r,h=>by
  exact B3 (M:=rP n) ⟨(mZ (pZ (KV n)) (mZ (B5 (fun b a r h=>(JY n) a.1 b.2.2.1 r h)) m5)),m6,nT _,nU _,oS,oQ,pz,oX⟩ Tryd.func97 rfl rfl (sP (jr (of_decide_eq_true (by kernel_rfl)) (jt (yt.sz _ _).symm)) _ (pV.nb _ _)) (fun x hx=>uC (jr (of_decide_eq_true (by kernel_rfl)) (jt (yt.sz _ _).symm)) _ (yt.nb _ _ x hx)) Tryd.ntmps97 Tryd.results97 (fun σ hs=>Bo (P:=Tryd.prog) (rs:=[.tmp 0]) (pos:=[.arg 0 []]) (base:=[]) (low:=0) (os:=(tA Ke yt)) (s:=(xL 0 pV)) (σ:=σ) (r:=r) (by rfl) hs) (((Jl n).2).trans h)
noncomputable def xB:Nrm:=⟨[],[],[zK,zK,zA,zA,zK,zA,zK,zK,zA,zA,zA,zA,zA,zA,zA,zA,zA,zA,zA,zA,zA,zA,zA,zA,zA,zA,zA,zA,zA,zA,zA,zA,zA,zA,zA,zA,zA,zA,zA,zA,zA,zA,zA,zA,zA,zA,zA,zA,zA,zA,zA,zA,zA,zA,zA,zA,zA,zA,zA,zA,zA,zA,zA],[oC [zK,zT (tyL Syntax.row),zK],oC [zK,zK,zK,zK],oM (nG Notation.cel),oM (nG Notation.cel),oK,oK,oT Syntax.cel],none,none⟩
noncomputable def nI:OL T0:=(tA (B4 (uk 1 (qO (tyL Syntax.row) (qO (pT .i64) pV)))) (tA (B4 (xL 2 (xL 3 (xL 4 (qO (pT .i64) pV))))) (tA (wI (nG Notation.cel)) (tA (wI (nG Notation.cel)) (tA Ke yt)))))
noncomputable def pJ:OL T0:=(tA (B4 (uk 1 (qO (tyL Syntax.row) (qO (pT .i64) pV)))) (tA (B4 (xL 2 (xL 3 (xL 4 (qO (pT .i64) pV))))) (tA (wI (nG Notation.cel)) (tA (wI (nG Notation.cel)) (tA Ke yt)))))
noncomputable def pK:AL (Syntax×(Int×Unit)):=(qO (nG Syntax.cel) (qO (pT .i64) pV))
noncomputable def pL:OL T0:=(tA (B4 (uk 1 (qO (tyL Syntax.row) (qO (pT .i64) pV)))) (tA (B4 (xL 2 (xL 3 (xL 4 (qO (pT .i64) pV))))) (tA (wI (nG Notation.cel)) (tA (wI (nG Notation.cel)) (tA Ke yt)))))
noncomputable def n7:OL T0:=(tA (B4 (uk 1 (qO (tyL Syntax.row) (qO (pT .i64) pV)))) (tA (B4 (xL 2 (xL 3 (xL 4 (qO (pT .i64) pV))))) (tA (wI (nG Notation.cel)) (tA (wI (nG Notation.cel)) (tA Ke yt)))))
noncomputable def qX:OL T0:=(tA (B4 (uk 1 (qO (tyL Syntax.row) (qO (pT .i64) pV)))) (tA (B4 (xL 2 (xL 3 (xL 4 (qO (pT .i64) pV))))) (tA (wI (nG Notation.cel)) (tA (wI (nG Notation.cel)) (tA Ke yt)))))
noncomputable def qY:AL (Syntax×(Int×Unit)):=(qO (nG Syntax.cel) (qO (pT .i64) pV))
noncomputable def qZ:OL T0:=(tA (B4 (uk 1 (qO (tyL Syntax.row) (qO (pT .i64) pV)))) (tA (B4 (xL 2 (xL 3 (xL 4 (qO (pT .i64) pV))))) (tA (wI (nG Notation.cel)) (tA (wI (nG Notation.cel)) (tA Ke yt)))))
noncomputable def oc:AL Th:=(uk 0 (qO (nG Notation.cel) (qO (pT .i64) (qO (VZ Syntax.row) (qO (pT .i64) pV)))))
noncomputable def ny:OL T0:=(tA (B4 (uk 1 (qO (tyL Syntax.row) (qO (pT .i64) pV)))) (tA (B4 (xL 2 (xL 3 (xL 4 (qO (pT .i64) pV))))) (tA (wI (nG Notation.cel)) (tA (wI (nG Notation.cel)) (tA Ke yt)))))
noncomputable def ow:OL T0:=(tA (B4 (uk 1 (qO (tyL Syntax.row) (qO (pT .i64) pV)))) (tA (B4 (xL 2 (xL 3 (xL 4 (qO (pT .i64) pV))))) (tA (wI (nG Notation.cel)) (tA (wI (nG Notation.cel)) (tA Ke yt)))))
noncomputable def oz:OL T0:=(tA (B4 (uk 1 (qO (tyL Syntax.row) (qO (pT .i64) pV)))) (tA (B4 (xL 2 (xL 3 (xL 4 (qO (pT .i64) pV))))) (tA (wI (nG Notation.cel)) (tA (wI (nG Notation.cel)) (tA Ke yt)))))
noncomputable def pE (mS:Int→(List Syntax)→Int→Int→T3→T3→T5→Option T4) (mQ:Int→(List Syntax)→Int→Int→T3→T3→T5→Option T4) (mR:Notation→Int→(List Syntax)→Int→(List Syntax)→Int→Int→T3→T3→T5→Option T6) (n:Nat):Mach T4 where
 body:=(Tryd.f53.body).getD .skip
 P:=Tryd.prog
 cl:=oJ [(80,entX [.arg 0 [],.obj 0 0 [],.obj 1 0 [],.obj 1 1 [],.obj 1 2 []] nv (uk 0 pV) n5 (qO uI (qO oF pV)) (fun (b:T0) (a:Unit)=>(tJ n) b.1.1 b.1.2.1 b.2.1.1 b.2.2.1 b.2.2.2.1 b.2.2.2.2.1)),(81,su (nG Notation.cel) (pT .i64) (pT .i64) (vA n))]
 cd:=oN []
 qR:=oO [([0,1,1],xB)]
 cut:=oP []
 n:=n
 out:=NC Tryd.prog [.cell 4 36,.tmp 5] [] [0,1,2,3,4] 5 pJ pK
 xT:=ND [] [0,1,2,3,4] 5 pL (qO (Fq 83 Ft) pV)
 cp:=Kn [(79,entXP true [.arg 0 [],.obj 0 0 [],.obj 1 0 [],.obj 1 1 [],.obj 1 2 []] n7 (uk 0 (qO (pT .i64) pV)) qX qY qZ (qO (Fq 83 Ft) pV) (fun (b:T0) (a:(Int×Unit))=>mQ a.1 b.1.1 b.1.2.1 b.2.1.1 b.2.2.1 b.2.2.2.1 b.2.2.2.2.1)),(82,entXP true [.arg 0 [],.obj 0 0 [],.obj 1 0 [],.obj 1 1 [],.obj 1 2 []] ny oc ow (qO (nG Syntax.cel) pV) oz (qO (Fq 83 Ft) pV) (fun (b:T0) (a:Th)=>mR a.1 a.2.1 a.2.2.1 a.2.2.2.1 b.1.1 b.1.2.1 b.2.1.1 b.2.2.1 b.2.2.2.1 b.2.2.2.2.1))]
 q6:=nJ [79,82]
theorem DX (mS:Int→(List Syntax)→Int→Int→T3→T3→T5→Option T4) (mQ:Int→(List Syntax)→Int→Int→T3→T3→T5→Option T4) (mR:Notation→Int→(List Syntax)→Int→(List Syntax)→Int→Int→T3→T3→T5→Option T6) (n:Nat):(pE mS mQ mR n).P=Tryd.prog∧(pE mS mQ mR n).cl=oJ [(80,entX [.arg 0 [],.obj 0 0 [],.obj 1 0 [],.obj 1 1 [],.obj 1 2 []] nv (uk 0 pV) n5 (qO uI (qO oF pV)) (fun (b:T0) (a:Unit)=>(tJ n) b.1.1 b.1.2.1 b.2.1.1 b.2.2.1 b.2.2.2.1 b.2.2.2.2.1)),(81,su (nG Notation.cel) (pT .i64) (pT .i64) (vA n))]∧(pE mS mQ mR n).cd=oN []∧(pE mS mQ mR n).qR=oO [([0,1,1],xB)]∧(pE mS mQ mR n).cut=oP []∧(pE mS mQ mR n).n=n∧(pE mS mQ mR n).out=NC Tryd.prog [.cell 4 36,.tmp 5] [] [0,1,2,3,4] 5 pJ pK∧(pE mS mQ mR n).xT=ND [] [0,1,2,3,4] 5 pL (qO (Fq 83 Ft) pV)∧(pE mS mQ mR n).cp=Kn [(79,entXP true [.arg 0 [],.obj 0 0 [],.obj 1 0 [],.obj 1 1 [],.obj 1 2 []] n7 (uk 0 (qO (pT .i64) pV)) qX qY qZ (qO (Fq 83 Ft) pV) (fun (b:T0) (a:(Int×Unit))=>mQ a.1 b.1.1 b.1.2.1 b.2.1.1 b.2.2.1 b.2.2.2.1 b.2.2.2.2.1)),(82,entXP true [.arg 0 [],.obj 0 0 [],.obj 1 0 [],.obj 1 1 [],.obj 1 2 []] ny oc ow (qO (nG Syntax.cel) pV) oz (qO (Fq 83 Ft) pV) (fun (b:T0) (a:Th)=>mR a.1 a.2.1 a.2.2.1 a.2.2.2.1 b.1.1 b.1.2.1 b.2.1.1 b.2.2.1 b.2.2.2.1 b.2.2.2.2.1))]∧(pE mS mQ mR n).q6=nJ [79,82]:=⟨rfl,rfl,rfl,rfl,rfl,rfl,rfl,rfl,rfl,rfl⟩
theorem DY (mS:Int→(List Syntax)→Int→Int→T3→T3→T5→Option T4) (mQ:Int→(List Syntax)→Int→Int→T3→T3→T5→Option T4) (mR:Notation→Int→(List Syntax)→Int→(List Syntax)→Int→Int→T3→T3→T5→Option T6) (n:Nat):(pE mS mQ mR n).body=(Tryd.f53.body).getD .skip:=rfl
noncomputable def vJ (mS:Int→(List Syntax)→Int→Int→T3→T3→T5→Option T4) (mQ:Int→(List Syntax)→Int→Int→T3→T3→T5→Option T4) (mR:Notation→Int→(List Syntax)→Int→(List Syntax)→Int→Int→T3→T3→T5→Option T6) (n:Nat):{B:(Int→Int→(List Syntax)→Int→Int→T3→T3→T5→Syntax→Option T4)→Int→Int→(List Syntax)→Int→Int→T3→T3→T5→Syntax→Option T4 // ∀m X0,(∀ (v0:Int) (v1:Int) (v2:List Syntax) (v3:Int) (v4:Int) (r2:List (Str×Notation)) (r3:List (Str×Notation)) (r4:List (Str×Bool)) (o6:Syntax),run (pE mS mQ mR n) [.lq m [0,1,1],.q9 0] ⟨[.ptr 0 0,.int .i64 v0,qA,qA,.ptr 5 0,qA,.ptr 6 0,.int .i64 v1,qA,qA,qA,qA,qA,qA,qA,qA,qA,qA,qA,qA,qA,qA,qA,qA,qA,qA,qA,qA,qA,qA,qA,qA,qA,qA,qA,qA,qA,qA,qA,qA,qA,qA,qA,qA,qA,qA,qA,qA,qA,qA,qA,qA,qA,qA,qA,qA,qA,qA,qA,qA,qA,qA,qA],[.cells [.ptr 1 0,.nY false 8 (mp Syntax.cells v2),.int .i64 v3],.cells [.map 2,.map 3,.map 4,.int .i64 v4],.map (mp (mcT (nG Notation.cel)) r2),.map (mp (mcT (nG Notation.cel)) r3),.map (mp mcB r4),.cells [.int .i64 0,.str (sb []),.int .i64 0,.nY true 0 [],.nY true 0 [],.nY true 0 [],.int .i64 0,.int .i64 0],.cells (Syntax.cells o6)],5,[]⟩=X0 v0 v1 v2 v3 v4 r2 r3 r4 o6)→ ∀ (v0:Int) (v1:Int) (v2:List Syntax) (v3:Int) (v4:Int) (r2:List (Str×Notation)) (r3:List (Str×Notation)) (r4:List (Str×Bool)) (o6:Syntax),run (pE mS mQ mR n) [.at [0,0,1,1],.lp m [0,1,1],.q9 0] ⟨[.ptr 0 0,.int .i64 v0,qA,qA,.ptr 5 0,qA,.ptr 6 0,.int .i64 v1,qA,qA,qA,qA,qA,qA,qA,qA,qA,qA,qA,qA,qA,qA,qA,qA,qA,qA,qA,qA,qA,qA,qA,qA,qA,qA,qA,qA,qA,qA,qA,qA,qA,qA,qA,qA,qA,qA,qA,qA,qA,qA,qA,qA,qA,qA,qA,qA,qA,qA,qA,qA,qA,qA,qA],[.cells [.ptr 1 0,.nY false 8 (mp Syntax.cells v2),.int .i64 v3],.cells [.map 2,.map 3,.map 4,.int .i64 v4],.map (mp (mcT (nG Notation.cel)) r2),.map (mp (mcT (nG Notation.cel)) r3),.map (mp mcB r4),.cells [.int .i64 0,.str (sb []),.int .i64 0,.nY true 0 [],.nY true 0 [],.nY true 0 [],.int .i64 0,.int .i64 0],.cells (Syntax.cells o6)],5,[]⟩=B X0 v0 v1 v2 v3 v4 r2 r3 r4 o6}:=by
 apply jo
 intro m X0 ih v0 v1 v2 v3 v4 r2 r3 r4 o6
 simp (config:={maxSteps:=100000000,implicitDefEqProofs:=false}) only[go_sem,je,jf,iY,iZ,jg,jh,jj,jk,jl,jd,ji,jm,DX,DY,Tryd.f53,jc,mixed,nI,pJ,pK,pL,n7,qX,qY,qZ,oc,ny,ow,oz,nv,n5,xB,ih]
 exact rfl
noncomputable def qL (mS:Int→(List Syntax)→Int→Int→T3→T3→T5→Option T4) (mQ:Int→(List Syntax)→Int→Int→T3→T3→T5→Option T4) (mR:Notation→Int→(List Syntax)→Int→(List Syntax)→Int→Int→T3→T3→T5→Option T6) (n:Nat):Nat→Int→Int→(List Syntax)→Int→Int→T3→T3→T5→Syntax→Option T4
 |0,_,_,_,_,_,_,_,_,_=>none
 |m+1,v0,v1,v2,v3,v4,r2,r3,r4,o6=>(vJ mS mQ mR n).1 (qL mS mQ mR n m) v0 v1 v2 v3 v4 r2 r3 r4 o6
theorem BM (mS:Int→(List Syntax)→Int→Int→T3→T3→T5→Option T4) (mQ:Int→(List Syntax)→Int→Int→T3→T3→T5→Option T4) (mR:Notation→Int→(List Syntax)→Int→(List Syntax)→Int→Int→T3→T3→T5→Option T6) (n:Nat): ∀ (m:Nat),(∀ (v0:Int) (v1:Int) (v2:List Syntax) (v3:Int) (v4:Int) (r2:List (Str×Notation)) (r3:List (Str×Notation)) (r4:List (Str×Bool)) (o6:Syntax),run (pE mS mQ mR n) [.lq m [0,1,1],.q9 0] ⟨[.ptr 0 0,.int .i64 v0,qA,qA,.ptr 5 0,qA,.ptr 6 0,.int .i64 v1,qA,qA,qA,qA,qA,qA,qA,qA,qA,qA,qA,qA,qA,qA,qA,qA,qA,qA,qA,qA,qA,qA,qA,qA,qA,qA,qA,qA,qA,qA,qA,qA,qA,qA,qA,qA,qA,qA,qA,qA,qA,qA,qA,qA,qA,qA,qA,qA,qA,qA,qA,qA,qA,qA,qA],[.cells [.ptr 1 0,.nY false 8 (mp Syntax.cells v2),.int .i64 v3],.cells [.map 2,.map 3,.map 4,.int .i64 v4],.map (mp (mcT (nG Notation.cel)) r2),.map (mp (mcT (nG Notation.cel)) r3),.map (mp mcB r4),.cells [.int .i64 0,.str (sb []),.int .i64 0,.nY true 0 [],.nY true 0 [],.nY true 0 [],.int .i64 0,.int .i64 0],.cells (Syntax.cells o6)],5,[]⟩=qL mS mQ mR n m v0 v1 v2 v3 v4 r2 r3 r4 o6)
 |0=>by intros;exact nK
 |m+1=>by
  have ih:=BM mS mQ mR n m
  intro v0 v1 v2 v3 v4 r2 r3 r4 o6
  rw[nL]
  exact (vJ mS mQ mR n).2 m _ ih v0 v1 v2 v3 v4 r2 r3 r4 o6
noncomputable def yp (mS:Int→(List Syntax)→Int→Int→T3→T3→T5→Option T4) (mQ:Int→(List Syntax)→Int→Int→T3→T3→T5→Option T4) (mR:Notation→Int→(List Syntax)→Int→(List Syntax)→Int→Int→T3→T3→T5→Option T6) (n:Nat):{B:Int→(List Syntax)→Int→Int→T3→T3→T5→Option T4 // ∀ (a0:Int) (o0:(List Syntax)) (o1:Int) (o2:Int) (o3:T3) (o4:T3) (o5:T5),run (pE mS mQ mR n) [.at []] {slots:=((uk 0 (qO (pT .i64) pV)).enc (nI.lens ((o0,o1,()),(o2,()),o3,o4,o5,())) (a0,()))++jq (63-((uk 0 (qO (pT .i64) pV)).enc (nI.lens ((o0,o1,()),(o2,()),o3,o4,o5,())) (a0,())).length) qA,heap:=(nI.enc (nI.lens ((o0,o1,()),(o2,()),o3,o4,o5,())) ((o0,o1,()),(o2,()),o3,o4,o5,())),low:=(nI.enc (nI.lens ((o0,o1,()),(o2,()),o3,o4,o5,())) ((o0,o1,()),(o2,()),o3,o4,o5,())).length}=B a0 o0 o1 o2 o3 o4 o5}:=by
 apply jo
 intro a0 o0 o1 o2 o3 o4 o5
 simp (config:={maxSteps:=100000000,implicitDefEqProofs:=false}) only[go_sem,je,jf,iY,iZ,jg,jh,jj,jk,jl,jd,ji,jm,DX,DY,Tryd.f53,jc,mixed,nI,pJ,pK,pL,n7,qX,qY,qZ,oc,ny,ow,oz,nv,n5,xB,BM mS mQ mR n]
 exact rfl
noncomputable def m4 (mS:Int→(List Syntax)→Int→Int→T3→T3→T5→Option T4) (mQ:Int→(List Syntax)→Int→Int→T3→T3→T5→Option T4) (mR:Notation→Int→(List Syntax)→Int→(List Syntax)→Int→Int→T3→T3→T5→Option T6) (n:Nat):Mach T4 where
 body:=(Tryd.f79.body).getD .skip
 P:=Tryd.prog
 cl:=oJ [(44,p9 (nG Notation.cel) oF (sS n))]
 cd:=oN []
 qR:=oO []
 cut:=oP []
 n:=n
 out:=NC Tryd.prog [.cell 4 36,.tmp 5] [] [0,1,2,3,4] 5 qX qY
 xT:=ND [] [0,1,2,3,4] 5 qZ (qO (Fq 83 Ft) pV)
 co:=OE [(82,Ny [.arg 0 [],.obj 0 0 [],.obj 1 0 [],.obj 1 1 [],.obj 1 2 []] ny oc ow (qO (nG Syntax.cel) pV) oz (qO (Fq 83 Ft) pV) (fun (b:T0) (a:Th)=>mR a.1 a.2.1 a.2.2.1 a.2.2.2.1 b.1.1 b.1.2.1 b.2.1.1 b.2.2.1 b.2.2.2.1 b.2.2.2.2.1))]
 cp:=Kn [(82,entXP true [.arg 0 [],.obj 0 0 [],.obj 1 0 [],.obj 1 1 [],.obj 1 2 []] ny oc ow (qO (nG Syntax.cel) pV) oz (qO (Fq 83 Ft) pV) (fun (b:T0) (a:Th)=>mR a.1 a.2.1 a.2.2.1 a.2.2.2.1 b.1.1 b.1.2.1 b.2.1.1 b.2.2.1 b.2.2.2.1 b.2.2.2.2.1))]
 q6:=nJ [82]
 B1:=nJ [82]
 B0:=nJ []
theorem Hp (mS:Int→(List Syntax)→Int→Int→T3→T3→T5→Option T4) (mQ:Int→(List Syntax)→Int→Int→T3→T3→T5→Option T4) (mR:Notation→Int→(List Syntax)→Int→(List Syntax)→Int→Int→T3→T3→T5→Option T6) (n:Nat):(m4 mS mQ mR n).P=Tryd.prog∧(m4 mS mQ mR n).cl=oJ [(44,p9 (nG Notation.cel) oF (sS n))]∧(m4 mS mQ mR n).cd=oN []∧(m4 mS mQ mR n).qR=oO []∧(m4 mS mQ mR n).cut=oP []∧(m4 mS mQ mR n).n=n∧(m4 mS mQ mR n).out=NC Tryd.prog [.cell 4 36,.tmp 5] [] [0,1,2,3,4] 5 qX qY∧(m4 mS mQ mR n).xT=ND [] [0,1,2,3,4] 5 qZ (qO (Fq 83 Ft) pV)∧(m4 mS mQ mR n).co=OE [(82,Ny [.arg 0 [],.obj 0 0 [],.obj 1 0 [],.obj 1 1 [],.obj 1 2 []] ny oc ow (qO (nG Syntax.cel) pV) oz (qO (Fq 83 Ft) pV) (fun (b:T0) (a:Th)=>mR a.1 a.2.1 a.2.2.1 a.2.2.2.1 b.1.1 b.1.2.1 b.2.1.1 b.2.2.1 b.2.2.2.1 b.2.2.2.2.1))]∧(m4 mS mQ mR n).cp=Kn [(82,entXP true [.arg 0 [],.obj 0 0 [],.obj 1 0 [],.obj 1 1 [],.obj 1 2 []] ny oc ow (qO (nG Syntax.cel) pV) oz (qO (Fq 83 Ft) pV) (fun (b:T0) (a:Th)=>mR a.1 a.2.1 a.2.2.1 a.2.2.2.1 b.1.1 b.1.2.1 b.2.1.1 b.2.2.1 b.2.2.2.1 b.2.2.2.2.1))]∧(m4 mS mQ mR n).q6=nJ [82]∧(m4 mS mQ mR n).B1=nJ [82]∧(m4 mS mQ mR n).B0=nJ []:=⟨rfl,rfl,rfl,rfl,rfl,rfl,rfl,rfl,rfl,rfl,rfl,rfl,rfl⟩
theorem Hq (mS:Int→(List Syntax)→Int→Int→T3→T3→T5→Option T4) (mQ:Int→(List Syntax)→Int→Int→T3→T3→T5→Option T4) (mR:Notation→Int→(List Syntax)→Int→(List Syntax)→Int→Int→T3→T3→T5→Option T6) (n:Nat):(m4 mS mQ mR n).body=(Tryd.f79.body).getD .skip:=rfl
theorem Hr (mS:Int→(List Syntax)→Int→Int→T3→T3→T5→Option T4) (mQ:Int→(List Syntax)→Int→Int→T3→T3→T5→Option T4) (mR:Notation→Int→(List Syntax)→Int→(List Syntax)→Int→Int→T3→T3→T5→Option T6) (n:Nat):wH (m4 mS mQ mR n) [0,0,1]=true∧wH (m4 mS mQ mR n) [0,0,1,1,1,0,0,1,1,1,1,1]=true∧wH (m4 mS mQ mR n) [0,1,1]=true∧wH (m4 mS mQ mR n) [0,1,1,1,1]=true:=⟨by kernel_rfl,by kernel_rfl,by kernel_rfl,by kernel_rfl⟩
theorem Hs (mS:Int→(List Syntax)→Int→Int→T3→T3→T5→Option T4) (mQ:Int→(List Syntax)→Int→Int→T3→T3→T5→Option T4) (mR:Notation→Int→(List Syntax)→Int→(List Syntax)→Int→Int→T3→T3→T5→Option T6) (n:Nat):As (m4 mS mQ mR n) [0,0,1,1,1,0,0,1,1,1,1,1] 1 7=true∧As (m4 mS mQ mR n) [0,0,1,1,1,0,0,1,1,1,1,1] 3 7=true∧As (m4 mS mQ mR n) [0,0,1,1,1,0,0,1,1,1,1,1] 4 7=true∧As (m4 mS mQ mR n) [0,1,1] 3 11=true∧As (m4 mS mQ mR n) [0,1,1] 7 11=true∧As (m4 mS mQ mR n) [0,1,1] 8 11=true∧As (m4 mS mQ mR n) [0,1,1] 9 11=true∧As (m4 mS mQ mR n) [0,1,1] 10 11=true∧As (m4 mS mQ mR n) [0,1,1,1,1] 3 14=true∧As (m4 mS mQ mR n) [0,1,1,1,1] 6 14=true∧As (m4 mS mQ mR n) [0,1,1,1,1] 8 14=true∧As (m4 mS mQ mR n) [0,1,1,1,1] 9 14=true∧As (m4 mS mQ mR n) [0,1,1,1,1] 13 14=true:=⟨by kernel_rfl,by kernel_rfl,by kernel_rfl,by kernel_rfl,by kernel_rfl,by kernel_rfl,by kernel_rfl,by kernel_rfl,by kernel_rfl,by kernel_rfl,by kernel_rfl,by kernel_rfl,by kernel_rfl⟩
theorem Ht (mS:Int→(List Syntax)→Int→Int→T3→T3→T5→Option T4) (mQ:Int→(List Syntax)→Int→Int→T3→T3→T5→Option T4) (mR:Notation→Int→(List Syntax)→Int→(List Syntax)→Int→Int→T3→T3→T5→Option T6) (n:Nat):XB (m4 mS mQ mR n) [0,0,1,1,1,0,0,1,1,1,1,1] 4 5=false∧XB (m4 mS mQ mR n) [0,0,1,1,1,0,0,1,1,1,1,1] 4 6=false∧XB (m4 mS mQ mR n) [0,0,1,1,1,0,0,1,1,1,1,1] 4 7=true∧XB (m4 mS mQ mR n) [0,0,1,1,1,0,0,1,1,1,1,1] 4 8=true:=⟨by kernel_rfl,by kernel_rfl,by kernel_rfl,by kernel_rfl⟩
noncomputable def sF (mS:Int→(List Syntax)→Int→Int→T3→T3→T5→Option T4) (mQ:Int→(List Syntax)→Int→Int→T3→T3→T5→Option T4) (mR:Notation→Int→(List Syntax)→Int→(List Syntax)→Int→Int→T3→T3→T5→Option T6) (n:Nat):{B:Int→(List Syntax)→Int→Int→T3→T3→T5→Option T4 // ∀ (a0:Int) (o0:(List Syntax)) (o1:Int) (o2:Int) (o3:T3) (o4:T3) (o5:T5),run (m4 mS mQ mR n) [.at []] {slots:=((uk 0 (qO (pT .i64) pV)).enc (n7.lens ((o0,o1,()),(o2,()),o3,o4,o5,())) (a0,()))++jq (83-((uk 0 (qO (pT .i64) pV)).enc (n7.lens ((o0,o1,()),(o2,()),o3,o4,o5,())) (a0,())).length) qA,heap:=(n7.enc (n7.lens ((o0,o1,()),(o2,()),o3,o4,o5,())) ((o0,o1,()),(o2,()),o3,o4,o5,())),low:=(n7.enc (n7.lens ((o0,o1,()),(o2,()),o3,o4,o5,())) ((o0,o1,()),(o2,()),o3,o4,o5,())).length}=B a0 o0 o1 o2 o3 o4 o5}:=by
 apply jo
 intro a0 o0 o1 o2 o3 o4 o5
 simp (config:={maxSteps:=100000000,implicitDefEqProofs:=false}) only[go_sem,je,jf,iY,iZ,jg,jh,jj,jk,jl,jd,ji,jm,Hp,Hq,Tryd.f79,jc,mixed,n7,qX,qY,qZ,oc,ny,ow,oz,Hr,Hs,Ht]
 exact rfl
noncomputable def sU:Nrm:=⟨[],[],[zA,zA,zA,zA,zK,zA,zA,zA,zA,zA,zK,zK,zA,zA,zA,zA,zA,zA,zK,zA,zA,zA,zA,zA,zA,zA,zA,zA,zA,zA,zA,zA,zA,zA,zA,zA,zA,zA,zA,zA,zA,zA,zA,zA,zA,zA,zA,zA,zA,zA,zA,zA,zA,zA,zA,zA,zA,zA,zA,zA,zA,zA,zA,zA,zA,zA,zA,zA,zA,zA,zA,zA,zA,zA,zA,zA,zA,zA,zA,zA,zA,zA,zA,zA,zA,zA,zA,zK,zK,zK,zA,zA,zA,zA,zA,zA,zA,zA,zA,zA,zA],[oC [zK,zT (tyL Syntax.row),zK],oC [zK,zK,zK,zK],oM (nG Notation.cel),oM (nG Notation.cel),oK,oD,oK,oD,oA Syntax.row,oC [zK,zK,zK,zK,zK,zT (tyL Syntax.row),zK,zK]],none,none⟩
noncomputable def sV:Nrm:=⟨[],[],[zA,zA,zA,zA,zK,zA,zA,zA,zA,zA,zK,zK,zA,zA,zA,zA,zA,zA,zK,zA,zA,zA,zA,zA,zA,zA,zA,zA,zA,zA,zA,zA,zA,zA,zA,zA,zA,zA,zA,zA,zA,zA,zA,zA,zA,zA,zA,zA,zA,zA,zA,zA,zA,zA,zA,zA,zA,zA,zA,zA,zA,zA,zA,zA,zA,zA,zA,zA,zA,zA,zA,zA,zA,zA,zA,zA,zA,zA,zA,zA,zA,zA,zA,zA,zA,zA,zA,zL Syntax.row,zK,zK,zA,zA,zA,zA,zA,zA,zA,zA,zA,zA,zA],[oC [zK,zT (tyL Syntax.row),zK],oC [zK,zK,zK,zK],oM (nG Notation.cel),oM (nG Notation.cel),oK,oD,oK,oC [zK,zK,zK,zK,zK,zT (tyL Syntax.row),zK,zK]],(some 87),none⟩
noncomputable def sW:Nrm:=⟨[],[],[zK,zA,zK,zK,zK,zA,zK,zA,zA,zA,zK,zK,zA,zA,zA,zA,zA,zA,zA,zA,zA,zA,zA,zA,zT (tyL sD),zK,zK,zA,zA,zA,zA,zA,zA,zA,zA,zA,zA,zA,zA,zA,zA,zA,zA,zA,zA,zA,zA,zA,zA,zA,zA,zA,zA,zA,zA,zA,zA,zA,zA,zA,zA,zA,zA,zA,zA,zA,zA,zA,zA,zA,zA,zA,zA,zA,zA,zA,zA,zA,zA,zA,zA,zA,zA,zA,zA,zA,zA,zA,zA,zA,zA,zA,zA,zA,zA,zA,zA,zA,zA,zA,zA],[oC [zK,zT (tyL Syntax.row),zK],oC [zK,zK,zK,zK],oM (nG Notation.cel),oM (nG Notation.cel),oK,oT Notation.cel,oK,oD,oA Syntax.row],none,none⟩
noncomputable def sX:Nrm:=⟨[],[],[zK,zA,zK,zL Syntax.row,zK,zA,zK,zA,zA,zA,zK,zK,zA,zA,zA,zA,zA,zA,zA,zA,zA,zA,zA,zA,zT (tyL sD),zK,zK,zA,zA,zA,zA,zA,zA,zA,zA,zA,zA,zA,zA,zA,zA,zA,zA,zA,zA,zA,zA,zA,zA,zA,zA,zA,zA,zA,zA,zA,zA,zA,zA,zA,zA,zA,zA,zA,zA,zA,zA,zA,zA,zA,zA,zA,zA,zA,zA,zA,zA,zA,zA,zA,zA,zA,zA,zA,zA,zA,zA,zA,zA,zA,zA,zA,zA,zA,zA,zA,zA,zA,zA,zA,zA],[oC [zK,zT (tyL Syntax.row),zK],oC [zK,zK,zK,zK],oM (nG Notation.cel),oM (nG Notation.cel),oK,oT Notation.cel,oK],(some 3),none⟩
noncomputable def nu (mS:Int→(List Syntax)→Int→Int→T3→T3→T5→Option T4) (mQ:Int→(List Syntax)→Int→Int→T3→T3→T5→Option T4) (mR:Notation→Int→(List Syntax)→Int→(List Syntax)→Int→Int→T3→T3→T5→Option T6) (n:Nat):Mach T6 where
 body:=(Tryd.f82.body).getD .skip
 P:=Tryd.prog
 cl:=oJ [(80,entX [.arg 0 [],.obj 0 0 [],.obj 1 0 [],.obj 1 1 [],.obj 1 2 []] nv (uk 0 pV) n5 (qO uI (qO oF pV)) (fun (b:T0) (a:Unit)=>(tJ n) b.1.1 b.1.2.1 b.2.1.1 b.2.2.1 b.2.2.2.1 b.2.2.2.2.1)),(81,su (nG Notation.cel) (pT .i64) (pT .i64) (vA n))]
 cd:=oN []
 qR:=oO [([0,1,0,1,1],sX),([0,1,0,1,1],sW),([0,1,0,1,1,1,1],sV),([0,1,0,1,1,1,1],sU)]
 cut:=oP []
 n:=n
 out:=NC Tryd.prog [.cell 10 36] [] [0,1,2,3,4] 5 ow (qO (nG Syntax.cel) pV)
 xT:=ND [] [0,1,2,3,4] 5 oz (qO (Fq 83 Ft) pV)
 cp:=Kn [(53,entXP true [.arg 0 [],.obj 0 0 [],.obj 1 0 [],.obj 1 1 [],.obj 1 2 []] nI (uk 0 (qO (pT .i64) pV)) pJ pK pL (qO (Fq 83 Ft) pV) (fun (b:T0) (a:(Int×Unit))=>mS a.1 b.1.1 b.1.2.1 b.2.1.1 b.2.2.1 b.2.2.2.1 b.2.2.2.2.1))]
 q6:=nJ [53]
 B1:=nJ []
 B0:=nJ []
theorem wq (mS:Int→(List Syntax)→Int→Int→T3→T3→T5→Option T4) (mQ:Int→(List Syntax)→Int→Int→T3→T3→T5→Option T4) (mR:Notation→Int→(List Syntax)→Int→(List Syntax)→Int→Int→T3→T3→T5→Option T6) (n:Nat):(nu mS mQ mR n).P=Tryd.prog∧(nu mS mQ mR n).cl=oJ [(80,entX [.arg 0 [],.obj 0 0 [],.obj 1 0 [],.obj 1 1 [],.obj 1 2 []] nv (uk 0 pV) n5 (qO uI (qO oF pV)) (fun (b:T0) (a:Unit)=>(tJ n) b.1.1 b.1.2.1 b.2.1.1 b.2.2.1 b.2.2.2.1 b.2.2.2.2.1)),(81,su (nG Notation.cel) (pT .i64) (pT .i64) (vA n))]∧(nu mS mQ mR n).cd=oN []∧(nu mS mQ mR n).qR=oO [([0,1,0,1,1],sX),([0,1,0,1,1],sW),([0,1,0,1,1,1,1],sV),([0,1,0,1,1,1,1],sU)]∧(nu mS mQ mR n).cut=oP []∧(nu mS mQ mR n).n=n∧(nu mS mQ mR n).out=NC Tryd.prog [.cell 10 36] [] [0,1,2,3,4] 5 ow (qO (nG Syntax.cel) pV)∧(nu mS mQ mR n).xT=ND [] [0,1,2,3,4] 5 oz (qO (Fq 83 Ft) pV)∧(nu mS mQ mR n).cp=Kn [(53,entXP true [.arg 0 [],.obj 0 0 [],.obj 1 0 [],.obj 1 1 [],.obj 1 2 []] nI (uk 0 (qO (pT .i64) pV)) pJ pK pL (qO (Fq 83 Ft) pV) (fun (b:T0) (a:(Int×Unit))=>mS a.1 b.1.1 b.1.2.1 b.2.1.1 b.2.2.1 b.2.2.2.1 b.2.2.2.2.1))]∧(nu mS mQ mR n).q6=nJ [53]∧(nu mS mQ mR n).B1=nJ []∧(nu mS mQ mR n).B0=nJ []:=⟨rfl,rfl,rfl,rfl,rfl,rfl,rfl,rfl,rfl,rfl,rfl,rfl⟩
theorem wu (mS:Int→(List Syntax)→Int→Int→T3→T3→T5→Option T4) (mQ:Int→(List Syntax)→Int→Int→T3→T3→T5→Option T4) (mR:Notation→Int→(List Syntax)→Int→(List Syntax)→Int→Int→T3→T3→T5→Option T6) (n:Nat):(nu mS mQ mR n).body=(Tryd.f82.body).getD .skip:=rfl
theorem wv (mS:Int→(List Syntax)→Int→Int→T3→T3→T5→Option T4) (mQ:Int→(List Syntax)→Int→Int→T3→T3→T5→Option T4) (mR:Notation→Int→(List Syntax)→Int→(List Syntax)→Int→Int→T3→T3→T5→Option T6) (n:Nat):wH (nu mS mQ mR n) [0,1,1,1,0,0,1,1,0,0,1,0,1,1]=true:=by kernel_rfl
noncomputable def xC (mS:Int→(List Syntax)→Int→Int→T3→T3→T5→Option T4) (mQ:Int→(List Syntax)→Int→Int→T3→T3→T5→Option T4) (mR:Notation→Int→(List Syntax)→Int→(List Syntax)→Int→Int→T3→T3→T5→Option T6) (n:Nat):{B:(Int→Int→Int→Int→(List Syntax)→Int→Int→T3→T3→T5→(List Syntax)→Int→Str→(List Syntax)→Int→Int→Option T6)→Int→Int→Int→Int→(List Syntax)→Int→Int→T3→T3→T5→(List Syntax)→Int→Str→(List Syntax)→Int→Int→Option T6 // ∀m X0,(∀ (v0:Int) (v1:Int) (v2:Int) (v3:Int) (v4:List Syntax) (v5:Int) (v6:Int) (r2:List (Str×Notation)) (r3:List (Str×Notation)) (r4:List (Str×Bool)) (r8:List Syntax) (v11:Int) (v12:Str) (ON:List Syntax) (OO:Int) (OP:Int) (c8:Nat),c8=r8.length→run (nu mS mQ mR n) [.lq m [0,1,0,1,1,1,1],.q9 2,.cut [1,1,1,1,1],.at [1,1,1,1,1]] ⟨[qA,qA,qA,qA,.int .i64 v0,qA,qA,qA,qA,qA,.ptr 6 0,.int .i64 v1,qA,qA,qA,qA,qA,qA,.ptr 9 0,qA,qA,qA,qA,qA,qA,qA,qA,qA,qA,qA,qA,qA,qA,qA,qA,qA,qA,qA,qA,qA,qA,qA,qA,qA,qA,qA,qA,qA,qA,qA,qA,qA,qA,qA,qA,qA,qA,qA,qA,qA,qA,qA,qA,qA,qA,qA,qA,qA,qA,qA,qA,qA,qA,qA,qA,qA,qA,qA,qA,qA,qA,qA,qA,qA,qA,qA,qA,.acc 8 c8,.int .i64 v2,.int .i64 v3,qA,qA,qA,qA,qA,qA,qA,qA,qA,qA,qA],[.cells [.ptr 1 0,.nY false 8 (mp Syntax.cells v4),.int .i64 v5],.cells [.map 2,.map 3,.map 4,.int .i64 v6],.map (mp (mcT (nG Notation.cel)) r2),.map (mp (mcT (nG Notation.cel)) r3),.map (mp mcB r4),.dead,.cells [.int .i64 0,.str (sb []),.int .i64 0,.nY true 0 [],.nY true 0 [],.nY true 0 [],.int .i64 0,.int .i64 0],.dead,.acc true 8 (mp Syntax.cells r8),.cells [.int .i64 v11,.str (sb v12),.int .i64 0,.nY true 0 [],.nY true 0 [],.nY false 8 (mp Syntax.cells ON),.int .i64 OO,.int .i64 OP]],5,[]⟩=X0 v0 v1 v2 v3 v4 v5 v6 r2 r3 r4 r8 v11 v12 ON OO OP)→ ∀ (v0:Int) (v1:Int) (v2:Int) (v3:Int) (v4:List Syntax) (v5:Int) (v6:Int) (r2:List (Str×Notation)) (r3:List (Str×Notation)) (r4:List (Str×Bool)) (r8:List Syntax) (v11:Int) (v12:Str) (ON:List Syntax) (OO:Int) (OP:Int),run (nu mS mQ mR n) [.at [0,0,1,0,1,1,1,1],.lp m [0,1,0,1,1,1,1],.q9 2,.cut [1,1,1,1,1],.at [1,1,1,1,1]] ⟨[qA,qA,qA,qA,.int .i64 v0,qA,qA,qA,qA,qA,.ptr 6 0,.int .i64 v1,qA,qA,qA,qA,qA,qA,.ptr 9 0,qA,qA,qA,qA,qA,qA,qA,qA,qA,qA,qA,qA,qA,qA,qA,qA,qA,qA,qA,qA,qA,qA,qA,qA,qA,qA,qA,qA,qA,qA,qA,qA,qA,qA,qA,qA,qA,qA,qA,qA,qA,qA,qA,qA,qA,qA,qA,qA,qA,qA,qA,qA,qA,qA,qA,qA,qA,qA,qA,qA,qA,qA,qA,qA,qA,qA,qA,qA,.acc 8 r8.length,.int .i64 v2,.int .i64 v3,qA,qA,qA,qA,qA,qA,qA,qA,qA,qA,qA],[.cells [.ptr 1 0,.nY false 8 (mp Syntax.cells v4),.int .i64 v5],.cells [.map 2,.map 3,.map 4,.int .i64 v6],.map (mp (mcT (nG Notation.cel)) r2),.map (mp (mcT (nG Notation.cel)) r3),.map (mp mcB r4),.dead,.cells [.int .i64 0,.str (sb []),.int .i64 0,.nY true 0 [],.nY true 0 [],.nY true 0 [],.int .i64 0,.int .i64 0],.dead,.acc true 8 (mp Syntax.cells r8),.cells [.int .i64 v11,.str (sb v12),.int .i64 0,.nY true 0 [],.nY true 0 [],.nY false 8 (mp Syntax.cells ON),.int .i64 OO,.int .i64 OP]],5,[]⟩=B X0 v0 v1 v2 v3 v4 v5 v6 r2 r3 r4 r8 v11 v12 ON OO OP}:=by
 apply jo
 intro m X0 ih v0 v1 v2 v3 v4 v5 v6 r2 r3 r4 r8 v11 v12 ON OO OP
 simp (config:={maxSteps:=100000000,implicitDefEqProofs:=false}) only[go_sem,je,jf,iY,iZ,jg,jh,jj,jk,jl,jd,ji,jm,wq,wu,Tryd.f82,jc,mixed,oc,ny,ow,oz,nI,pJ,pK,pL,nv,n5,wv,sU,sV,sW,sX,ih]
 exact rfl
noncomputable def uD (mS:Int→(List Syntax)→Int→Int→T3→T3→T5→Option T4) (mQ:Int→(List Syntax)→Int→Int→T3→T3→T5→Option T4) (mR:Notation→Int→(List Syntax)→Int→(List Syntax)→Int→Int→T3→T3→T5→Option T6) (n:Nat):Nat→Int→Int→Int→Int→(List Syntax)→Int→Int→T3→T3→T5→(List Syntax)→Int→Str→(List Syntax)→Int→Int→Option T6
 |0,_,_,_,_,_,_,_,_,_,_,_,_,_,_,_,_=>none
 |m+1,v0,v1,v2,v3,v4,v5,v6,r2,r3,r4,r8,v11,v12,ON,OO,OP=>(xC mS mQ mR n).1 (uD mS mQ mR n m) v0 v1 v2 v3 v4 v5 v6 r2 r3 r4 r8 v11 v12 ON OO OP
theorem uR (mS:Int→(List Syntax)→Int→Int→T3→T3→T5→Option T4) (mQ:Int→(List Syntax)→Int→Int→T3→T3→T5→Option T4) (mR:Notation→Int→(List Syntax)→Int→(List Syntax)→Int→Int→T3→T3→T5→Option T6) (n:Nat): ∀ (m:Nat),(∀ (v0:Int) (v1:Int) (v2:Int) (v3:Int) (v4:List Syntax) (v5:Int) (v6:Int) (r2:List (Str×Notation)) (r3:List (Str×Notation)) (r4:List (Str×Bool)) (r8:List Syntax) (v11:Int) (v12:Str) (ON:List Syntax) (OO:Int) (OP:Int) (c8:Nat),c8=r8.length→run (nu mS mQ mR n) [.lq m [0,1,0,1,1,1,1],.q9 2,.cut [1,1,1,1,1],.at [1,1,1,1,1]] ⟨[qA,qA,qA,qA,.int .i64 v0,qA,qA,qA,qA,qA,.ptr 6 0,.int .i64 v1,qA,qA,qA,qA,qA,qA,.ptr 9 0,qA,qA,qA,qA,qA,qA,qA,qA,qA,qA,qA,qA,qA,qA,qA,qA,qA,qA,qA,qA,qA,qA,qA,qA,qA,qA,qA,qA,qA,qA,qA,qA,qA,qA,qA,qA,qA,qA,qA,qA,qA,qA,qA,qA,qA,qA,qA,qA,qA,qA,qA,qA,qA,qA,qA,qA,qA,qA,qA,qA,qA,qA,qA,qA,qA,qA,qA,qA,.acc 8 c8,.int .i64 v2,.int .i64 v3,qA,qA,qA,qA,qA,qA,qA,qA,qA,qA,qA],[.cells [.ptr 1 0,.nY false 8 (mp Syntax.cells v4),.int .i64 v5],.cells [.map 2,.map 3,.map 4,.int .i64 v6],.map (mp (mcT (nG Notation.cel)) r2),.map (mp (mcT (nG Notation.cel)) r3),.map (mp mcB r4),.dead,.cells [.int .i64 0,.str (sb []),.int .i64 0,.nY true 0 [],.nY true 0 [],.nY true 0 [],.int .i64 0,.int .i64 0],.dead,.acc true 8 (mp Syntax.cells r8),.cells [.int .i64 v11,.str (sb v12),.int .i64 0,.nY true 0 [],.nY true 0 [],.nY false 8 (mp Syntax.cells ON),.int .i64 OO,.int .i64 OP]],5,[]⟩=uD mS mQ mR n m v0 v1 v2 v3 v4 v5 v6 r2 r3 r4 r8 v11 v12 ON OO OP)
 |0=>by intros;exact nK
 |m+1=>by
  have ih:=uR mS mQ mR n m
  intro v0 v1 v2 v3 v4 v5 v6 r2 r3 r4 r8 v11 v12 ON OO OP c8 ec8
  subst ec8
  rw[nL]
  exact (xC mS mQ mR n).2 m _ ih v0 v1 v2 v3 v4 v5 v6 r2 r3 r4 r8 v11 v12 ON OO OP
noncomputable def xD (mS:Int→(List Syntax)→Int→Int→T3→T3→T5→Option T4) (mQ:Int→(List Syntax)→Int→Int→T3→T3→T5→Option T4) (mR:Notation→Int→(List Syntax)→Int→(List Syntax)→Int→Int→T3→T3→T5→Option T6) (n:Nat):{B:(Int→Int→(List Syntax)→Int→Int→(List Syntax)→Int→Int→T3→T3→T5→Int→Str→(List Syntax)→Int→Int→Option T6)→Int→Int→(List Syntax)→Int→Int→(List Syntax)→Int→Int→T3→T3→T5→Int→Str→(List Syntax)→Int→Int→Option T6 // ∀m X0,(∀ (v0:Int) (v1:Int) (v2:List Syntax) (v3:Int) (v4:Int) (v5:List Syntax) (v6:Int) (v7:Int) (r2:List (Str×Notation)) (r3:List (Str×Notation)) (r4:List (Str×Bool)) (v11:Int) (v12:Str) (ON:List Syntax) (OO:Int) (OP:Int),run (nu mS mQ mR n) [.lq m [0,1,0,1,1,1,1],.q9 2,.cut [1,1,1,1,1],.at [1,1,1,1,1]] ⟨[qA,qA,qA,qA,.int .i64 v0,qA,qA,qA,qA,qA,.ptr 6 0,.int .i64 v1,qA,qA,qA,qA,qA,qA,.ptr 7 0,qA,qA,qA,qA,qA,qA,qA,qA,qA,qA,qA,qA,qA,qA,qA,qA,qA,qA,qA,qA,qA,qA,qA,qA,qA,qA,qA,qA,qA,qA,qA,qA,qA,qA,qA,qA,qA,qA,qA,qA,qA,qA,qA,qA,qA,qA,qA,qA,qA,qA,qA,qA,qA,qA,qA,qA,qA,qA,qA,qA,qA,qA,qA,qA,qA,qA,qA,qA,.nY true 8 (mp Syntax.cells v2),.int .i64 v3,.int .i64 v4,qA,qA,qA,qA,qA,qA,qA,qA,qA,qA,qA],[.cells [.ptr 1 0,.nY false 8 (mp Syntax.cells v5),.int .i64 v6],.cells [.map 2,.map 3,.map 4,.int .i64 v7],.map (mp (mcT (nG Notation.cel)) r2),.map (mp (mcT (nG Notation.cel)) r3),.map (mp mcB r4),.dead,.cells [.int .i64 0,.str (sb []),.int .i64 0,.nY true 0 [],.nY true 0 [],.nY true 0 [],.int .i64 0,.int .i64 0],.cells [.int .i64 v11,.str (sb v12),.int .i64 0,.nY true 0 [],.nY true 0 [],.nY false 8 (mp Syntax.cells ON),.int .i64 OO,.int .i64 OP]],5,[]⟩=X0 v0 v1 v2 v3 v4 v5 v6 v7 r2 r3 r4 v11 v12 ON OO OP)→ ∀ (v0:Int) (v1:Int) (v2:List Syntax) (v3:Int) (v4:Int) (v5:List Syntax) (v6:Int) (v7:Int) (r2:List (Str×Notation)) (r3:List (Str×Notation)) (r4:List (Str×Bool)) (v11:Int) (v12:Str) (ON:List Syntax) (OO:Int) (OP:Int),run (nu mS mQ mR n) [.at [0,0,1,0,1,1,1,1],.lp m [0,1,0,1,1,1,1],.q9 2,.cut [1,1,1,1,1],.at [1,1,1,1,1]] ⟨[qA,qA,qA,qA,.int .i64 v0,qA,qA,qA,qA,qA,.ptr 6 0,.int .i64 v1,qA,qA,qA,qA,qA,qA,.ptr 7 0,qA,qA,qA,qA,qA,qA,qA,qA,qA,qA,qA,qA,qA,qA,qA,qA,qA,qA,qA,qA,qA,qA,qA,qA,qA,qA,qA,qA,qA,qA,qA,qA,qA,qA,qA,qA,qA,qA,qA,qA,qA,qA,qA,qA,qA,qA,qA,qA,qA,qA,qA,qA,qA,qA,qA,qA,qA,qA,qA,qA,qA,qA,qA,qA,qA,qA,qA,qA,.nY true 8 (mp Syntax.cells v2),.int .i64 v3,.int .i64 v4,qA,qA,qA,qA,qA,qA,qA,qA,qA,qA,qA],[.cells [.ptr 1 0,.nY false 8 (mp Syntax.cells v5),.int .i64 v6],.cells [.map 2,.map 3,.map 4,.int .i64 v7],.map (mp (mcT (nG Notation.cel)) r2),.map (mp (mcT (nG Notation.cel)) r3),.map (mp mcB r4),.dead,.cells [.int .i64 0,.str (sb []),.int .i64 0,.nY true 0 [],.nY true 0 [],.nY true 0 [],.int .i64 0,.int .i64 0],.cells [.int .i64 v11,.str (sb v12),.int .i64 0,.nY true 0 [],.nY true 0 [],.nY false 8 (mp Syntax.cells ON),.int .i64 OO,.int .i64 OP]],5,[]⟩=B X0 v0 v1 v2 v3 v4 v5 v6 v7 r2 r3 r4 v11 v12 ON OO OP}:=by
 apply jo
 intro m X0 ih v0 v1 v2 v3 v4 v5 v6 v7 r2 r3 r4 v11 v12 ON OO OP
 simp (config:={maxSteps:=100000000,implicitDefEqProofs:=false}) only[go_sem,je,jf,iY,iZ,jg,jh,jj,jk,jl,jd,ji,jm,wq,wu,Tryd.f82,jc,mixed,oc,ny,ow,oz,nI,pJ,pK,pL,nv,n5,wv,sU,sV,sW,sX,uR mS mQ mR n,ih]
 exact rfl
noncomputable def uE (mS:Int→(List Syntax)→Int→Int→T3→T3→T5→Option T4) (mQ:Int→(List Syntax)→Int→Int→T3→T3→T5→Option T4) (mR:Notation→Int→(List Syntax)→Int→(List Syntax)→Int→Int→T3→T3→T5→Option T6) (n:Nat):Nat→Int→Int→(List Syntax)→Int→Int→(List Syntax)→Int→Int→T3→T3→T5→Int→Str→(List Syntax)→Int→Int→Option T6
 |0,_,_,_,_,_,_,_,_,_,_,_,_,_,_,_,_=>none
 |m+1,v0,v1,v2,v3,v4,v5,v6,v7,r2,r3,r4,v11,v12,ON,OO,OP=>(xD mS mQ mR n).1 (uE mS mQ mR n m) v0 v1 v2 v3 v4 v5 v6 v7 r2 r3 r4 v11 v12 ON OO OP
theorem wz (mS:Int→(List Syntax)→Int→Int→T3→T3→T5→Option T4) (mQ:Int→(List Syntax)→Int→Int→T3→T3→T5→Option T4) (mR:Notation→Int→(List Syntax)→Int→(List Syntax)→Int→Int→T3→T3→T5→Option T6) (n:Nat): ∀ (m:Nat),(∀ (v0:Int) (v1:Int) (v2:List Syntax) (v3:Int) (v4:Int) (v5:List Syntax) (v6:Int) (v7:Int) (r2:List (Str×Notation)) (r3:List (Str×Notation)) (r4:List (Str×Bool)) (v11:Int) (v12:Str) (ON:List Syntax) (OO:Int) (OP:Int),run (nu mS mQ mR n) [.lq m [0,1,0,1,1,1,1],.q9 2,.cut [1,1,1,1,1],.at [1,1,1,1,1]] ⟨[qA,qA,qA,qA,.int .i64 v0,qA,qA,qA,qA,qA,.ptr 6 0,.int .i64 v1,qA,qA,qA,qA,qA,qA,.ptr 7 0,qA,qA,qA,qA,qA,qA,qA,qA,qA,qA,qA,qA,qA,qA,qA,qA,qA,qA,qA,qA,qA,qA,qA,qA,qA,qA,qA,qA,qA,qA,qA,qA,qA,qA,qA,qA,qA,qA,qA,qA,qA,qA,qA,qA,qA,qA,qA,qA,qA,qA,qA,qA,qA,qA,qA,qA,qA,qA,qA,qA,qA,qA,qA,qA,qA,qA,qA,qA,.nY true 8 (mp Syntax.cells v2),.int .i64 v3,.int .i64 v4,qA,qA,qA,qA,qA,qA,qA,qA,qA,qA,qA],[.cells [.ptr 1 0,.nY false 8 (mp Syntax.cells v5),.int .i64 v6],.cells [.map 2,.map 3,.map 4,.int .i64 v7],.map (mp (mcT (nG Notation.cel)) r2),.map (mp (mcT (nG Notation.cel)) r3),.map (mp mcB r4),.dead,.cells [.int .i64 0,.str (sb []),.int .i64 0,.nY true 0 [],.nY true 0 [],.nY true 0 [],.int .i64 0,.int .i64 0],.cells [.int .i64 v11,.str (sb v12),.int .i64 0,.nY true 0 [],.nY true 0 [],.nY false 8 (mp Syntax.cells ON),.int .i64 OO,.int .i64 OP]],5,[]⟩=uE mS mQ mR n m v0 v1 v2 v3 v4 v5 v6 v7 r2 r3 r4 v11 v12 ON OO OP)
 |0=>by intros;exact nK
 |m+1=>by
  have ih:=wz mS mQ mR n m
  intro v0 v1 v2 v3 v4 v5 v6 v7 r2 r3 r4 v11 v12 ON OO OP
  rw[nL]
  exact (xD mS mQ mR n).2 m _ ih v0 v1 v2 v3 v4 v5 v6 v7 r2 r3 r4 v11 v12 ON OO OP
noncomputable def sY (mS:Int→(List Syntax)→Int→Int→T3→T3→T5→Option T4) (mQ:Int→(List Syntax)→Int→Int→T3→T3→T5→Option T4) (mR:Notation→Int→(List Syntax)→Int→(List Syntax)→Int→Int→T3→T3→T5→Option T6) (n:Nat):{B:(Int→Int→Int→(List Str)→Int→Int→(List Syntax)→Int→Int→T3→T3→T5→Notation→(List Syntax)→Option T6)→Int→Int→Int→(List Str)→Int→Int→(List Syntax)→Int→Int→T3→T3→T5→Notation→(List Syntax)→Option T6 // ∀m X0,(∀ (v0:Int) (v1:Int) (v2:Int) (v3:List Str) (v4:Int) (v5:Int) (v6:List Syntax) (v7:Int) (v8:Int) (r2:List (Str×Notation)) (r3:List (Str×Notation)) (r4:List (Str×Bool)) (o5:Notation) (r8:List Syntax) (c8:Nat),c8=r8.length→run (nu mS mQ mR n) [.lq m [0,1,0,1,1],.q9 0,.cut [1,1,1],.at [1,1,1]] ⟨[.ptr 0 0,qA,.int .i64 v0,.acc 8 c8,.int .i64 v1,qA,.ptr 5 0,qA,qA,qA,.ptr 6 0,.int .i64 v2,qA,qA,qA,qA,qA,qA,qA,qA,qA,qA,qA,qA,.nY false 1 (mp pP v3),.int .i64 v4,.int .i64 v5,qA,qA,qA,qA,qA,qA,qA,qA,qA,qA,qA,qA,qA,qA,qA,qA,qA,qA,qA,qA,qA,qA,qA,qA,qA,qA,qA,qA,qA,qA,qA,qA,qA,qA,qA,qA,qA,qA,qA,qA,qA,qA,qA,qA,qA,qA,qA,qA,qA,qA,qA,qA,qA,qA,qA,qA,qA,qA,qA,qA,qA,qA,qA,qA,qA,qA,qA,qA,qA,qA,qA,qA,qA,qA],[.cells [.ptr 1 0,.nY false 8 (mp Syntax.cells v6),.int .i64 v7],.cells [.map 2,.map 3,.map 4,.int .i64 v8],.map (mp (mcT (nG Notation.cel)) r2),.map (mp (mcT (nG Notation.cel)) r3),.map (mp mcB r4),.cells (Notation.cells o5),.cells [.int .i64 0,.str (sb []),.int .i64 0,.nY true 0 [],.nY true 0 [],.nY true 0 [],.int .i64 0,.int .i64 0],.dead,.acc true 8 (mp Syntax.cells r8)],5,[]⟩=X0 v0 v1 v2 v3 v4 v5 v6 v7 v8 r2 r3 r4 o5 r8)→ ∀ (v0:Int) (v1:Int) (v2:Int) (v3:List Str) (v4:Int) (v5:Int) (v6:List Syntax) (v7:Int) (v8:Int) (r2:List (Str×Notation)) (r3:List (Str×Notation)) (r4:List (Str×Bool)) (o5:Notation) (r8:List Syntax),run (nu mS mQ mR n) [.at [0,0,1,0,1,1],.lp m [0,1,0,1,1],.q9 0,.cut [1,1,1],.at [1,1,1]] ⟨[.ptr 0 0,qA,.int .i64 v0,.acc 8 r8.length,.int .i64 v1,qA,.ptr 5 0,qA,qA,qA,.ptr 6 0,.int .i64 v2,qA,qA,qA,qA,qA,qA,qA,qA,qA,qA,qA,qA,.nY false 1 (mp pP v3),.int .i64 v4,.int .i64 v5,qA,qA,qA,qA,qA,qA,qA,qA,qA,qA,qA,qA,qA,qA,qA,qA,qA,qA,qA,qA,qA,qA,qA,qA,qA,qA,qA,qA,qA,qA,qA,qA,qA,qA,qA,qA,qA,qA,qA,qA,qA,qA,qA,qA,qA,qA,qA,qA,qA,qA,qA,qA,qA,qA,qA,qA,qA,qA,qA,qA,qA,qA,qA,qA,qA,qA,qA,qA,qA,qA,qA,qA,qA,qA],[.cells [.ptr 1 0,.nY false 8 (mp Syntax.cells v6),.int .i64 v7],.cells [.map 2,.map 3,.map 4,.int .i64 v8],.map (mp (mcT (nG Notation.cel)) r2),.map (mp (mcT (nG Notation.cel)) r3),.map (mp mcB r4),.cells (Notation.cells o5),.cells [.int .i64 0,.str (sb []),.int .i64 0,.nY true 0 [],.nY true 0 [],.nY true 0 [],.int .i64 0,.int .i64 0],.dead,.acc true 8 (mp Syntax.cells r8)],5,[]⟩=B X0 v0 v1 v2 v3 v4 v5 v6 v7 v8 r2 r3 r4 o5 r8}:=by
 apply jo
 intro m X0 ih v0 v1 v2 v3 v4 v5 v6 v7 v8 r2 r3 r4 o5 r8
 simp (config:={maxSteps:=100000000,implicitDefEqProofs:=false}) only[go_sem,je,jf,iY,iZ,jg,jh,jj,jk,jl,jd,ji,jm,wq,wu,Tryd.f82,jc,mixed,oc,ny,ow,oz,nI,pJ,pK,pL,nv,n5,wv,sU,sV,sW,sX,uR mS mQ mR n,wz mS mQ mR n,ih]
 exact rfl
noncomputable def sr (mS:Int→(List Syntax)→Int→Int→T3→T3→T5→Option T4) (mQ:Int→(List Syntax)→Int→Int→T3→T3→T5→Option T4) (mR:Notation→Int→(List Syntax)→Int→(List Syntax)→Int→Int→T3→T3→T5→Option T6) (n:Nat):Nat→Int→Int→Int→(List Str)→Int→Int→(List Syntax)→Int→Int→T3→T3→T5→Notation→(List Syntax)→Option T6
 |0,_,_,_,_,_,_,_,_,_,_,_,_,_,_=>none
 |m+1,v0,v1,v2,v3,v4,v5,v6,v7,v8,r2,r3,r4,o5,r8=>(sY mS mQ mR n).1 (sr mS mQ mR n m) v0 v1 v2 v3 v4 v5 v6 v7 v8 r2 r3 r4 o5 r8
theorem yO (mS:Int→(List Syntax)→Int→Int→T3→T3→T5→Option T4) (mQ:Int→(List Syntax)→Int→Int→T3→T3→T5→Option T4) (mR:Notation→Int→(List Syntax)→Int→(List Syntax)→Int→Int→T3→T3→T5→Option T6) (n:Nat): ∀ (m:Nat),(∀ (v0:Int) (v1:Int) (v2:Int) (v3:List Str) (v4:Int) (v5:Int) (v6:List Syntax) (v7:Int) (v8:Int) (r2:List (Str×Notation)) (r3:List (Str×Notation)) (r4:List (Str×Bool)) (o5:Notation) (r8:List Syntax) (c8:Nat),c8=r8.length→run (nu mS mQ mR n) [.lq m [0,1,0,1,1],.q9 0,.cut [1,1,1],.at [1,1,1]] ⟨[.ptr 0 0,qA,.int .i64 v0,.acc 8 c8,.int .i64 v1,qA,.ptr 5 0,qA,qA,qA,.ptr 6 0,.int .i64 v2,qA,qA,qA,qA,qA,qA,qA,qA,qA,qA,qA,qA,.nY false 1 (mp pP v3),.int .i64 v4,.int .i64 v5,qA,qA,qA,qA,qA,qA,qA,qA,qA,qA,qA,qA,qA,qA,qA,qA,qA,qA,qA,qA,qA,qA,qA,qA,qA,qA,qA,qA,qA,qA,qA,qA,qA,qA,qA,qA,qA,qA,qA,qA,qA,qA,qA,qA,qA,qA,qA,qA,qA,qA,qA,qA,qA,qA,qA,qA,qA,qA,qA,qA,qA,qA,qA,qA,qA,qA,qA,qA,qA,qA,qA,qA,qA,qA],[.cells [.ptr 1 0,.nY false 8 (mp Syntax.cells v6),.int .i64 v7],.cells [.map 2,.map 3,.map 4,.int .i64 v8],.map (mp (mcT (nG Notation.cel)) r2),.map (mp (mcT (nG Notation.cel)) r3),.map (mp mcB r4),.cells (Notation.cells o5),.cells [.int .i64 0,.str (sb []),.int .i64 0,.nY true 0 [],.nY true 0 [],.nY true 0 [],.int .i64 0,.int .i64 0],.dead,.acc true 8 (mp Syntax.cells r8)],5,[]⟩=sr mS mQ mR n m v0 v1 v2 v3 v4 v5 v6 v7 v8 r2 r3 r4 o5 r8)
 |0=>by intros;exact nK
 |m+1=>by
  have ih:=yO mS mQ mR n m
  intro v0 v1 v2 v3 v4 v5 v6 v7 v8 r2 r3 r4 o5 r8 c8 ec8
  subst ec8
  rw[nL]
  exact (sY mS mQ mR n).2 m _ ih v0 v1 v2 v3 v4 v5 v6 v7 v8 r2 r3 r4 o5 r8
noncomputable def sZ (mS:Int→(List Syntax)→Int→Int→T3→T3→T5→Option T4) (mQ:Int→(List Syntax)→Int→Int→T3→T3→T5→Option T4) (mR:Notation→Int→(List Syntax)→Int→(List Syntax)→Int→Int→T3→T3→T5→Option T6) (n:Nat):{B:Nat→(Int→(List Syntax)→Int→Int→(List Str)→Int→Int→(List Syntax)→Int→Int→T3→T3→T5→Notation→Option T6)→Int→(List Syntax)→Int→Int→(List Str)→Int→Int→(List Syntax)→Int→Int→T3→T3→T5→Notation→Option T6 // ∀m X0,(∀ (v0:Int) (v1:List Syntax) (v2:Int) (v3:Int) (v4:List Str) (v5:Int) (v6:Int) (v7:List Syntax) (v8:Int) (v9:Int) (r2:List (Str×Notation)) (r3:List (Str×Notation)) (r4:List (Str×Bool)) (o5:Notation),run (nu mS mQ mR n) [.lq m [0,1,0,1,1],.q9 0,.cut [1,1,1],.at [1,1,1]] ⟨[.ptr 0 0,qA,.int .i64 v0,.nY true 8 (mp Syntax.cells v1),.int .i64 v2,qA,.ptr 5 0,qA,qA,qA,.ptr 6 0,.int .i64 v3,qA,qA,qA,qA,qA,qA,qA,qA,qA,qA,qA,qA,.nY false 1 (mp pP v4),.int .i64 v5,.int .i64 v6,qA,qA,qA,qA,qA,qA,qA,qA,qA,qA,qA,qA,qA,qA,qA,qA,qA,qA,qA,qA,qA,qA,qA,qA,qA,qA,qA,qA,qA,qA,qA,qA,qA,qA,qA,qA,qA,qA,qA,qA,qA,qA,qA,qA,qA,qA,qA,qA,qA,qA,qA,qA,qA,qA,qA,qA,qA,qA,qA,qA,qA,qA,qA,qA,qA,qA,qA,qA,qA,qA,qA,qA,qA,qA],[.cells [.ptr 1 0,.nY false 8 (mp Syntax.cells v7),.int .i64 v8],.cells [.map 2,.map 3,.map 4,.int .i64 v9],.map (mp (mcT (nG Notation.cel)) r2),.map (mp (mcT (nG Notation.cel)) r3),.map (mp mcB r4),.cells (Notation.cells o5),.cells [.int .i64 0,.str (sb []),.int .i64 0,.nY true 0 [],.nY true 0 [],.nY true 0 [],.int .i64 0,.int .i64 0]],5,[]⟩=X0 v0 v1 v2 v3 v4 v5 v6 v7 v8 v9 r2 r3 r4 o5)→ ∀ (v0:Int) (v1:List Syntax) (v2:Int) (v3:Int) (v4:List Str) (v5:Int) (v6:Int) (v7:List Syntax) (v8:Int) (v9:Int) (r2:List (Str×Notation)) (r3:List (Str×Notation)) (r4:List (Str×Bool)) (o5:Notation),run (nu mS mQ mR n) [.at [0,0,1,0,1,1],.lp m [0,1,0,1,1],.q9 0,.cut [1,1,1],.at [1,1,1]] ⟨[.ptr 0 0,qA,.int .i64 v0,.nY true 8 (mp Syntax.cells v1),.int .i64 v2,qA,.ptr 5 0,qA,qA,qA,.ptr 6 0,.int .i64 v3,qA,qA,qA,qA,qA,qA,qA,qA,qA,qA,qA,qA,.nY false 1 (mp pP v4),.int .i64 v5,.int .i64 v6,qA,qA,qA,qA,qA,qA,qA,qA,qA,qA,qA,qA,qA,qA,qA,qA,qA,qA,qA,qA,qA,qA,qA,qA,qA,qA,qA,qA,qA,qA,qA,qA,qA,qA,qA,qA,qA,qA,qA,qA,qA,qA,qA,qA,qA,qA,qA,qA,qA,qA,qA,qA,qA,qA,qA,qA,qA,qA,qA,qA,qA,qA,qA,qA,qA,qA,qA,qA,qA,qA,qA,qA,qA,qA],[.cells [.ptr 1 0,.nY false 8 (mp Syntax.cells v7),.int .i64 v8],.cells [.map 2,.map 3,.map 4,.int .i64 v9],.map (mp (mcT (nG Notation.cel)) r2),.map (mp (mcT (nG Notation.cel)) r3),.map (mp mcB r4),.cells (Notation.cells o5),.cells [.int .i64 0,.str (sb []),.int .i64 0,.nY true 0 [],.nY true 0 [],.nY true 0 [],.int .i64 0,.int .i64 0]],5,[]⟩=B m X0 v0 v1 v2 v3 v4 v5 v6 v7 v8 v9 r2 r3 r4 o5}:=by
 apply jo
 intro m X0 ih v0 v1 v2 v3 v4 v5 v6 v7 v8 v9 r2 r3 r4 o5
 simp (config:={maxSteps:=100000000,implicitDefEqProofs:=false}) only[go_sem,je,jf,iY,iZ,jg,jh,jj,jk,jl,jd,ji,jm,wq,wu,Tryd.f82,jc,mixed,oc,ny,ow,oz,nI,pJ,pK,pL,nv,n5,wv,sU,sV,sW,sX,uR mS mQ mR n,wz mS mQ mR n,yO mS mQ mR n,ih]
 exact rfl
noncomputable def rj (mS:Int→(List Syntax)→Int→Int→T3→T3→T5→Option T4) (mQ:Int→(List Syntax)→Int→Int→T3→T3→T5→Option T4) (mR:Notation→Int→(List Syntax)→Int→(List Syntax)→Int→Int→T3→T3→T5→Option T6) (n:Nat):Nat→Int→(List Syntax)→Int→Int→(List Str)→Int→Int→(List Syntax)→Int→Int→T3→T3→T5→Notation→Option T6
 |0,_,_,_,_,_,_,_,_,_,_,_,_,_,_=>none
 |m+1,v0,v1,v2,v3,v4,v5,v6,v7,v8,v9,r2,r3,r4,o5=>(sZ mS mQ mR n).1 m (rj mS mQ mR n m) v0 v1 v2 v3 v4 v5 v6 v7 v8 v9 r2 r3 r4 o5
theorem BN (mS:Int→(List Syntax)→Int→Int→T3→T3→T5→Option T4) (mQ:Int→(List Syntax)→Int→Int→T3→T3→T5→Option T4) (mR:Notation→Int→(List Syntax)→Int→(List Syntax)→Int→Int→T3→T3→T5→Option T6) (n:Nat): ∀ (m:Nat),(∀ (v0:Int) (v1:List Syntax) (v2:Int) (v3:Int) (v4:List Str) (v5:Int) (v6:Int) (v7:List Syntax) (v8:Int) (v9:Int) (r2:List (Str×Notation)) (r3:List (Str×Notation)) (r4:List (Str×Bool)) (o5:Notation),run (nu mS mQ mR n) [.lq m [0,1,0,1,1],.q9 0,.cut [1,1,1],.at [1,1,1]] ⟨[.ptr 0 0,qA,.int .i64 v0,.nY true 8 (mp Syntax.cells v1),.int .i64 v2,qA,.ptr 5 0,qA,qA,qA,.ptr 6 0,.int .i64 v3,qA,qA,qA,qA,qA,qA,qA,qA,qA,qA,qA,qA,.nY false 1 (mp pP v4),.int .i64 v5,.int .i64 v6,qA,qA,qA,qA,qA,qA,qA,qA,qA,qA,qA,qA,qA,qA,qA,qA,qA,qA,qA,qA,qA,qA,qA,qA,qA,qA,qA,qA,qA,qA,qA,qA,qA,qA,qA,qA,qA,qA,qA,qA,qA,qA,qA,qA,qA,qA,qA,qA,qA,qA,qA,qA,qA,qA,qA,qA,qA,qA,qA,qA,qA,qA,qA,qA,qA,qA,qA,qA,qA,qA,qA,qA,qA,qA],[.cells [.ptr 1 0,.nY false 8 (mp Syntax.cells v7),.int .i64 v8],.cells [.map 2,.map 3,.map 4,.int .i64 v9],.map (mp (mcT (nG Notation.cel)) r2),.map (mp (mcT (nG Notation.cel)) r3),.map (mp mcB r4),.cells (Notation.cells o5),.cells [.int .i64 0,.str (sb []),.int .i64 0,.nY true 0 [],.nY true 0 [],.nY true 0 [],.int .i64 0,.int .i64 0]],5,[]⟩=rj mS mQ mR n m v0 v1 v2 v3 v4 v5 v6 v7 v8 v9 r2 r3 r4 o5)
 |0=>by intros;exact nK
 |m+1=>by
  have ih:=BN mS mQ mR n m
  intro v0 v1 v2 v3 v4 v5 v6 v7 v8 v9 r2 r3 r4 o5
  rw[nL]
  exact (sZ mS mQ mR n).2 m _ ih v0 v1 v2 v3 v4 v5 v6 v7 v8 v9 r2 r3 r4 o5
noncomputable def AP (mS:Int→(List Syntax)→Int→Int→T3→T3→T5→Option T4) (mQ:Int→(List Syntax)→Int→Int→T3→T3→T5→Option T4) (mR:Notation→Int→(List Syntax)→Int→(List Syntax)→Int→Int→T3→T3→T5→Option T6) (n:Nat):{B:Notation→Int→(List Syntax)→Int→(List Syntax)→Int→Int→T3→T3→T5→Option T6 // ∀ (a0:Notation) (a1:Int) (a2:(List Syntax)) (a3:Int) (o0:(List Syntax)) (o1:Int) (o2:Int) (o3:T3) (o4:T3) (o5:T5),run (nu mS mQ mR n) [.at []] {slots:=(oc.enc (ny.lens ((o0,o1,()),(o2,()),o3,o4,o5,())) (a0,a1,a2,a3,()))++jq (101-(oc.enc (ny.lens ((o0,o1,()),(o2,()),o3,o4,o5,())) (a0,a1,a2,a3,())).length) qA,heap:=(ny.enc (ny.lens ((o0,o1,()),(o2,()),o3,o4,o5,())) ((o0,o1,()),(o2,()),o3,o4,o5,())),low:=(ny.enc (ny.lens ((o0,o1,()),(o2,()),o3,o4,o5,())) ((o0,o1,()),(o2,()),o3,o4,o5,())).length}=B a0 a1 a2 a3 o0 o1 o2 o3 o4 o5}:=by
 apply jo
 intro a0 a1 a2 a3 o0 o1 o2 o3 o4 o5
 simp (config:={maxSteps:=100000000,implicitDefEqProofs:=false}) only[go_sem,je,jf,iY,iZ,jg,jh,jj,jk,jl,jd,ji,jm,wq,wu,Tryd.f82,jc,mixed,oc,ny,ow,oz,nI,pJ,pK,pL,nv,n5,wv,sU,sV,sW,sX,uR mS mQ mR n,wz mS mQ mR n,yO mS mQ mR n,BN mS mQ mR n]
 exact rfl
mutual
noncomputable def nr:Nat→Int→(List Syntax)→Int→Int→T3→T3→T5→Option T4
 |0,_,_,_,_,_,_,_=>none
 |n+1,a0,o0,o1,o2,o3,o4,o5=>(yp (nr n) (m8 n) (nN n) n).1 a0 o0 o1 o2 o3 o4 o5
noncomputable def m8:Nat→Int→(List Syntax)→Int→Int→T3→T3→T5→Option T4
 |0,_,_,_,_,_,_,_=>none
 |n+1,a0,o0,o1,o2,o3,o4,o5=>(sF (nr n) (m8 n) (nN n) n).1 a0 o0 o1 o2 o3 o4 o5
noncomputable def nN:Nat→Notation→Int→(List Syntax)→Int→(List Syntax)→Int→Int→T3→T3→T5→Option T6
 |0,_,_,_,_,_,_,_,_,_,_=>none
 |n+1,a0,a1,a2,a3,o0,o1,o2,o3,o4,o5=>(AP (nr n) (m8 n) (nN n) n).1 a0 a1 a2 a3 o0 o1 o2 o3 o4 o5
end
mutual
theorem xE: ∀ (n:Nat) (a0:Int) (o0:(List Syntax)) (o1:Int) (o2:Int) (o3:T3) (o4:T3) (o5:T5) (r:T4),nr n a0 o0 o1 o2 o3 o4 o5=some r→FnP Tryd.prog 53 ((uk 0 (qO (pT .i64) pV)).enc (nI.lens ((o0,o1,()),(o2,()),o3,o4,o5,())) (a0,())) (nI.enc (nI.lens ((o0,o1,()),(o2,()),o3,o4,o5,())) ((o0,o1,()),(o2,()),o3,o4,o5,())) (enP true pJ pK pL (qO (Fq 83 Ft) pV) r)
 |0,_,_,_,_,_,_,_,_,h=>by simp only[nr] at h;cases h
 |n+1,a0,o0,o1,o2,o3,o4,o5,r,h=>by
  simp only[nr] at h
  have An:=xE n
  have yP:=yQ n
  have vK:=Ao n
  exact V1 (p1:=[]) (p2:=[]) (b1:=[0,1,2,3,4]) (b2:=[0,1,2,3,4]) (M:=pE (nr n) (m8 n) (nN n) n) ⟨(mZ (B5 (fun b a r h=>(Ci n) b.1.1 b.1.2.1 b.2.1.1 b.2.2.1 b.2.2.2.1 b.2.2.2.2.1 r h)) (mZ (sI (Cb n)) m5)),m6,nT _,nU _,oS,oQ,(zg (DC (fun b a r h=>(yP) a.1 b.1.1 b.1.2.1 b.2.1.1 b.2.2.1 b.2.2.2.1 b.2.2.2.2.1 r h)) (zg (DC (fun b a r h=>(vK) a.1 a.2.1 a.2.2.1 a.2.2.2.1 b.1.1 b.1.2.1 b.2.1.1 b.2.2.1 b.2.2.2.1 b.2.2.2.2.1 r h)) Di)),oX⟩ Tryd.func53 rfl rfl (sP (jr (of_decide_eq_true (by kernel_rfl)) (jt (nI.sz _ _).symm)) _ ((uk 0 (qO (pT .i64) pV)).nb _ _)) (fun x hx=>uC (jr (of_decide_eq_true (by kernel_rfl)) (jt (nI.sz _ _).symm)) _ (nI.nb _ _ x hx)) Tryd.ntmps53 Tryd.results53 (low:=5) (by rfl) (by rfl) (fun b a=>⟨_,rfl⟩) rfl rfl (((yp (nr n) (m8 n) (nN n) n).2 a0 o0 o1 o2 o3 o4 o5).trans h)
theorem yQ: ∀ (n:Nat) (a0:Int) (o0:(List Syntax)) (o1:Int) (o2:Int) (o3:T3) (o4:T3) (o5:T5) (r:T4),m8 n a0 o0 o1 o2 o3 o4 o5=some r→FnP Tryd.prog 79 ((uk 0 (qO (pT .i64) pV)).enc (n7.lens ((o0,o1,()),(o2,()),o3,o4,o5,())) (a0,())) (n7.enc (n7.lens ((o0,o1,()),(o2,()),o3,o4,o5,())) ((o0,o1,()),(o2,()),o3,o4,o5,())) (enP true qX qY qZ (qO (Fq 83 Ft) pV) r)
 |0,_,_,_,_,_,_,_,_,h=>by simp only[m8] at h;cases h
 |n+1,a0,o0,o1,o2,o3,o4,o5,r,h=>by
  simp only[m8] at h
  have An:=xE n
  have yP:=yQ n
  have vK:=Ao n
  exact V1 (p1:=[]) (p2:=[]) (b1:=[0,1,2,3,4]) (b2:=[0,1,2,3,4]) (M:=m4 (nr n) (m8 n) (nN n) n) ⟨(mZ (pZ (zj n)) m5),m6,nT _,nU _,oS,oQ,(zg (DC (fun b a r h=>(vK) a.1 a.2.1 a.2.2.1 a.2.2.2.1 b.1.1 b.1.2.1 b.2.1.1 b.2.2.1 b.2.2.2.1 b.2.2.2.2.1 r h)) Di),(Nz (Yu (fun b a r h=>(vK) a.1 a.2.1 a.2.2.1 a.2.2.2.1 b.1.1 b.1.2.1 b.2.1.1 b.2.2.1 b.2.2.2.1 b.2.2.2.2.1 r h)) PF)⟩ Tryd.func79 rfl rfl (sP (jr (of_decide_eq_true (by kernel_rfl)) (jt (n7.sz _ _).symm)) _ ((uk 0 (qO (pT .i64) pV)).nb _ _)) (fun x hx=>uC (jr (of_decide_eq_true (by kernel_rfl)) (jt (n7.sz _ _).symm)) _ (n7.nb _ _ x hx)) Tryd.ntmps79 Tryd.results79 (low:=5) (by rfl) (by rfl) (fun b a=>⟨_,rfl⟩) rfl rfl (((sF (nr n) (m8 n) (nN n) n).2 a0 o0 o1 o2 o3 o4 o5).trans h)
theorem Ao: ∀ (n:Nat) (a0:Notation) (a1:Int) (a2:(List Syntax)) (a3:Int) (o0:(List Syntax)) (o1:Int) (o2:Int) (o3:T3) (o4:T3) (o5:T5) (r:T6),nN n a0 a1 a2 a3 o0 o1 o2 o3 o4 o5=some r→FnP Tryd.prog 82 (oc.enc (ny.lens ((o0,o1,()),(o2,()),o3,o4,o5,())) (a0,a1,a2,a3,())) (ny.enc (ny.lens ((o0,o1,()),(o2,()),o3,o4,o5,())) ((o0,o1,()),(o2,()),o3,o4,o5,())) (enP true ow (qO (nG Syntax.cel) pV) oz (qO (Fq 83 Ft) pV) r)
 |0,_,_,_,_,_,_,_,_,_,_,_,h=>by simp only[nN] at h;cases h
 |n+1,a0,a1,a2,a3,o0,o1,o2,o3,o4,o5,r,h=>by
  simp only[nN] at h
  have An:=xE n
  have yP:=yQ n
  have vK:=Ao n
  exact V1 (p1:=[]) (p2:=[]) (b1:=[0,1,2,3,4]) (b2:=[0,1,2,3,4]) (M:=nu (nr n) (m8 n) (nN n) n) ⟨(mZ (B5 (fun b a r h=>(Ci n) b.1.1 b.1.2.1 b.2.1.1 b.2.2.1 b.2.2.2.1 b.2.2.2.2.1 r h)) (mZ (sI (Cb n)) m5)),m6,nT _,nU _,oS,oQ,(zg (DC (fun b a r h=>(An) a.1 b.1.1 b.1.2.1 b.2.1.1 b.2.2.1 b.2.2.2.1 b.2.2.2.2.1 r h)) Di),oX⟩ Tryd.func82 rfl rfl (sP (jr (of_decide_eq_true (by kernel_rfl)) (jt (ny.sz _ _).symm)) _ (oc.nb _ _)) (fun x hx=>uC (jr (of_decide_eq_true (by kernel_rfl)) (jt (ny.sz _ _).symm)) _ (ny.nb _ _ x hx)) Tryd.ntmps82 Tryd.results82 (low:=5) (by rfl) (by rfl) (fun b a=>⟨_,rfl⟩) rfl rfl (((AP (nr n) (m8 n) (nN n) n).2 a0 a1 a2 a3 o0 o1 o2 o3 o4 o5).trans h)
end
end Go.Abs
namespace Go.Abs
open Go.Proofs
set_option maxRecDepth 100000
set_option maxHeartbeats 4000000
noncomputable def pQ:AL To:=(uk 0 (qO (nG Notation.cel) (qO (pT .i64) (qO (nG Syntax.cel) pV))))
noncomputable def nM:OL T9:=(tA (B4 (xL 1 pV)) (tA (wI (nG Notation.cel)) yt))
noncomputable def oR:OL T9:=(tA (B4 (xL 1 pV)) (tA (wI (nG Notation.cel)) yt))
noncomputable def nX:OL T9:=(tA (B4 (xL 1 pV)) (tA (wI (nG Notation.cel)) yt))
noncomputable def oV:OL T9:=(tA (B4 (xL 1 pV)) (tA (wI (nG Notation.cel)) yt))
noncomputable def oI (m0:Notation→Int→Syntax→T3→Option Ti) (mY:Syntax→T3→Option Tg) (n:Nat):Mach Ti where
 body:=(Tryd.f90.body).getD .skip
 P:=Tryd.prog
 cl:=oJ [(89,entX [.arg 0 [],.obj 0 0 []] ng (uk 0 (qO (nG Syntax.cel) pV)) nH nS (fun (b:T9) (a:(Syntax×Unit))=>(qV n) a.1 b.2.1))]
 cd:=oN [(43,vW (p9 (nG Notation.cel) oF (tY n))),(44,vW (p9 (nG Notation.cel) oF (sS n))),(81,vW (su (nG Notation.cel) (pT .i64) (pT .i64) (vA n)))]
 qR:=oO []
 cut:=oP []
 n:=n
 out:=Cy Tryd.prog [.tmp 8] [] [0,1] 2 oR (qO oF pV)
 co:=OE [(104,Ny [.arg 0 [],.obj 0 0 []] nX (uk 0 (qO (nG Syntax.cel) pV)) oV (qO (pT .i64) pV) oV (qO (pT .i64) pV) (fun (b:T9) (a:(Syntax×Unit))=>(mY a.1 b.2.1).map fun r=>(PR.ok r:PR Tg Tg)))]
 q6:=nJ []
 B1:=nJ [104]
 B0:=nJ []
theorem IM (m0:Notation→Int→Syntax→T3→Option Ti) (mY:Syntax→T3→Option Tg) (n:Nat):(oI m0 mY n).P=Tryd.prog∧(oI m0 mY n).cl=oJ [(89,entX [.arg 0 [],.obj 0 0 []] ng (uk 0 (qO (nG Syntax.cel) pV)) nH nS (fun (b:T9) (a:(Syntax×Unit))=>(qV n) a.1 b.2.1))]∧(oI m0 mY n).cd=oN [(43,vW (p9 (nG Notation.cel) oF (tY n))),(44,vW (p9 (nG Notation.cel) oF (sS n))),(81,vW (su (nG Notation.cel) (pT .i64) (pT .i64) (vA n)))]∧(oI m0 mY n).qR=oO []∧(oI m0 mY n).cut=oP []∧(oI m0 mY n).n=n∧(oI m0 mY n).out=Cy Tryd.prog [.tmp 8] [] [0,1] 2 oR (qO oF pV)∧(oI m0 mY n).co=OE [(104,Ny [.arg 0 [],.obj 0 0 []] nX (uk 0 (qO (nG Syntax.cel) pV)) oV (qO (pT .i64) pV) oV (qO (pT .i64) pV) (fun (b:T9) (a:(Syntax×Unit))=>(mY a.1 b.2.1).map fun r=>(PR.ok r:PR Tg Tg)))]∧(oI m0 mY n).q6=nJ []∧(oI m0 mY n).B1=nJ [104]∧(oI m0 mY n).B0=nJ []:=⟨rfl,rfl,rfl,rfl,rfl,rfl,rfl,rfl,rfl,rfl,rfl⟩
theorem IN (m0:Notation→Int→Syntax→T3→Option Ti) (mY:Syntax→T3→Option Tg) (n:Nat):(oI m0 mY n).body=(Tryd.f90.body).getD .skip:=rfl
theorem IP (m0:Notation→Int→Syntax→T3→Option Ti) (mY:Syntax→T3→Option Tg) (n:Nat):wH (oI m0 mY n) [0,0,1,1]=true∧wH (oI m0 mY n) [0,1,1,1]=true:=⟨by kernel_rfl,by kernel_rfl⟩
noncomputable def zH (m0:Notation→Int→Syntax→T3→Option Ti) (mY:Syntax→T3→Option Tg) (n:Nat):{B:Notation→Int→Syntax→T3→Option Ti // ∀ (a0:Notation) (a1:Int) (a2:Syntax) (o0:T3),run (oI m0 mY n) [.at []] {slots:=(pQ.enc (nM.lens ((),o0,())) (a0,a1,a2,()))++jq (47-(pQ.enc (nM.lens ((),o0,())) (a0,a1,a2,())).length) qA,heap:=(nM.enc (nM.lens ((),o0,())) ((),o0,())),low:=(nM.enc (nM.lens ((),o0,())) ((),o0,())).length}=B a0 a1 a2 o0}:=by
 apply jo
 intro a0 a1 a2 o0
 simp (config:={maxSteps:=100000000,implicitDefEqProofs:=false}) only[go_sem,je,jf,iY,iZ,jg,jh,jj,jk,jl,jd,ji,jm,IM,IN,Tryd.f90,jc,mixed,pQ,nM,oR,nX,oV,ng,nH,nS,IP]
 exact rfl
noncomputable def vG:Nrm:=⟨[],[],[zK,zA,zA,zK,zA,zK,zA,zA,zA,zA,zA,zA,zA,zA,zA,zA,zA,zA,zA,zA,zA,zA,zA,zA,zA,zA,zA,zA,zA,zA,zA,zA,zA,zA,zA,zA,zA,zA,zA,zA,zA,zA,zA,zA,zA,zA,zA],[oC [zK],oM (nG Notation.cel),oT Syntax.cel],none,none⟩
noncomputable def oH (m0:Notation→Int→Syntax→T3→Option Ti) (mY:Syntax→T3→Option Tg) (n:Nat):Mach Tg where
 body:=(Tryd.f104.body).getD .skip
 P:=Tryd.prog
 cl:=oJ [(44,p9 (nG Notation.cel) oF (sS n)),(81,su (nG Notation.cel) (pT .i64) (pT .i64) (vA n)),(89,entX [.arg 0 [],.obj 0 0 []] ng (uk 0 (qO (nG Syntax.cel) pV)) nH nS (fun (b:T9) (a:(Syntax×Unit))=>(qV n) a.1 b.2.1)),(90,entX [.arg 0 [],.obj 0 0 []] nM pQ oR (qO oF pV) (fun (b:T9) (a:To)=>m0 a.1 a.2.1 a.2.2.1 b.2.1))]
 cd:=oN []
 qR:=oO [([0,1,1],vG)]
 cut:=oP []
 n:=n
 out:=Cy Tryd.prog [.tmp 4] [] [0,1] 2 oV (qO (pT .i64) pV)
 q6:=nJ []
theorem Bq (m0:Notation→Int→Syntax→T3→Option Ti) (mY:Syntax→T3→Option Tg) (n:Nat):(oH m0 mY n).P=Tryd.prog∧(oH m0 mY n).cl=oJ [(44,p9 (nG Notation.cel) oF (sS n)),(81,su (nG Notation.cel) (pT .i64) (pT .i64) (vA n)),(89,entX [.arg 0 [],.obj 0 0 []] ng (uk 0 (qO (nG Syntax.cel) pV)) nH nS (fun (b:T9) (a:(Syntax×Unit))=>(qV n) a.1 b.2.1)),(90,entX [.arg 0 [],.obj 0 0 []] nM pQ oR (qO oF pV) (fun (b:T9) (a:To)=>m0 a.1 a.2.1 a.2.2.1 b.2.1))]∧(oH m0 mY n).cd=oN []∧(oH m0 mY n).qR=oO [([0,1,1],vG)]∧(oH m0 mY n).cut=oP []∧(oH m0 mY n).n=n∧(oH m0 mY n).out=Cy Tryd.prog [.tmp 4] [] [0,1] 2 oV (qO (pT .i64) pV)∧(oH m0 mY n).q6=nJ []:=⟨rfl,rfl,rfl,rfl,rfl,rfl,rfl,rfl⟩
theorem Br (m0:Notation→Int→Syntax→T3→Option Ti) (mY:Syntax→T3→Option Tg) (n:Nat):(oH m0 mY n).body=(Tryd.f104.body).getD .skip:=rfl
noncomputable def xM (m0:Notation→Int→Syntax→T3→Option Ti) (mY:Syntax→T3→Option Tg) (n:Nat):{B:(Int→T3→Syntax→Option Tg)→Int→T3→Syntax→Option Tg // ∀m X0,(∀ (v0:Int) (r1:List (Str×Notation)) (o2:Syntax),run (oH m0 mY n) [.lq m [0,1,1],.q9 0] ⟨[.ptr 0 0,qA,qA,.ptr 2 0,qA,.int .i64 v0,qA,qA,qA,qA,qA,qA,qA,qA,qA,qA,qA,qA,qA,qA,qA,qA,qA,qA,qA,qA,qA,qA,qA,qA,qA,qA,qA,qA,qA,qA,qA,qA,qA,qA,qA,qA,qA,qA,qA,qA,qA],[.cells [.map 1],.map (mp (mcT (nG Notation.cel)) r1),.cells (Syntax.cells o2)],2,[]⟩=X0 v0 r1 o2)→ ∀ (v0:Int) (r1:List (Str×Notation)) (o2:Syntax),run (oH m0 mY n) [.at [0,0,1,1],.lp m [0,1,1],.q9 0] ⟨[.ptr 0 0,qA,qA,.ptr 2 0,qA,.int .i64 v0,qA,qA,qA,qA,qA,qA,qA,qA,qA,qA,qA,qA,qA,qA,qA,qA,qA,qA,qA,qA,qA,qA,qA,qA,qA,qA,qA,qA,qA,qA,qA,qA,qA,qA,qA,qA,qA,qA,qA,qA,qA],[.cells [.map 1],.map (mp (mcT (nG Notation.cel)) r1),.cells (Syntax.cells o2)],2,[]⟩=B X0 v0 r1 o2}:=by
 apply jo
 intro m X0 ih v0 r1 o2
 simp (config:={maxSteps:=100000000}) only[go_sem,je,jf,iY,iZ,jg,jh,jj,jk,jl,jd,ji,jm,Bq,Br,Tryd.f104,jc,mixed,nX,oV,ng,nH,nS,pQ,nM,oR,vG,ih]
 exact rfl
noncomputable def sG (m0:Notation→Int→Syntax→T3→Option Ti) (mY:Syntax→T3→Option Tg) (n:Nat):Nat→Int→T3→Syntax→Option Tg
 |0,_,_,_=>none
 |m+1,v0,r1,o2=>(xM m0 mY n).1 (sG m0 mY n m) v0 r1 o2
theorem zM (m0:Notation→Int→Syntax→T3→Option Ti) (mY:Syntax→T3→Option Tg) (n:Nat): ∀ (m:Nat),(∀ (v0:Int) (r1:List (Str×Notation)) (o2:Syntax),run (oH m0 mY n) [.lq m [0,1,1],.q9 0] ⟨[.ptr 0 0,qA,qA,.ptr 2 0,qA,.int .i64 v0,qA,qA,qA,qA,qA,qA,qA,qA,qA,qA,qA,qA,qA,qA,qA,qA,qA,qA,qA,qA,qA,qA,qA,qA,qA,qA,qA,qA,qA,qA,qA,qA,qA,qA,qA,qA,qA,qA,qA,qA,qA],[.cells [.map 1],.map (mp (mcT (nG Notation.cel)) r1),.cells (Syntax.cells o2)],2,[]⟩=sG m0 mY n m v0 r1 o2)
 |0=>by intros;exact nK
 |m+1=>by
  have ih:=zM m0 mY n m
  intro v0 r1 o2
  rw[nL]
  exact (xM m0 mY n).2 m _ ih v0 r1 o2
noncomputable def yq (m0:Notation→Int→Syntax→T3→Option Ti) (mY:Syntax→T3→Option Tg) (n:Nat):{B:Syntax→T3→Option Tg // ∀ (a0:Syntax) (o0:T3),run (oH m0 mY n) [.at []] {slots:=((uk 0 (qO (nG Syntax.cel) pV)).enc (nX.lens ((),o0,())) (a0,()))++jq (47-((uk 0 (qO (nG Syntax.cel) pV)).enc (nX.lens ((),o0,())) (a0,())).length) qA,heap:=(nX.enc (nX.lens ((),o0,())) ((),o0,())),low:=(nX.enc (nX.lens ((),o0,())) ((),o0,())).length}=B a0 o0}:=by
 apply jo
 intro a0 o0
 simp (config:={maxSteps:=100000000}) only[go_sem,je,jf,iY,iZ,jg,jh,jj,jk,jl,jd,ji,jm,Bq,Br,Tryd.f104,jc,mixed,nX,oV,ng,nH,nS,pQ,nM,oR,vG,zM m0 mY n]
 exact rfl
mutual
noncomputable def pF:Nat→Notation→Int→Syntax→T3→Option Ti
 |0,_,_,_,_=>none
 |n+1,a0,a1,a2,o0=>(zH (pF n) (ot n) n).1 a0 a1 a2 o0
noncomputable def ot:Nat→Syntax→T3→Option Tg
 |0,_,_=>none
 |n+1,a0,o0=>(yq (pF n) (ot n) n).1 a0 o0
end
mutual
theorem y8: ∀ (n:Nat) (a0:Notation) (a1:Int) (a2:Syntax) (o0:T3) (r:Ti),pF n a0 a1 a2 o0=some r→QF Tryd.prog 90 (pQ.enc (nM.lens ((),o0,())) (a0,a1,a2,())) (nM.enc (nM.lens ((),o0,())) ((),o0,())) (fun o H'=>o= .ret (vX ((qO oF pV).enc (oR.lens r.1) r.2))∧H'=oR.enc (oR.lens r.1) r.1)
 |0,_,_,_,_,_,h=>by simp only[pF] at h;cases h
 |n+1,a0,a1,a2,o0,r,h=>by
  simp only[pF] at h
  have Ck:=y8 n
  have A3:=A4 n
  exact B3 (M:=oI (pF n) (ot n) n) ⟨(mZ (B5 (fun b a r h=>(yj n) a.1 b.2.1 r h)) m5),(qt (DA (Ad n)) (qt (DA (zj n)) (qt (DB (Cb n)) m6))),nT _,nU _,oS,oQ,pz,(Nz (entXO_ok (fun b a r h=>(A3) a.1 b.2.1 r h)) PF)⟩ Tryd.func90 rfl rfl (sP (jr (of_decide_eq_true (by kernel_rfl)) (jt (nM.sz _ _).symm)) _ (pQ.nb _ _)) (fun x hx=>uC (jr (of_decide_eq_true (by kernel_rfl)) (jt (nM.sz _ _).symm)) _ (nM.nb _ _ x hx)) Tryd.ntmps90 Tryd.results90 (fun σ hs=>Bo (P:=Tryd.prog) (rs:=[.tmp 8]) (pos:=[]) (base:=[0,1]) (low:=2) (os:=oR) (s:=(qO oF pV)) (σ:=σ) (r:=r) (by rfl) hs) (((zH (pF n) (ot n) n).2 a0 a1 a2 o0).trans h)
theorem A4: ∀ (n:Nat) (a0:Syntax) (o0:T3) (r:Tg),ot n a0 o0=some r→QF Tryd.prog 104 ((uk 0 (qO (nG Syntax.cel) pV)).enc (nX.lens ((),o0,())) (a0,())) (nX.enc (nX.lens ((),o0,())) ((),o0,())) (fun o H'=>o= .ret (vX ((qO (pT .i64) pV).enc (oV.lens r.1) r.2))∧H'=oV.enc (oV.lens r.1) r.1)
 |0,_,_,_,h=>by simp only[ot] at h;cases h
 |n+1,a0,o0,r,h=>by
  simp only[ot] at h
  have Ck:=y8 n
  have A3:=A4 n
  exact B3 (M:=oH (pF n) (ot n) n) ⟨(mZ (pZ (zj n)) (mZ (sI (Cb n)) (mZ (B5 (fun b a r h=>(yj n) a.1 b.2.1 r h)) (mZ (B5 (fun b a r h=>(Ck) a.1 a.2.1 a.2.2.1 b.2.1 r h)) m5)))),m6,nT _,nU _,oS,oQ,pz,oX⟩ Tryd.func104 rfl rfl (sP (jr (of_decide_eq_true (by kernel_rfl)) (jt (nX.sz _ _).symm)) _ ((uk 0 (qO (nG Syntax.cel) pV)).nb _ _)) (fun x hx=>uC (jr (of_decide_eq_true (by kernel_rfl)) (jt (nX.sz _ _).symm)) _ (nX.nb _ _ x hx)) Tryd.ntmps104 Tryd.results104 (fun σ hs=>Bo (P:=Tryd.prog) (rs:=[.tmp 4]) (pos:=[]) (base:=[0,1]) (low:=2) (os:=oV) (s:=(qO (pT .i64) pV)) (σ:=σ) (r:=r) (by rfl) hs) (((yq (pF n) (ot n) n).2 a0 o0).trans h)
end
noncomputable def ref24_component_n1:Nrm:=⟨[],[],[zK,zK,zA,zA,zA,zA,zA,zA,zA,zA,zA,zA,zA,zA,zA,zA,zA,zA,zA,zA,zA,zA,zA,zA,zA,zA,zA,zA,zA,zA],[],none,none⟩
noncomputable def qP (n:Nat):Mach Int where
 body:=(Tryd.f73.body).getD .skip
 P:=Tryd.prog
 cl:=oJ [(72,p9 (pT .u8) oF (AM n)),(101,p9 (pT .u8) oF (FC n))]
 cd:=oN []
 qR:=oO [([0,0,1],ref24_component_n1)]
 cut:=oP []
 n:=n
 out:=pS Tryd.prog [.tmp 4] (pT .i64)
 q6:=nJ []
theorem HW (n:Nat):(qP n).P=Tryd.prog∧(qP n).cl=oJ [(72,p9 (pT .u8) oF (AM n)),(101,p9 (pT .u8) oF (FC n))]∧(qP n).cd=oN []∧(qP n).qR=oO [([0,0,1],ref24_component_n1)]∧(qP n).cut=oP []∧(qP n).n=n∧(qP n).out=pS Tryd.prog [.tmp 4] (pT .i64)∧(qP n).q6=nJ []:=⟨rfl,rfl,rfl,rfl,rfl,rfl,rfl,rfl⟩
theorem HX (n:Nat):(qP n).body=(Tryd.f73.body).getD .skip:=rfl
noncomputable def AQ (n:Nat):{B:(Str→Int→Option Int)→Str→Int→Option Int // ∀m X0,(∀ (v0:Str) (v1:Int),run (qP n) [.lq m [0,0,1],.q9 0,.cut [1,1],.at [1,1]] ⟨[.str (sb v0),.int .i64 v1,qA,qA,qA,qA,qA,qA,qA,qA,qA,qA,qA,qA,qA,qA,qA,qA,qA,qA,qA,qA,qA,qA,qA,qA,qA,qA,qA,qA],[],0,[]⟩=X0 v0 v1)→ ∀ (v0:Str) (v1:Int),run (qP n) [.at [0,0,0,1],.lp m [0,0,1],.q9 0,.cut [1,1],.at [1,1]] ⟨[.str (sb v0),.int .i64 v1,qA,qA,qA,qA,qA,qA,qA,qA,qA,qA,qA,qA,qA,qA,qA,qA,qA,qA,qA,qA,qA,qA,qA,qA,qA,qA,qA,qA],[],0,[]⟩=B X0 v0 v1}:=by
 apply jo
 intro m X0 ih v0 v1
 simp (config:={maxSteps:=100000000}) only[go_sem,je,jf,iY,iZ,jg,jh,jj,jk,jl,jd,ji,jm,HW,HX,Tryd.f73,jc,mixed,ref24_component_n1,ih]
 exact rfl
noncomputable def wR (n:Nat):Nat→Str→Int→Option Int
 |0,_,_=>none
 |m+1,v0,v1=>(AQ n).1 (wR n m) v0 v1
theorem Es (n:Nat): ∀ (m:Nat),(∀ (v0:Str) (v1:Int),run (qP n) [.lq m [0,0,1],.q9 0,.cut [1,1],.at [1,1]] ⟨[.str (sb v0),.int .i64 v1,qA,qA,qA,qA,qA,qA,qA,qA,qA,qA,qA,qA,qA,qA,qA,qA,qA,qA,qA,qA,qA,qA,qA,qA,qA,qA,qA,qA],[],0,[]⟩=wR n m v0 v1)
 |0=>by intros;exact nK
 |m+1=>by
  have ih:=Es n m
  intro v0 v1
  rw[nL]
  exact (AQ n).2 m _ ih v0 v1
noncomputable def DZ (n:Nat):{B:Str→Int→Option Int // ∀ (a0:Str) (a1:Int),run (qP n) [.at []] {slots:=[uI.enc a0,(pT .i64).enc a1]++jq (30-[uI.enc a0,(pT .i64).enc a1].length) qA,heap:=[]}=B a0 a1}:=by
 apply jo
 intro a0 a1
 simp (config:={maxSteps:=100000000}) only[go_sem,je,jf,iY,iZ,jg,jh,jj,jk,jl,jd,ji,jm,HW,HX,Tryd.f73,jc,mixed,ref24_component_n1,Es n]
 exact rfl
noncomputable def A5:Nat→Str→Int→Option Int
 |0,_,_=>none
 |n+1,a0,a1=>(DZ n).1 a0 a1
theorem MW: ∀ (n:Nat) (a0:Str) (a1:Int) (r:Int),A5 n a0 a1=some r→xY Tryd.prog 73 [uI.enc a0,(pT .i64).enc a1] (fun v=>v=(pT .i64).enc r)
 |0,_,_,_,h=>by cases h
 |n+1,a0,a1,r,h=>by
  exact pg (M:=qP n) ⟨(mZ (pZ (Kj n)) (mZ (pZ (R9 n)) m5)),m6,nT _,nU _,oS,oQ,pz,oX⟩ Tryd.func73 rfl rfl ⟨uI.nb 0 _,(pT .i64).nb 0 _,trivial⟩ Tryd.ntmps73 Tryd.results73 (fun σ hs=>oZ (P:=Tryd.prog) (rs:=[.tmp 4]) (t:=(pT .i64)) (σ:=σ) (r:=r) hs) (((DZ n).2 a0 a1).trans h)
noncomputable def rq (n:Nat):Mach Bool where
 body:=(Tryd.f93.body).getD .skip
 P:=Tryd.prog
 cl:=oJ []
 cd:=oN [(47,vW (p9 (nG Notation.cel) oF (ug n))),(94,vW (p9 (nG Notation.cel) uI (BK n))),(106,vW (su (nG Notation.cel) uI oF (Dp n)))]
 qR:=oO []
 cut:=oP []
 n:=n
 out:=pS Tryd.prog [.tmp 4] oF
 q6:=nJ []
 B1:=nJ []
 B0:=nJ []
theorem OQ (n:Nat):(rq n).P=Tryd.prog∧(rq n).cl=oJ []∧(rq n).cd=oN [(47,vW (p9 (nG Notation.cel) oF (ug n))),(94,vW (p9 (nG Notation.cel) uI (BK n))),(106,vW (su (nG Notation.cel) uI oF (Dp n)))]∧(rq n).qR=oO []∧(rq n).cut=oP []∧(rq n).n=n∧(rq n).out=pS Tryd.prog [.tmp 4] oF∧(rq n).q6=nJ []∧(rq n).B1=nJ []∧(rq n).B0=nJ []:=⟨rfl,rfl,rfl,rfl,rfl,rfl,rfl,rfl,rfl,rfl⟩
theorem OR (n:Nat):(rq n).body=(Tryd.f93.body).getD .skip:=rfl
theorem OS (n:Nat):wH (rq n) [0,1]=true:=by kernel_rfl
noncomputable def EN (n:Nat):{B:Notation→Notation→Option Bool // ∀ (a0:Notation) (a1:Notation),run (rq n) [.at []] {slots:=[(nG Notation.cel).enc a0,(nG Notation.cel).enc a1]++jq (23-[(nG Notation.cel).enc a0,(nG Notation.cel).enc a1].length) qA,heap:=[]}=B a0 a1}:=by
 apply jo
 intro a0 a1
 simp (config:={maxSteps:=100000000}) only[go_sem,je,jf,iY,iZ,jg,jh,jj,jk,jl,jd,ji,jm,OQ,OR,Tryd.f93,jc,mixed,OS]
 exact rfl
noncomputable def xq:Nat→Notation→Notation→Option Bool
 |0,_,_=>none
 |n+1,a0,a1=>(EN n).1 a0 a1
theorem HY: ∀ (n:Nat) (a0:Notation) (a1:Notation) (r:Bool),xq n a0 a1=some r→xY Tryd.prog 93 [(nG Notation.cel).enc a0,(nG Notation.cel).enc a1] (fun v=>v=oF.enc r)
 |0,_,_,_,h=>by cases h
 |n+1,a0,a1,r,h=>by
  exact pg (M:=rq n) ⟨m5,(qt (DA (zF n)) (qt (DA (Mo n)) (qt (DB (Sk n)) m6))),nT _,nU _,oS,oQ,pz,oX⟩ Tryd.func93 rfl rfl ⟨(nG Notation.cel).nb 0 _,(nG Notation.cel).nb 0 _,trivial⟩ Tryd.ntmps93 Tryd.results93 (fun σ hs=>oZ (P:=Tryd.prog) (rs:=[.tmp 4]) (t:=oF) (σ:=σ) (r:=r) hs) (((EN n).2 a0 a1).trans h)
noncomputable def sL (n8:(List Notation)→Notation→Int→Syntax→Option Bool) (nx:(List Notation)→Syntax→Option Int) (n:Nat):Mach Bool where
 body:=(Tryd.f92.body).getD .skip
 P:=Tryd.prog
 cl:=oJ [(91,su (tyL Notation.row) (nG Syntax.cel) (Py (nG Notation.cel) (tyL Syntax.row) oF) (xg n))]
 cd:=oN [(47,vW (p9 (nG Notation.cel) oF (ug n))),(48,vW (p9 (nG Notation.cel) oF (xp n))),(86,vW (su (nG Notation.cel) (pT .i64) (pT .i64) (C5 n))),(105,vW (su (tyL Notation.row) (nG Syntax.cel) (pT .i64) nx))]
 qR:=oO []
 cut:=oP []
 n:=n
 out:=pS Tryd.prog [.tmp 8] oF
 q6:=nJ []
 B1:=nJ []
 B0:=nJ []
theorem TX (n8:(List Notation)→Notation→Int→Syntax→Option Bool) (nx:(List Notation)→Syntax→Option Int) (n:Nat):(sL n8 nx n).P=Tryd.prog∧(sL n8 nx n).cl=oJ [(91,su (tyL Notation.row) (nG Syntax.cel) (Py (nG Notation.cel) (tyL Syntax.row) oF) (xg n))]∧(sL n8 nx n).cd=oN [(47,vW (p9 (nG Notation.cel) oF (ug n))),(48,vW (p9 (nG Notation.cel) oF (xp n))),(86,vW (su (nG Notation.cel) (pT .i64) (pT .i64) (C5 n))),(105,vW (su (tyL Notation.row) (nG Syntax.cel) (pT .i64) nx))]∧(sL n8 nx n).qR=oO []∧(sL n8 nx n).cut=oP []∧(sL n8 nx n).n=n∧(sL n8 nx n).out=pS Tryd.prog [.tmp 8] oF∧(sL n8 nx n).q6=nJ []∧(sL n8 nx n).B1=nJ []∧(sL n8 nx n).B0=nJ []:=⟨rfl,rfl,rfl,rfl,rfl,rfl,rfl,rfl,rfl,rfl⟩
theorem TY (n8:(List Notation)→Notation→Int→Syntax→Option Bool) (nx:(List Notation)→Syntax→Option Int) (n:Nat):(sL n8 nx n).body=(Tryd.f92.body).getD .skip:=rfl
theorem TZ (n8:(List Notation)→Notation→Int→Syntax→Option Bool) (nx:(List Notation)→Syntax→Option Int) (n:Nat):wH (sL n8 nx n) [0,0,1,1]=true∧wH (sL n8 nx n) [0,1,1,1]=true:=⟨by kernel_rfl,by kernel_rfl⟩
noncomputable def IQ (n8:(List Notation)→Notation→Int→Syntax→Option Bool) (nx:(List Notation)→Syntax→Option Int) (n:Nat):{B:(List Notation)→Notation→Int→Syntax→Option Bool // ∀ (a0:(List Notation)) (a1:Notation) (a2:Int) (a3:Syntax),run (sL n8 nx n) [.at []] {slots:=[(tyL Notation.row).enc a0,(nG Notation.cel).enc a1,(pT .i64).enc a2,(nG Syntax.cel).enc a3]++jq (47-[(tyL Notation.row).enc a0,(nG Notation.cel).enc a1,(pT .i64).enc a2,(nG Syntax.cel).enc a3].length) qA,heap:=[]}=B a0 a1 a2 a3}:=by
 apply jo
 intro a0 a1 a2 a3
 simp (config:={maxSteps:=100000000}) only[go_sem,je,jf,iY,iZ,jg,jh,jj,jk,jl,jd,ji,jm,TX,TY,Tryd.f92,jc,mixed,TZ]
 exact rfl
noncomputable def rz (n8:(List Notation)→Notation→Int→Syntax→Option Bool) (nx:(List Notation)→Syntax→Option Int) (n:Nat):Mach Int where
 body:=(Tryd.f105.body).getD .skip
 P:=Tryd.prog
 cl:=oJ [(48,p9 (nG Notation.cel) oF (xp n)),(86,su (nG Notation.cel) (pT .i64) (pT .i64) (C5 n)),(91,su (tyL Notation.row) (nG Syntax.cel) (Py (nG Notation.cel) (tyL Syntax.row) oF) (xg n)),(105,su (tyL Notation.row) (nG Syntax.cel) (pT .i64) nx)]
 cd:=oN [(92,vW (Z7 (tyL Notation.row) (nG Notation.cel) (pT .i64) (nG Syntax.cel) oF n8))]
 qR:=oO []
 cut:=oP []
 n:=n
 out:=pS Tryd.prog [.tmp 4] (pT .i64)
 q6:=nJ []
 B1:=nJ []
 B0:=nJ []
theorem OT (n8:(List Notation)→Notation→Int→Syntax→Option Bool) (nx:(List Notation)→Syntax→Option Int) (n:Nat):(rz n8 nx n).P=Tryd.prog∧(rz n8 nx n).cl=oJ [(48,p9 (nG Notation.cel) oF (xp n)),(86,su (nG Notation.cel) (pT .i64) (pT .i64) (C5 n)),(91,su (tyL Notation.row) (nG Syntax.cel) (Py (nG Notation.cel) (tyL Syntax.row) oF) (xg n)),(105,su (tyL Notation.row) (nG Syntax.cel) (pT .i64) nx)]∧(rz n8 nx n).cd=oN [(92,vW (Z7 (tyL Notation.row) (nG Notation.cel) (pT .i64) (nG Syntax.cel) oF n8))]∧(rz n8 nx n).qR=oO []∧(rz n8 nx n).cut=oP []∧(rz n8 nx n).n=n∧(rz n8 nx n).out=pS Tryd.prog [.tmp 4] (pT .i64)∧(rz n8 nx n).q6=nJ []∧(rz n8 nx n).B1=nJ []∧(rz n8 nx n).B0=nJ []:=⟨rfl,rfl,rfl,rfl,rfl,rfl,rfl,rfl,rfl,rfl⟩
theorem OU (n8:(List Notation)→Notation→Int→Syntax→Option Bool) (nx:(List Notation)→Syntax→Option Int) (n:Nat):(rz n8 nx n).body=(Tryd.f105.body).getD .skip:=rfl
theorem OV (n8:(List Notation)→Notation→Int→Syntax→Option Bool) (nx:(List Notation)→Syntax→Option Int) (n:Nat):wH (rz n8 nx n) [0,0,1,1,1,1,1]=true:=by kernel_rfl
noncomputable def EO (n8:(List Notation)→Notation→Int→Syntax→Option Bool) (nx:(List Notation)→Syntax→Option Int) (n:Nat):{B:(List Notation)→Syntax→Option Int // ∀ (a0:(List Notation)) (a1:Syntax),run (rz n8 nx n) [.at []] {slots:=[(tyL Notation.row).enc a0,(nG Syntax.cel).enc a1]++jq (52-[(tyL Notation.row).enc a0,(nG Syntax.cel).enc a1].length) qA,heap:=[]}=B a0 a1}:=by
 apply jo
 intro a0 a1
 simp (config:={maxSteps:=100000000}) only[go_sem,je,jf,iY,iZ,jg,jh,jj,jk,jl,jd,ji,jm,OT,OU,Tryd.f105,jc,mixed,OV]
 exact rfl
mutual
noncomputable def vL:Nat→(List Notation)→Notation→Int→Syntax→Option Bool
 |0,_,_,_,_=>none
 |n+1,a0,a1,a2,a3=>(IQ (vL n) (s6 n) n).1 a0 a1 a2 a3
noncomputable def s6:Nat→(List Notation)→Syntax→Option Int
 |0,_,_=>none
 |n+1,a0,a1=>(EO (vL n) (s6 n) n).1 a0 a1
end
mutual
theorem GR: ∀ (n:Nat) (a0:(List Notation)) (a1:Notation) (a2:Int) (a3:Syntax) (r:Bool),vL n a0 a1 a2 a3=some r→xY Tryd.prog 92 [(tyL Notation.row).enc a0,(nG Notation.cel).enc a1,(pT .i64).enc a2,(nG Syntax.cel).enc a3] (fun v=>v=oF.enc r)
 |0,_,_,_,_,_,h=>by simp only[vL] at h;cases h
 |n+1,a0,a1,a2,a3,r,h=>by
  simp only[vL] at h
  have K3:=GR n
  have D0:=HZ n
  exact pg (M:=sL (vL n) (s6 n) n) ⟨(mZ (sI (EM n)) m5),(qt (DA (zF n)) (qt (DA (DJ n)) (qt (DB (Mr n)) (qt (DB (D0)) m6)))),nT _,nU _,oS,oQ,pz,oX⟩ Tryd.func92 rfl rfl ⟨(tyL Notation.row).nb 0 _,(nG Notation.cel).nb 0 _,(pT .i64).nb 0 _,(nG Syntax.cel).nb 0 _,trivial⟩ Tryd.ntmps92 Tryd.results92 (fun σ hs=>oZ (P:=Tryd.prog) (rs:=[.tmp 8]) (t:=oF) (σ:=σ) (r:=r) hs) (((IQ (vL n) (s6 n) n).2 a0 a1 a2 a3).trans h)
theorem HZ: ∀ (n:Nat) (a0:(List Notation)) (a1:Syntax) (r:Int),s6 n a0 a1=some r→xY Tryd.prog 105 [(tyL Notation.row).enc a0,(nG Syntax.cel).enc a1] (fun v=>v=(pT .i64).enc r)
 |0,_,_,_,h=>by simp only[s6] at h;cases h
 |n+1,a0,a1,r,h=>by
  simp only[s6] at h
  have K3:=GR n
  have D0:=HZ n
  exact pg (M:=rz (vL n) (s6 n) n) ⟨(mZ (pZ (DJ n)) (mZ (sI (Mr n)) (mZ (sI (EM n)) (mZ (sI (D0)) m5)))),(qt (XM (K3)) m6),nT _,nU _,oS,oQ,pz,oX⟩ Tryd.func105 rfl rfl ⟨(tyL Notation.row).nb 0 _,(nG Syntax.cel).nb 0 _,trivial⟩ Tryd.ntmps105 Tryd.results105 (fun σ hs=>oZ (P:=Tryd.prog) (rs:=[.tmp 4]) (t:=(pT .i64)) (σ:=σ) (r:=r) hs) (((EO (vL n) (s6 n) n).2 a0 a1).trans h)
end
noncomputable def ref25_AlikeLists_n1:Nrm:=⟨[],[],[zT (tyL Syntax.row),zT (tyL Syntax.row),zA,zA,zA,zK,zA,zA,zA,zA,zA,zA,zA,zA,zA,zA,zA,zA,zA,zA,zA,zA,zA,zA,zA,zA,zA],[],none,none⟩
noncomputable def p5 (n:Nat):Mach Bool where
 body:=(Tryd.f22.body).getD .skip
 P:=Tryd.prog
 cl:=oJ []
 cd:=oN [(17,vW (MO (nG Syntax.cel) (nG Syntax.cel) oF oF (rC n)))]
 qR:=oO [([0,1,0,1,1],ref25_AlikeLists_n1)]
 cut:=oP []
 n:=n
 out:=pS Tryd.prog [.tmp 4] oF
 q6:=nJ []
 B1:=nJ []
 B0:=nJ []
theorem GS (n:Nat):(p5 n).P=Tryd.prog∧(p5 n).cl=oJ []∧(p5 n).cd=oN [(17,vW (MO (nG Syntax.cel) (nG Syntax.cel) oF oF (rC n)))]∧(p5 n).qR=oO [([0,1,0,1,1],ref25_AlikeLists_n1)]∧(p5 n).cut=oP []∧(p5 n).n=n∧(p5 n).out=pS Tryd.prog [.tmp 4] oF∧(p5 n).q6=nJ []∧(p5 n).B1=nJ []∧(p5 n).B0=nJ []:=⟨rfl,rfl,rfl,rfl,rfl,rfl,rfl,rfl,rfl,rfl⟩
theorem GU (n:Nat):(p5 n).body=(Tryd.f22.body).getD .skip:=rfl
theorem GV (n:Nat):wH (p5 n) [0,0,0,1,0,0,1,0,1,1]=true:=by kernel_rfl
noncomputable def zR (n:Nat):{B:((List Syntax)→(List Syntax)→Int→Option Bool)→(List Syntax)→(List Syntax)→Int→Option Bool // ∀m X0,(∀ (v0:List Syntax) (v1:List Syntax) (v2:Int),run (p5 n) [.lq m [0,1,0,1,1],.q9 0,.cut [1,1,1],.at [1,1,1]] ⟨[.nY false 8 (mp Syntax.cells v0),.nY false 8 (mp Syntax.cells v1),qA,qA,qA,.int .i64 v2,qA,qA,qA,qA,qA,qA,qA,qA,qA,qA,qA,qA,qA,qA,qA,qA,qA,qA,qA,qA,qA],[],0,[]⟩=X0 v0 v1 v2)→ ∀ (v0:List Syntax) (v1:List Syntax) (v2:Int),run (p5 n) [.at [0,0,1,0,1,1],.lp m [0,1,0,1,1],.q9 0,.cut [1,1,1],.at [1,1,1]] ⟨[.nY false 8 (mp Syntax.cells v0),.nY false 8 (mp Syntax.cells v1),qA,qA,qA,.int .i64 v2,qA,qA,qA,qA,qA,qA,qA,qA,qA,qA,qA,qA,qA,qA,qA,qA,qA,qA,qA,qA,qA],[],0,[]⟩=B X0 v0 v1 v2}:=by
 apply jo
 intro m X0 ih v0 v1 v2
 simp (config:={maxSteps:=100000000}) only[go_sem,je,jf,iY,iZ,jg,jh,jj,jk,jl,jd,ji,jm,GS,GU,Tryd.f22,jc,mixed,GV,ref25_AlikeLists_n1,ih]
 exact rfl
noncomputable def wD (n:Nat):Nat→(List Syntax)→(List Syntax)→Int→Option Bool
 |0,_,_,_=>none
 |m+1,v0,v1,v2=>(zR n).1 (wD n m) v0 v1 v2
theorem D1 (n:Nat): ∀ (m:Nat),(∀ (v0:List Syntax) (v1:List Syntax) (v2:Int),run (p5 n) [.lq m [0,1,0,1,1],.q9 0,.cut [1,1,1],.at [1,1,1]] ⟨[.nY false 8 (mp Syntax.cells v0),.nY false 8 (mp Syntax.cells v1),qA,qA,qA,.int .i64 v2,qA,qA,qA,qA,qA,qA,qA,qA,qA,qA,qA,qA,qA,qA,qA,qA,qA,qA,qA,qA,qA],[],0,[]⟩=wD n m v0 v1 v2)
 |0=>by intros;exact nK
 |m+1=>by
  have ih:=D1 n m
  intro v0 v1 v2
  rw[nL]
  exact (zR n).2 m _ ih v0 v1 v2
noncomputable def C6 (n:Nat):{B:(List Syntax)→(List Syntax)→Option Bool // ∀ (a0:(List Syntax)) (a1:(List Syntax)),run (p5 n) [.at []] {slots:=[(tyL Syntax.row).enc a0,(tyL Syntax.row).enc a1]++jq (27-[(tyL Syntax.row).enc a0,(tyL Syntax.row).enc a1].length) qA,heap:=[]}=B a0 a1}:=by
 apply jo
 intro a0 a1
 simp (config:={maxSteps:=100000000}) only[go_sem,je,jf,iY,iZ,jg,jh,jj,jk,jl,jd,ji,jm,GS,GU,Tryd.f22,jc,mixed,GV,ref25_AlikeLists_n1,D1 n]
 exact rfl
noncomputable def yA:Nat→(List Syntax)→(List Syntax)→Option Bool
 |0,_,_=>none
 |n+1,a0,a1=>(C6 n).1 a0 a1
theorem LZ: ∀ (n:Nat) (a0:(List Syntax)) (a1:(List Syntax)) (r:Bool),yA n a0 a1=some r→xY Tryd.prog 22 [(tyL Syntax.row).enc a0,(tyL Syntax.row).enc a1] (fun v=>v=oF.enc r)
 |0,_,_,_,h=>by cases h
 |n+1,a0,a1,r,h=>by
  exact pg (M:=p5 n) ⟨m5,(qt (RA (BJ n)) m6),nT _,nU _,oS,oQ,pz,oX⟩ Tryd.func22 rfl rfl ⟨(tyL Syntax.row).nb 0 _,(tyL Syntax.row).nb 0 _,trivial⟩ Tryd.ntmps22 Tryd.results22 (fun σ hs=>oZ (P:=Tryd.prog) (rs:=[.tmp 4]) (t:=oF) (σ:=σ) (r:=r) hs) (((C6 n).2 a0 a1).trans h)
noncomputable def rA (X:Syntax→(List Syntax)→Option Tn) (n:Nat):Mach Tn where
 body:=(Tryd.f25.body).getD .skip
 P:=Tryd.prog
 cl:=oJ [(25,su (nG Syntax.cel) (tyL Syntax.row) (Lt (tyL Syntax.row) oF) X)]
 cd:=oN [(17,vW (MO (nG Syntax.cel) (nG Syntax.cel) oF oF (rC n)))]
 qR:=oO []
 cut:=oP []
 n:=n
 out:=pS Tryd.prog [.tmp 4,.tmp 5] (Lt (tyL Syntax.row) oF)
 q6:=nJ []
 B1:=nJ []
 B0:=nJ []
theorem OW (X:Syntax→(List Syntax)→Option Tn) (n:Nat):(rA X n).P=Tryd.prog∧(rA X n).cl=oJ [(25,su (nG Syntax.cel) (tyL Syntax.row) (Lt (tyL Syntax.row) oF) X)]∧(rA X n).cd=oN [(17,vW (MO (nG Syntax.cel) (nG Syntax.cel) oF oF (rC n)))]∧(rA X n).qR=oO []∧(rA X n).cut=oP []∧(rA X n).n=n∧(rA X n).out=pS Tryd.prog [.tmp 4,.tmp 5] (Lt (tyL Syntax.row) oF)∧(rA X n).q6=nJ []∧(rA X n).B1=nJ []∧(rA X n).B0=nJ []:=⟨rfl,rfl,rfl,rfl,rfl,rfl,rfl,rfl,rfl,rfl⟩
theorem OX (X:Syntax→(List Syntax)→Option Tn) (n:Nat):(rA X n).body=(Tryd.f25.body).getD .skip:=rfl
theorem OY (X:Syntax→(List Syntax)→Option Tn) (n:Nat):wH (rA X n) [0,0,1]=true:=by kernel_rfl
noncomputable def Ap (X:Syntax→(List Syntax)→Option Tn) (n:Nat):{B:Syntax→(List Syntax)→Option Tn // ∀ (a0:Syntax) (a1:(List Syntax)),run (rA X n) [.at []] {slots:=[(nG Syntax.cel).enc a0,(tyL Syntax.row).enc a1]++jq (51-[(nG Syntax.cel).enc a0,(tyL Syntax.row).enc a1].length) qA,heap:=[]}=B a0 a1}:=by
 apply jo
 intro a0 a1
 simp (config:={maxSteps:=100000000}) only[go_sem,je,jf,iY,iZ,jg,jh,jj,jk,jl,jd,ji,jm,OW,OX,Tryd.f25,jc,mixed,OY]
 exact rfl
noncomputable def s7:Nat→Syntax→(List Syntax)→Option Tn
 |0,_,_=>none
 |n+1,a0,a1=>(Ap (s7 n) n).1 a0 a1
theorem H6: ∀ (n:Nat) (a0:Syntax) (a1:(List Syntax)) (r:Tn),s7 n a0 a1=some r→xY Tryd.prog 25 [(nG Syntax.cel).enc a0,(tyL Syntax.row).enc a1] (fun v=>v=(Lt (tyL Syntax.row) oF).enc r)
 |0,_,_,_,h=>by cases h
 |n+1,a0,a1,r,h=>by
  have NQ:=H6 n
  exact pg (M:=rA (s7 n) n) ⟨(mZ (sI (NQ)) m5),(qt (RA (BJ n)) m6),nT _,nU _,oS,oQ,pz,oX⟩ Tryd.func25 rfl rfl ⟨(nG Syntax.cel).nb 0 _,(tyL Syntax.row).nb 0 _,trivial⟩ Tryd.ntmps25 Tryd.results25 (fun σ hs=>oZ (P:=Tryd.prog) (rs:=[.tmp 4,.tmp 5]) (t:=(Lt (tyL Syntax.row) oF)) (σ:=σ) (r:=r) hs) (((Ap (s7 n) n).2 a0 a1).trans h)
end Go.Abs
