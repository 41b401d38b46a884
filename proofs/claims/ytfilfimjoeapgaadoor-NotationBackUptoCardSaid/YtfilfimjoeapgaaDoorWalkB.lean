/- A part of the proof: what the functions compute. -/
import Derived.Test.YtfilfimjoeapgaaDoorDataA
import Derived.Test.YtfilfimjoeapgaaDoorWalkA
set_option linter.all false
open Nat renaming reduceLeDiff → iH,reduceEqDiff → iI,reduceAdd → iL,reduceSub → iM,reduceBEq → iN,reduceMul → iO,reduceLT → iQ,le_trans → iW,le_of_eq → iX
open Option renaming getD_some → iJ
open Int renaming reduceToNat → iK,reduceBEq → iP,reduceLE → iR,reduceLT → iS,reduceEq → iT
open Subtype renaming mk → iU
open List renaming replicate → iV
open Go.Abs.AV renaming any → qA
namespace Go.Abs
open Go.Proofs
set_option maxRecDepth 100000
set_option maxHeartbeats 4000000
noncomputable def rZ:Nrm:=⟨[],[],[zT (tyL sD),zT (E4 39),zA,zA,zA,zA,zA,zK,zK,zA,zA,zA,zA,zA,zA,zA,zA,zA,zA],[],none,none⟩
noncomputable def nC (n:Nat):Mach Int where
 body:=(Tryd.f65.body).getD .skip
 P:=Tryd.prog
 cl:=oJ [(39,p9 uI oF (E5 n))]
 cd:=oN []
 qR:=oO [([0,1,0,1],rZ)]
 cut:=oP []
 n:=n
 out:=pS Tryd.prog [.tmp 4] (pT .i64)
 q6:=nJ []
theorem wV (n:Nat):(nC n).P=Tryd.prog∧(nC n).cl=oJ [(39,p9 uI oF (E5 n))]∧(nC n).cd=oN []∧(nC n).qR=oO [([0,1,0,1],rZ)]∧(nC n).cut=oP []∧(nC n).n=n∧(nC n).out=pS Tryd.prog [.tmp 4] (pT .i64)∧(nC n).q6=nJ []:=⟨rfl,rfl,rfl,rfl,rfl,rfl,rfl,rfl⟩
theorem wW (n:Nat):(nC n).body=(Tryd.f65.body).getD .skip:=rfl
noncomputable def r9 (n:Nat):{B:((List Str)→Int→Int→Option Int)→(List Str)→Int→Int→Option Int // ∀m X0,(∀ (v0:List Str) (v1:Int) (v2:Int),run (nC n) [.lq m [0,1,0,1],.q9 0,.cut [1,1],.at [1,1]] ⟨[.nY false 1 (mp pP v0),.func (.func 39) [] [],qA,qA,qA,qA,qA,.int .i64 v1,.int .i64 v2,qA,qA,qA,qA,qA,qA,qA,qA,qA,qA],[],0,[]⟩=X0 v0 v1 v2)→ ∀ (v0:List Str) (v1:Int) (v2:Int),run (nC n) [.at [0,0,1,0,1],.lp m [0,1,0,1],.q9 0,.cut [1,1],.at [1,1]] ⟨[.nY false 1 (mp pP v0),.func (.func 39) [] [],qA,qA,qA,qA,qA,.int .i64 v1,.int .i64 v2,qA,qA,qA,qA,qA,qA,qA,qA,qA,qA],[],0,[]⟩=B X0 v0 v1 v2}:=by
 apply iU
 intro m X0 ih v0 v1 v2
 simp (config:={maxSteps:=100000000}) only[go_sem,iL,iM,iH,iI,iN,iO,iQ,iR,iS,iK,iP,iT,wV,wW,Tryd.f65,iJ,mixed,rZ,ih]
 exact rfl
noncomputable def qg (n:Nat):Nat→(List Str)→Int→Int→Option Int
 |0,_,_,_=>none
 |m+1,v0,v1,v2=>(r9 n).1 (qg n m) v0 v1 v2
theorem vS (n:Nat): ∀ (m:Nat),(∀ (v0:List Str) (v1:Int) (v2:Int),run (nC n) [.lq m [0,1,0,1],.q9 0,.cut [1,1],.at [1,1]] ⟨[.nY false 1 (mp pP v0),.func (.func 39) [] [],qA,qA,qA,qA,qA,.int .i64 v1,.int .i64 v2,qA,qA,qA,qA,qA,qA,qA,qA,qA,qA],[],0,[]⟩=qg n m v0 v1 v2)
 |0=>by intros;exact nK
 |m+1=>by
  have ih:=vS n m
  intro v0 v1 v2
  rw[nL]
  exact (r9 n).2 m _ ih v0 v1 v2
noncomputable def uA (n:Nat):{B:(List Str)→Unit→Option Int // ∀ (a0:(List Str)) (a1:Unit),run (nC n) [.at []] {slots:=[(tyL sD).enc a0,(E4 39).enc a1]++iV (19-[(tyL sD).enc a0,(E4 39).enc a1].length) qA,heap:=[]}=B a0 a1}:=by
 apply iU
 intro a0 a1
 simp (config:={maxSteps:=100000000}) only[go_sem,iL,iM,iH,iI,iN,iO,iQ,iR,iS,iK,iP,iT,wV,wW,Tryd.f65,iJ,mixed,rZ,vS n]
 exact rfl
noncomputable def sN:Nat→(List Str)→Unit→Option Int
 |0,_,_=>none
 |n+1,a0,a1=>(uA n).1 a0 a1
theorem Bi: ∀ (n:Nat) (a0:(List Str)) (a1:Unit) (r:Int),sN n a0 a1=some r→xY Tryd.prog 65 [(tyL sD).enc a0,(E4 39).enc a1] (fun v=>v=(pT .i64).enc r)
 |0,_,_,_,h=>by cases h
 |n+1,a0,a1,r,h=>by
  exact pg (M:=nC n) ⟨(mZ (pZ (OF n)) m5),m6,nT _,nU _,oS,oQ,pz,oX⟩ Tryd.func65 rfl rfl ⟨(tyL sD).nb 0 _,(E4 39).nb 0 _,trivial⟩ Tryd.ntmps65 Tryd.results65 (fun σ hs=>oZ (P:=Tryd.prog) (rs:=[.tmp 4]) (t:=(pT .i64)) (σ:=σ) (r:=r) hs) (((uA n).2 a0 a1).trans h)
noncomputable def DL:Nrm:=⟨[],[],[zA,zA,zA,zK,zA,zA,zA,zA,zT (tyL Syntax.row),zK,zK,zA,zA,zA,zA,zA,zA,zA,zA,zA,zA,zA,zA,zA],[],none,none⟩
noncomputable def tg (n:Nat):Mach Bool where
 body:=(Tryd.f14.body).getD .skip
 P:=Tryd.prog
 cl:=oJ [(50,su (nG Syntax.cel) (pT .i64) (Lt (pT .i64) oF) (yu n))]
 cd:=oN []
 qR:=oO [([0,1,0,1,1],DL)]
 cut:=oP []
 n:=n
 out:=pS Tryd.prog [.tmp 2] oF
 q6:=nJ []
theorem Mf (n:Nat):(tg n).P=Tryd.prog∧(tg n).cl=oJ [(50,su (nG Syntax.cel) (pT .i64) (Lt (pT .i64) oF) (yu n))]∧(tg n).cd=oN []∧(tg n).qR=oO [([0,1,0,1,1],DL)]∧(tg n).cut=oP []∧(tg n).n=n∧(tg n).out=pS Tryd.prog [.tmp 2] oF∧(tg n).q6=nJ []:=⟨rfl,rfl,rfl,rfl,rfl,rfl,rfl,rfl⟩
theorem Mg (n:Nat):(tg n).body=(Tryd.f14.body).getD .skip:=rfl
noncomputable def DM (n:Nat):{B:(Int→(List Syntax)→Int→Int→Option Bool)→Int→(List Syntax)→Int→Int→Option Bool // ∀m X0,(∀ (v0:Int) (v1:List Syntax) (v2:Int) (v3:Int),run (tg n) [.lq m [0,1,0,1,1],.q9 0,.cut [1,1,1],.at [1,1,1]] ⟨[qA,qA,qA,.int .i64 v0,qA,qA,qA,qA,.nY false 8 (mp Syntax.cells v1),.int .i64 v2,.int .i64 v3,qA,qA,qA,qA,qA,qA,qA,qA,qA,qA,qA,qA,qA],[],0,[]⟩=X0 v0 v1 v2 v3)→ ∀ (v0:Int) (v1:List Syntax) (v2:Int) (v3:Int),run (tg n) [.at [0,0,1,0,1,1],.lp m [0,1,0,1,1],.q9 0,.cut [1,1,1],.at [1,1,1]] ⟨[qA,qA,qA,.int .i64 v0,qA,qA,qA,qA,.nY false 8 (mp Syntax.cells v1),.int .i64 v2,.int .i64 v3,qA,qA,qA,qA,qA,qA,qA,qA,qA,qA,qA,qA,qA],[],0,[]⟩=B X0 v0 v1 v2 v3}:=by
 apply iU
 intro m X0 ih v0 v1 v2 v3
 simp (config:={maxSteps:=100000000}) only[go_sem,iL,iM,iH,iI,iN,iO,iQ,iR,iS,iK,iP,iT,Mf,Mg,Tryd.f14,iJ,mixed,DL,ih]
 exact rfl
noncomputable def Al (n:Nat):Nat→Int→(List Syntax)→Int→Int→Option Bool
 |0,_,_,_,_=>none
 |m+1,v0,v1,v2,v3=>(DM n).1 (Al n m) v0 v1 v2 v3
theorem HQ (n:Nat): ∀ (m:Nat),(∀ (v0:Int) (v1:List Syntax) (v2:Int) (v3:Int),run (tg n) [.lq m [0,1,0,1,1],.q9 0,.cut [1,1,1],.at [1,1,1]] ⟨[qA,qA,qA,.int .i64 v0,qA,qA,qA,qA,.nY false 8 (mp Syntax.cells v1),.int .i64 v2,.int .i64 v3,qA,qA,qA,qA,qA,qA,qA,qA,qA,qA,qA,qA,qA],[],0,[]⟩=Al n m v0 v1 v2 v3)
 |0=>by intros;exact nK
 |m+1=>by
  have ih:=HQ n m
  intro v0 v1 v2 v3
  rw[nL]
  exact (DM n).2 m _ ih v0 v1 v2 v3
noncomputable def IE (n:Nat):{B:(List Syntax)→Option Bool // ∀ (a0:(List Syntax)),run (tg n) [.at []] {slots:=[(tyL Syntax.row).enc a0]++iV (24-[(tyL Syntax.row).enc a0].length) qA,heap:=[]}=B a0}:=by
 apply iU
 intro a0
 simp (config:={maxSteps:=100000000}) only[go_sem,iL,iM,iH,iI,iN,iO,iQ,iR,iS,iK,iP,iT,Mf,Mg,Tryd.f14,iJ,mixed,DL,HQ n]
 exact rfl
noncomputable def zk:Nat→(List Syntax)→Option Bool
 |0,_=>none
 |n+1,a0=>(IE n).1 a0
theorem GN: ∀ (n:Nat) (a0:(List Syntax)) (r:Bool),zk n a0=some r→xY Tryd.prog 14 [(tyL Syntax.row).enc a0] (fun v=>v=oF.enc r)
 |0,_,_,h=>by cases h
 |n+1,a0,r,h=>by
  exact pg (M:=tg n) ⟨(mZ (sI (KQ n)) m5),m6,nT _,nU _,oS,oQ,pz,oX⟩ Tryd.func14 rfl rfl ⟨(tyL Syntax.row).nb 0 _,trivial⟩ Tryd.ntmps14 Tryd.results14 (fun σ hs=>oZ (P:=Tryd.prog) (rs:=[.tmp 2]) (t:=oF) (σ:=σ) (r:=r) hs) (((IE n).2 a0).trans h)
noncomputable def BH:Nrm:=⟨[],[],[zA,zA,zK,zK,zK,zA,zA,zA,zK,zA,zA,zA,zA,zA,zA,zA,zA,zA,zA,zA,zA,zA,zA,zA,zA,zA,zA,zA,zA,zA,zA,zA,zA,zA,zA,zA,zA,zA,zA,zA,zA,zA,zA,zA,zA,zA,zA,zA,zA,zA,zA,zA,zA,zA,zA,zA,zA,zA,zA,zA,zA,zA,zA,zA,zA,zA,zA,zA,zA,zA,zA,zA,zA,zA,zA,zA,zA,zA,zA,zA,zA,zA,zA,zA,zA,zA,zA,zA,zA,zA,zA,zA,zA,zA,zA,zA,zA,zA,zA,zA,zA,zA,zA,zA,zA,zA,zA],[oT Syntax.cel,oT Syntax.cel],none,none⟩
noncomputable def BI:Nrm:=⟨[],[],[zA,zA,zK,zK,zK,zA,zA,zK,zA,zA,zA,zA,zA,zA,zA,zA,zA,zA,zA,zA,zA,zA,zA,zA,zA,zA,zA,zA,zA,zA,zA,zA,zA,zA,zA,zA,zA,zA,zA,zA,zA,zA,zA,zA,zA,zA,zA,zA,zA,zA,zA,zA,zA,zA,zA,zA,zA,zA,zA,zA,zA,zA,zA,zA,zA,zA,zA,zA,zA,zA,zA,zA,zA,zA,zA,zA,zA,zA,zA,zA,zA,zA,zA,zA,zA,zA,zA,zA,zA,zA,zA,zA,zA,zA,zA,zA,zA,zA,zA,zA,zA,zA,zA,zA,zA,zA,zA],[oT Syntax.cel,oT Syntax.cel],none,none⟩
noncomputable def qv (X:Syntax→Syntax→Bool→Option Bool) (n:Nat):Mach Bool where
 body:=(Tryd.f17.body).getD .skip
 P:=Tryd.prog
 cl:=oJ [(55,su (tyL mT.row) (tyL mT.row) oF (Ac n))]
 cd:=oN [(17,vW (MO (nG Syntax.cel) (nG Syntax.cel) oF oF X))]
 qR:=oO [([0,1,0,1,1,1,1],BH),([0,1,0,1,1,1],BI)]
 cut:=oP []
 n:=n
 out:=pS Tryd.prog [.tmp 6] oF
 q6:=nJ []
 B1:=nJ []
 B0:=nJ []
theorem IF (X:Syntax→Syntax→Bool→Option Bool) (n:Nat):(qv X n).P=Tryd.prog∧(qv X n).cl=oJ [(55,su (tyL mT.row) (tyL mT.row) oF (Ac n))]∧(qv X n).cd=oN [(17,vW (MO (nG Syntax.cel) (nG Syntax.cel) oF oF X))]∧(qv X n).qR=oO [([0,1,0,1,1,1,1],BH),([0,1,0,1,1,1],BI)]∧(qv X n).cut=oP []∧(qv X n).n=n∧(qv X n).out=pS Tryd.prog [.tmp 6] oF∧(qv X n).q6=nJ []∧(qv X n).B1=nJ []∧(qv X n).B0=nJ []:=⟨rfl,rfl,rfl,rfl,rfl,rfl,rfl,rfl,rfl,rfl⟩
theorem IG (X:Syntax→Syntax→Bool→Option Bool) (n:Nat):(qv X n).body=(Tryd.f17.body).getD .skip:=rfl
theorem II (X:Syntax→Syntax→Bool→Option Bool) (n:Nat):wH (qv X n) [0,0,0,1,0,0,1,0,1,1,1]=true∧wH (qv X n) [0,0,0,1,0,0,1,0,1,1,1,1]=true:=⟨by kernel_rfl,by kernel_rfl⟩
noncomputable def DN (X:Syntax→Syntax→Bool→Option Bool) (n:Nat):{B:(Bool→Int→Syntax→Syntax→Option Bool)→Bool→Int→Syntax→Syntax→Option Bool // ∀m X0,(∀ (v0:Bool) (v1:Int) (o0:Syntax) (o1:Syntax),run (qv X n) [.lq m [0,1,0,1,1,1,1],.q9 2,.cut [1,1,1,1,1],.at [1,1,1,1,1]] ⟨[qA,qA,.bool v0,.ptr 0 0,.ptr 1 0,qA,qA,qA,.int .i64 v1,qA,qA,qA,qA,qA,qA,qA,qA,qA,qA,qA,qA,qA,qA,qA,qA,qA,qA,qA,qA,qA,qA,qA,qA,qA,qA,qA,qA,qA,qA,qA,qA,qA,qA,qA,qA,qA,qA,qA,qA,qA,qA,qA,qA,qA,qA,qA,qA,qA,qA,qA,qA,qA,qA,qA,qA,qA,qA,qA,qA,qA,qA,qA,qA,qA,qA,qA,qA,qA,qA,qA,qA,qA,qA,qA,qA,qA,qA,qA,qA,qA,qA,qA,qA,qA,qA,qA,qA,qA,qA,qA,qA,qA,qA,qA,qA,qA,qA],[.cells (Syntax.cells o0),.cells (Syntax.cells o1)],0,[]⟩=X0 v0 v1 o0 o1)→ ∀ (v0:Bool) (v1:Int) (o0:Syntax) (o1:Syntax),run (qv X n) [.at [0,0,1,0,1,1,1,1],.lp m [0,1,0,1,1,1,1],.q9 2,.cut [1,1,1,1,1],.at [1,1,1,1,1]] ⟨[qA,qA,.bool v0,.ptr 0 0,.ptr 1 0,qA,qA,qA,.int .i64 v1,qA,qA,qA,qA,qA,qA,qA,qA,qA,qA,qA,qA,qA,qA,qA,qA,qA,qA,qA,qA,qA,qA,qA,qA,qA,qA,qA,qA,qA,qA,qA,qA,qA,qA,qA,qA,qA,qA,qA,qA,qA,qA,qA,qA,qA,qA,qA,qA,qA,qA,qA,qA,qA,qA,qA,qA,qA,qA,qA,qA,qA,qA,qA,qA,qA,qA,qA,qA,qA,qA,qA,qA,qA,qA,qA,qA,qA,qA,qA,qA,qA,qA,qA,qA,qA,qA,qA,qA,qA,qA,qA,qA,qA,qA,qA,qA,qA,qA],[.cells (Syntax.cells o0),.cells (Syntax.cells o1)],0,[]⟩=B X0 v0 v1 o0 o1}:=by
 apply iU
 intro m X0 ih v0 v1 o0 o1
 simp (config:={maxSteps:=100000000}) only[go_sem,iL,iM,iH,iI,iN,iO,iQ,iR,iS,iK,iP,iT,IF,IG,Tryd.f17,iJ,mixed,II,BH,BI,ih]
 exact rfl
noncomputable def yG (X:Syntax→Syntax→Bool→Option Bool) (n:Nat):Nat→Bool→Int→Syntax→Syntax→Option Bool
 |0,_,_,_,_=>none
 |m+1,v0,v1,o0,o1=>(DN X n).1 (yG X n m) v0 v1 o0 o1
theorem DO (X:Syntax→Syntax→Bool→Option Bool) (n:Nat): ∀ (m:Nat),(∀ (v0:Bool) (v1:Int) (o0:Syntax) (o1:Syntax),run (qv X n) [.lq m [0,1,0,1,1,1,1],.q9 2,.cut [1,1,1,1,1],.at [1,1,1,1,1]] ⟨[qA,qA,.bool v0,.ptr 0 0,.ptr 1 0,qA,qA,qA,.int .i64 v1,qA,qA,qA,qA,qA,qA,qA,qA,qA,qA,qA,qA,qA,qA,qA,qA,qA,qA,qA,qA,qA,qA,qA,qA,qA,qA,qA,qA,qA,qA,qA,qA,qA,qA,qA,qA,qA,qA,qA,qA,qA,qA,qA,qA,qA,qA,qA,qA,qA,qA,qA,qA,qA,qA,qA,qA,qA,qA,qA,qA,qA,qA,qA,qA,qA,qA,qA,qA,qA,qA,qA,qA,qA,qA,qA,qA,qA,qA,qA,qA,qA,qA,qA,qA,qA,qA,qA,qA,qA,qA,qA,qA,qA,qA,qA,qA,qA,qA],[.cells (Syntax.cells o0),.cells (Syntax.cells o1)],0,[]⟩=yG X n m v0 v1 o0 o1)
 |0=>by intros;exact nK
 |m+1=>by
  have ih:=DO X n m
  intro v0 v1 o0 o1
  rw[nL]
  exact (DN X n).2 m _ ih v0 v1 o0 o1
noncomputable def DP (X:Syntax→Syntax→Bool→Option Bool) (n:Nat):{B:(Bool→Int→Syntax→Syntax→Option Bool)→Bool→Int→Syntax→Syntax→Option Bool // ∀m X0,(∀ (v0:Bool) (v1:Int) (o0:Syntax) (o1:Syntax),run (qv X n) [.lq m [0,1,0,1,1,1],.q9 0,.cut [1,1,1,1],.at [1,1,1,1]] ⟨[qA,qA,.bool v0,.ptr 0 0,.ptr 1 0,qA,qA,.int .i64 v1,qA,qA,qA,qA,qA,qA,qA,qA,qA,qA,qA,qA,qA,qA,qA,qA,qA,qA,qA,qA,qA,qA,qA,qA,qA,qA,qA,qA,qA,qA,qA,qA,qA,qA,qA,qA,qA,qA,qA,qA,qA,qA,qA,qA,qA,qA,qA,qA,qA,qA,qA,qA,qA,qA,qA,qA,qA,qA,qA,qA,qA,qA,qA,qA,qA,qA,qA,qA,qA,qA,qA,qA,qA,qA,qA,qA,qA,qA,qA,qA,qA,qA,qA,qA,qA,qA,qA,qA,qA,qA,qA,qA,qA,qA,qA,qA,qA,qA,qA],[.cells (Syntax.cells o0),.cells (Syntax.cells o1)],0,[]⟩=X0 v0 v1 o0 o1)→ ∀ (v0:Bool) (v1:Int) (o0:Syntax) (o1:Syntax),run (qv X n) [.at [0,0,1,0,1,1,1],.lp m [0,1,0,1,1,1],.q9 0,.cut [1,1,1,1],.at [1,1,1,1]] ⟨[qA,qA,.bool v0,.ptr 0 0,.ptr 1 0,qA,qA,.int .i64 v1,qA,qA,qA,qA,qA,qA,qA,qA,qA,qA,qA,qA,qA,qA,qA,qA,qA,qA,qA,qA,qA,qA,qA,qA,qA,qA,qA,qA,qA,qA,qA,qA,qA,qA,qA,qA,qA,qA,qA,qA,qA,qA,qA,qA,qA,qA,qA,qA,qA,qA,qA,qA,qA,qA,qA,qA,qA,qA,qA,qA,qA,qA,qA,qA,qA,qA,qA,qA,qA,qA,qA,qA,qA,qA,qA,qA,qA,qA,qA,qA,qA,qA,qA,qA,qA,qA,qA,qA,qA,qA,qA,qA,qA,qA,qA,qA,qA,qA,qA],[.cells (Syntax.cells o0),.cells (Syntax.cells o1)],0,[]⟩=B X0 v0 v1 o0 o1}:=by
 apply iU
 intro m X0 ih v0 v1 o0 o1
 simp (config:={maxSteps:=100000000}) only[go_sem,iL,iM,iH,iI,iN,iO,iQ,iR,iS,iK,iP,iT,IF,IG,Tryd.f17,iJ,mixed,II,BH,BI,DO X n,ih]
 exact rfl
noncomputable def yH (X:Syntax→Syntax→Bool→Option Bool) (n:Nat):Nat→Bool→Int→Syntax→Syntax→Option Bool
 |0,_,_,_,_=>none
 |m+1,v0,v1,o0,o1=>(DP X n).1 (yH X n m) v0 v1 o0 o1
theorem HR (X:Syntax→Syntax→Bool→Option Bool) (n:Nat): ∀ (m:Nat),(∀ (v0:Bool) (v1:Int) (o0:Syntax) (o1:Syntax),run (qv X n) [.lq m [0,1,0,1,1,1],.q9 0,.cut [1,1,1,1],.at [1,1,1,1]] ⟨[qA,qA,.bool v0,.ptr 0 0,.ptr 1 0,qA,qA,.int .i64 v1,qA,qA,qA,qA,qA,qA,qA,qA,qA,qA,qA,qA,qA,qA,qA,qA,qA,qA,qA,qA,qA,qA,qA,qA,qA,qA,qA,qA,qA,qA,qA,qA,qA,qA,qA,qA,qA,qA,qA,qA,qA,qA,qA,qA,qA,qA,qA,qA,qA,qA,qA,qA,qA,qA,qA,qA,qA,qA,qA,qA,qA,qA,qA,qA,qA,qA,qA,qA,qA,qA,qA,qA,qA,qA,qA,qA,qA,qA,qA,qA,qA,qA,qA,qA,qA,qA,qA,qA,qA,qA,qA,qA,qA,qA,qA,qA,qA,qA,qA],[.cells (Syntax.cells o0),.cells (Syntax.cells o1)],0,[]⟩=yH X n m v0 v1 o0 o1)
 |0=>by intros;exact nK
 |m+1=>by
  have ih:=HR X n m
  intro v0 v1 o0 o1
  rw[nL]
  exact (DP X n).2 m _ ih v0 v1 o0 o1
noncomputable def E8 (X:Syntax→Syntax→Bool→Option Bool) (n:Nat):{B:Syntax→Syntax→Bool→Option Bool // ∀ (a0:Syntax) (a1:Syntax) (a2:Bool),run (qv X n) [.at []] {slots:=[(nG Syntax.cel).enc a0,(nG Syntax.cel).enc a1,oF.enc a2]++iV (107-[(nG Syntax.cel).enc a0,(nG Syntax.cel).enc a1,oF.enc a2].length) qA,heap:=[]}=B a0 a1 a2}:=by
 apply iU
 intro a0 a1 a2
 simp (config:={maxSteps:=100000000}) only[go_sem,iL,iM,iH,iI,iN,iO,iQ,iR,iS,iK,iP,iT,IF,IG,Tryd.f17,iJ,mixed,II,BH,BI,DO X n,HR X n]
 exact rfl
noncomputable def rC:Nat→Syntax→Syntax→Bool→Option Bool
 |0,_,_,_=>none
 |n+1,a0,a1,a2=>(E8 (rC n) n).1 a0 a1 a2
theorem BJ: ∀ (n:Nat) (a0:Syntax) (a1:Syntax) (a2:Bool) (r:Bool),rC n a0 a1 a2=some r→xY Tryd.prog 17 [(nG Syntax.cel).enc a0,(nG Syntax.cel).enc a1,oF.enc a2] (fun v=>v=oF.enc r)
 |0,_,_,_,_,h=>by cases h
 |n+1,a0,a1,a2,r,h=>by
  have Sd:=BJ n
  exact pg (M:=qv (rC n) n) ⟨(mZ (sI (LU n)) m5),(qt (RA (Sd)) m6),nT _,nU _,oS,oQ,pz,oX⟩ Tryd.func17 rfl rfl ⟨(nG Syntax.cel).nb 0 _,(nG Syntax.cel).nb 0 _,oF.nb 0 _,trivial⟩ Tryd.ntmps17 Tryd.results17 (fun σ hs=>oZ (P:=Tryd.prog) (rs:=[.tmp 6]) (t:=oF) (σ:=σ) (r:=r) hs) (((E8 (rC n) n).2 a0 a1 a2).trans h)
noncomputable def DQ:Nrm:=⟨[(3,8,true)],[],[zA,zA,zA,zK,zA,zA,zT (tyL sD),zK,zK,zA,zA,zA,zA,zA,zA,zA,zA,zA,zA,zA,zA,zA,zA,zA,zA,zA,zA,zA,zA,zA,zA,zA,zA,zA,zA,zA,zA,zA],[oA Syntax.row],none,none⟩
noncomputable def th (n:Nat):Mach (List Syntax) where
 body:=(Tryd.f40.body).getD .skip
 P:=Tryd.prog
 cl:=oJ [(27,p9 uI (nG Syntax.cel) (C0 n)),(28,p9 uI (nG Syntax.cel) (JQ n))]
 cd:=oN []
 qR:=oO [([0,1,0,1,1],DQ)]
 cut:=oP []
 n:=n
 out:=pS Tryd.prog [.tmp 2] (tyL Syntax.row)
 q6:=nJ []
theorem Mh (n:Nat):(th n).P=Tryd.prog∧(th n).cl=oJ [(27,p9 uI (nG Syntax.cel) (C0 n)),(28,p9 uI (nG Syntax.cel) (JQ n))]∧(th n).cd=oN []∧(th n).qR=oO [([0,1,0,1,1],DQ)]∧(th n).cut=oP []∧(th n).n=n∧(th n).out=pS Tryd.prog [.tmp 2] (tyL Syntax.row)∧(th n).q6=nJ []:=⟨rfl,rfl,rfl,rfl,rfl,rfl,rfl,rfl⟩
theorem Mi (n:Nat):(th n).body=(Tryd.f40.body).getD .skip:=rfl
noncomputable def KW (n:Nat):{B:((List Str)→Int→Int→(List Syntax)→Option (List Syntax))→(List Str)→Int→Int→(List Syntax)→Option (List Syntax) // ∀m X0,(∀ (v0:List Str) (v1:Int) (v2:Int) (r0:List Syntax) (c0:Nat),c0=r0.length→run (th n) [.lq m [0,1,0,1,1],.q9 0,.cut [1,1,1],.at [1,1,1]] ⟨[qA,qA,qA,.acc 0 c0,qA,qA,.nY false 1 (mp pP v0),.int .i64 v1,.int .i64 v2,qA,qA,qA,qA,qA,qA,qA,qA,qA,qA,qA,qA,qA,qA,qA,qA,qA,qA,qA,qA,qA,qA,qA,qA,qA,qA,qA,qA,qA],[.acc true 8 (mp Syntax.cells r0)],0,[]⟩=X0 v0 v1 v2 r0)→ ∀ (v0:List Str) (v1:Int) (v2:Int) (r0:List Syntax),run (th n) [.at [0,0,1,0,1,1],.lp m [0,1,0,1,1],.q9 0,.cut [1,1,1],.at [1,1,1]] ⟨[qA,qA,qA,.acc 0 r0.length,qA,qA,.nY false 1 (mp pP v0),.int .i64 v1,.int .i64 v2,qA,qA,qA,qA,qA,qA,qA,qA,qA,qA,qA,qA,qA,qA,qA,qA,qA,qA,qA,qA,qA,qA,qA,qA,qA,qA,qA,qA,qA],[.acc true 8 (mp Syntax.cells r0)],0,[]⟩=B X0 v0 v1 v2 r0}:=by
 apply iU
 intro m X0 ih v0 v1 v2 r0
 simp (config:={maxSteps:=100000000}) only[go_sem,iL,iM,iH,iI,iN,iO,iQ,iR,iS,iK,iP,iT,Mh,Mi,Tryd.f40,iJ,mixed,DQ,ih]
 exact rfl
noncomputable def KX (n:Nat):Nat→(List Str)→Int→Int→(List Syntax)→Option (List Syntax)
 |0,_,_,_,_=>none
 |m+1,v0,v1,v2,r0=>(KW n).1 (KX n m) v0 v1 v2 r0
theorem HT (n:Nat): ∀ (m:Nat),(∀ (v0:List Str) (v1:Int) (v2:Int) (r0:List Syntax) (c0:Nat),c0=r0.length→run (th n) [.lq m [0,1,0,1,1],.q9 0,.cut [1,1,1],.at [1,1,1]] ⟨[qA,qA,qA,.acc 0 c0,qA,qA,.nY false 1 (mp pP v0),.int .i64 v1,.int .i64 v2,qA,qA,qA,qA,qA,qA,qA,qA,qA,qA,qA,qA,qA,qA,qA,qA,qA,qA,qA,qA,qA,qA,qA,qA,qA,qA,qA,qA,qA],[.acc true 8 (mp Syntax.cells r0)],0,[]⟩=KX n m v0 v1 v2 r0)
 |0=>by intros;exact nK
 |m+1=>by
  have ih:=HT n m
  intro v0 v1 v2 r0 c0 ec0
  subst ec0
  rw[nL]
  exact (KW n).2 m _ ih v0 v1 v2 r0
noncomputable def Mj (n:Nat):{B:(List Str)→Option (List Syntax) // ∀ (a0:(List Str)),run (th n) [.at []] {slots:=[(tyL sD).enc a0]++iV (38-[(tyL sD).enc a0].length) qA,heap:=[]}=B a0}:=by
 apply iU
 intro a0
 simp (config:={maxSteps:=100000000}) only[go_sem,iL,iM,iH,iI,iN,iO,iQ,iR,iS,iK,iP,iT,Mh,Mi,Tryd.f40,iJ,mixed,DQ,HT n]
 exact rfl
noncomputable def FE:Nat→(List Str)→Option (List Syntax)
 |0,_=>none
 |n+1,a0=>(Mj n).1 a0
theorem KY: ∀ (n:Nat) (a0:(List Str)) (r:(List Syntax)),FE n a0=some r→xY Tryd.prog 40 [(tyL sD).enc a0] (fun v=>v=(tyL Syntax.row).enc r)
 |0,_,_,h=>by cases h
 |n+1,a0,r,h=>by
  exact pg (M:=th n) ⟨(mZ (pZ (Ir n)) (mZ (pZ (Ql n)) m5)),m6,nT _,nU _,oS,oQ,pz,oX⟩ Tryd.func40 rfl rfl ⟨(tyL sD).nb 0 _,trivial⟩ Tryd.ntmps40 Tryd.results40 (fun σ hs=>oZ (P:=Tryd.prog) (rs:=[.tmp 2]) (t:=(tyL Syntax.row)) (σ:=σ) (r:=r) hs) (((Mj n).2 a0).trans h)
noncomputable def n9:OL T7:=(tA (B4 (xL 1 (xL 2 (xL 3 (qO (pT .i64) pV))))) (tA (wI (nG Notation.cel)) (tA (wI (nG Notation.cel)) (tA Ke yt))))
noncomputable def qJ:OL T7:=(tA (B4 (xL 1 (xL 2 (xL 3 (qO (pT .i64) pV))))) (tA (wI (nG Notation.cel)) (tA (wI (nG Notation.cel)) (tA Ke yt))))
noncomputable def qK:OL T7:=(tA (B4 (xL 1 (xL 2 (xL 3 (qO (pT .i64) pV))))) (tA (wI (nG Notation.cel)) (tA (wI (nG Notation.cel)) (tA Ke yt))))
noncomputable def pR (n:Nat):Mach (PR Tj Tj) where
 body:=(Tryd.f95.body).getD .skip
 P:=Tryd.prog
 cl:=oJ [(43,p9 (nG Notation.cel) oF (tY n))]
 cd:=oN []
 qR:=oO []
 cut:=oP []
 n:=n
 out:=RY Tryd.prog [.tmp 4,.tmp 5,.tmp 6] [] [0,1,2,3] 4 qJ (xL 2 (qO uI (qO (tyL sD) pV))) [] qK (xL 1 (qO uI (qO (tyL sD) pV)))
 q6:=nJ []
 B1:=nJ []
 B0:=nJ []
theorem JV (n:Nat):(pR n).P=Tryd.prog∧(pR n).cl=oJ [(43,p9 (nG Notation.cel) oF (tY n))]∧(pR n).cd=oN []∧(pR n).qR=oO []∧(pR n).cut=oP []∧(pR n).n=n∧(pR n).out=RY Tryd.prog [.tmp 4,.tmp 5,.tmp 6] [] [0,1,2,3] 4 qJ (xL 2 (qO uI (qO (tyL sD) pV))) [] qK (xL 1 (qO uI (qO (tyL sD) pV)))∧(pR n).q6=nJ []∧(pR n).B1=nJ []∧(pR n).B0=nJ []:=⟨rfl,rfl,rfl,rfl,rfl,rfl,rfl,rfl,rfl,rfl⟩
theorem JW (n:Nat):(pR n).body=(Tryd.f95.body).getD .skip:=rfl
theorem JX (n:Nat):wH (pR n) [0,0,1,0,1]=true∧wH (pR n) [0,1,1]=true:=⟨by kernel_rfl,by kernel_rfl⟩
noncomputable def AK (n:Nat):{B:Notation→Int→T3→T3→T5→Option (PR Tj Tj) // ∀ (a0:Notation) (o0:Int) (o1:T3) (o2:T3) (o3:T5),run (pR n) [.at []] {slots:=((uk 0 (qO (nG Notation.cel) pV)).enc (n9.lens ((o0,()),o1,o2,o3,())) (a0,()))++iV (31-((uk 0 (qO (nG Notation.cel) pV)).enc (n9.lens ((o0,()),o1,o2,o3,())) (a0,())).length) qA,heap:=(n9.enc (n9.lens ((o0,()),o1,o2,o3,())) ((o0,()),o1,o2,o3,())),low:=(n9.enc (n9.lens ((o0,()),o1,o2,o3,())) ((o0,()),o1,o2,o3,())).length}=B a0 o0 o1 o2 o3}:=by
 apply iU
 intro a0 o0 o1 o2 o3
 simp (config:={maxSteps:=100000000}) only[go_sem,iL,iM,iH,iI,iN,iO,iQ,iR,iS,iK,iP,iT,JV,JW,Tryd.f95,iJ,mixed,n9,qJ,qK,JX]
 exact rfl
noncomputable def zl:Nat→Notation→Int→T3→T3→T5→Option (PR Tj Tj)
 |0,_,_,_,_,_=>none
 |n+1,a0,o0,o1,o2,o3=>(AK n).1 a0 o0 o1 o2 o3
theorem Ji: ∀ (n:Nat) (a0:Notation) (o0:Int) (o1:T3) (o2:T3) (o3:T5) (r:(PR Tj Tj)),zl n a0 o0 o1 o2 o3=some r→FnP Tryd.prog 95 ((uk 0 (qO (nG Notation.cel) pV)).enc (n9.lens ((o0,()),o1,o2,o3,())) (a0,())) (n9.enc (n9.lens ((o0,()),o1,o2,o3,())) ((o0,()),o1,o2,o3,())) (enP false qJ (xL 2 (qO uI (qO (tyL sD) pV))) qK (xL 1 (qO uI (qO (tyL sD) pV))) r)
 |0,_,_,_,_,_,_,h=>by cases h
 |n+1,a0,o0,o1,o2,o3,r,h=>by
  exact fnS_run (p1:=[]) (p2:=[]) (b1:=[0,1,2,3]) (M:=pR n) ⟨(mZ (pZ (Ad n)) m5),m6,nT _,nU _,oS,oQ,pz,oX⟩ Tryd.func95 rfl rfl (sP (iW (of_decide_eq_true (by kernel_rfl)) (iX (n9.sz _ _).symm)) _ ((uk 0 (qO (nG Notation.cel) pV)).nb _ _)) (fun x hx=>uC (iW (of_decide_eq_true (by kernel_rfl)) (iX (n9.sz _ _).symm)) _ (n9.nb _ _ x hx)) Tryd.ntmps95 Tryd.results95 (low:=4) (by rfl) rfl (((AK n).2 a0 o0 o1 o2 o3).trans h)
noncomputable def uP (n:Nat):Mach Bool where
 body:=(Tryd.f67.body).getD .skip
 P:=Tryd.prog
 cl:=oJ [(66,p9 (pT .u8) (pT .i64) (BF n))]
 cd:=oN []
 qR:=oO []
 cut:=oP []
 n:=n
 out:=pS Tryd.prog [.tmp 2] oF
 q6:=nJ []
theorem Se (n:Nat):(uP n).P=Tryd.prog∧(uP n).cl=oJ [(66,p9 (pT .u8) (pT .i64) (BF n))]∧(uP n).cd=oN []∧(uP n).qR=oO []∧(uP n).cut=oP []∧(uP n).n=n∧(uP n).out=pS Tryd.prog [.tmp 2] oF∧(uP n).q6=nJ []:=⟨rfl,rfl,rfl,rfl,rfl,rfl,rfl,rfl⟩
theorem Sf (n:Nat):(uP n).body=(Tryd.f67.body).getD .skip:=rfl
noncomputable def GO (n:Nat):{B:Int→Option Bool // ∀ (a0:Int),run (uP n) [.at []] {slots:=[(pT .u8).enc a0]++iV (15-[(pT .u8).enc a0].length) qA,heap:=[]}=B a0}:=by
 apply iU
 intro a0
 simp (config:={maxSteps:=100000000}) only[go_sem,iL,iM,iH,iI,iN,iO,iQ,iR,iS,iK,iP,iT,Se,Sf,Tryd.f67,iJ,mixed]
 exact rfl
noncomputable def DR:Nat→Int→Option Bool
 |0,_=>none
 |n+1,a0=>(GO n).1 a0
theorem Qq: ∀ (n:Nat) (a0:Int) (r:Bool),DR n a0=some r→xY Tryd.prog 67 [(pT .u8).enc a0] (fun v=>v=oF.enc r)
 |0,_,_,h=>by cases h
 |n+1,a0,r,h=>by
  exact pg (M:=uP n) ⟨(mZ (pZ (KU n)) m5),m6,nT _,nU _,oS,oQ,pz,oX⟩ Tryd.func67 rfl rfl ⟨(pT .u8).nb 0 _,trivial⟩ Tryd.ntmps67 Tryd.results67 (fun σ hs=>oZ (P:=Tryd.prog) (rs:=[.tmp 2]) (t:=oF) (σ:=σ) (r:=r) hs) (((GO n).2 a0).trans h)
end Go.Abs
namespace Go.Abs
open Go.Proofs
set_option maxRecDepth 100000
set_option maxHeartbeats 4000000
noncomputable def yf:Nrm:=⟨[],[],[zK,zT (tyP cS),zA,zK,zK,zA,zA,zA,zA,zA,zA,zA,zA,zA,zA,zA,zA,zA,zA,zA,zA,zA,zA,zA,zA,zA,zA,zA,zA,zA,zA,zA,zA,zA,zA,zA,zA,zA,zA,zA,zA,zA,zA,zA,zA,zA,zA,zA,zA,zA,zA,zA,zA,zA,zA,zA],[oL [zA,zK,zA,zA,zA,zA,zA,zA,zA],oC [zK],oK],none,none⟩
noncomputable def oY:OL Tp:=(tA (ogL0 oo (alZ (uk 1 (Yg 7 pV)))) (tA (B4 (xL 2 pV)) (tA Ke yt)))
noncomputable def qz:OL Te:=(tA (ogL oo (alZ (uk 1 (Yg 7 pV)))) (tA (B4 (xL 2 pV)) (tA Ke yt)))
noncomputable def pW (n:Nat):Mach (Te×Unit) where
 body:=(Tryd.f112.body).getD .skip
 P:=Tryd.prog
 cl:=oJ []
 cd:=oN []
 qR:=oO [([0,1,0,1],yf)]
 cut:=oP []
 n:=n
 out:=Cy Tryd.prog [] [] [0,1,2] 3 qz pV
 cy:=Yj [(0,entY [.obj 0 1 [],.obj 1 0 []] nF (qO uI pV) pH (qO oF pV) (fun (b:Tp) (a:(Str×Unit))=>(ya n) a.1 b.2.2.1))]
 q6:=nJ []
theorem Eo (n:Nat):(pW n).P=Tryd.prog∧(pW n).cl=oJ []∧(pW n).cd=oN []∧(pW n).qR=oO [([0,1,0,1],yf)]∧(pW n).cut=oP []∧(pW n).n=n∧(pW n).out=Cy Tryd.prog [] [] [0,1,2] 3 qz pV∧(pW n).cy=Yj [(0,entY [.obj 0 1 [],.obj 1 0 []] nF (qO uI pV) pH (qO oF pV) (fun (b:Tp) (a:(Str×Unit))=>(ya n) a.1 b.2.2.1))]∧(pW n).q6=nJ []:=⟨rfl,rfl,rfl,rfl,rfl,rfl,rfl,rfl,rfl⟩
theorem Ep (n:Nat):(pW n).body=(Tryd.f112.body).getD .skip:=rfl
noncomputable def DS (n:Nat):{B:(Str→Int→Int→Int→T5→Option (Te×Unit))→Str→Int→Int→Int→T5→Option (Te×Unit) // ∀m X0,(∀ (v0:Str) (v1:Int) (v2:Int) (j0:Int) (r2:List (Str×Bool)),run (pW n) [.lq m [0,1,0,1],.q9 0,.cut [1,1],.at [1,1]] ⟨[.map 0,.pp [.str (sb v0)],qA,.int .i64 v1,.int .i64 v2,qA,qA,qA,qA,qA,qA,qA,qA,qA,qA,qA,qA,qA,qA,qA,qA,qA,qA,qA,qA,qA,qA,qA,qA,qA,qA,qA,qA,qA,qA,qA,qA,qA,qA,qA,qA,qA,qA,qA,qA,qA,qA,qA,qA,qA,qA,qA,qA,qA,qA,qA],[.loop oo [qA,.ptr 1 0,qA,qA,qA,qA,qA,qA,qA] (VV oo j0) j0,.cells [.map 2],.map (mp mcB r2)],3,[]⟩=X0 v0 v1 v2 j0 r2)→ ∀ (v0:Str) (v1:Int) (v2:Int) (j0:Int) (r2:List (Str×Bool)),run (pW n) [.at [0,0,1,0,1],.lp m [0,1,0,1],.q9 0,.cut [1,1],.at [1,1]] ⟨[.map 0,.pp [.str (sb v0)],qA,.int .i64 v1,.int .i64 v2,qA,qA,qA,qA,qA,qA,qA,qA,qA,qA,qA,qA,qA,qA,qA,qA,qA,qA,qA,qA,qA,qA,qA,qA,qA,qA,qA,qA,qA,qA,qA,qA,qA,qA,qA,qA,qA,qA,qA,qA,qA,qA,qA,qA,qA,qA,qA,qA,qA,qA,qA],[.loop oo [qA,.ptr 1 0,qA,qA,qA,qA,qA,qA,qA] (VV oo j0) j0,.cells [.map 2],.map (mp mcB r2)],3,[]⟩=B X0 v0 v1 v2 j0 r2}:=by
 apply iU
 intro m X0 ih v0 v1 v2 j0 r2
 simp (config:={maxSteps:=100000000}) only[go_sem,iL,iM,iH,iI,iN,iO,iQ,iR,iS,iK,iP,iT,Eo,Ep,Tryd.f112,iJ,mixed,oY,qz,nF,pH,vP,yf,ih]
 exact rfl
noncomputable def DT (n:Nat):Nat→Str→Int→Int→Int→T5→Option (Te×Unit)
 |0,_,_,_,_,_=>none
 |m+1,v0,v1,v2,j0,r2=>(DS n).1 (DT n m) v0 v1 v2 j0 r2
theorem Cj (n:Nat): ∀ (m:Nat),(∀ (v0:Str) (v1:Int) (v2:Int) (j0:Int) (r2:List (Str×Bool)),run (pW n) [.lq m [0,1,0,1],.q9 0,.cut [1,1],.at [1,1]] ⟨[.map 0,.pp [.str (sb v0)],qA,.int .i64 v1,.int .i64 v2,qA,qA,qA,qA,qA,qA,qA,qA,qA,qA,qA,qA,qA,qA,qA,qA,qA,qA,qA,qA,qA,qA,qA,qA,qA,qA,qA,qA,qA,qA,qA,qA,qA,qA,qA,qA,qA,qA,qA,qA,qA,qA,qA,qA,qA,qA,qA,qA,qA,qA,qA],[.loop oo [qA,.ptr 1 0,qA,qA,qA,qA,qA,qA,qA] (VV oo j0) j0,.cells [.map 2],.map (mp mcB r2)],3,[]⟩=DT n m v0 v1 v2 j0 r2)
 |0=>by intros;exact nK
 |m+1=>by
  have ih:=Cj n m
  intro v0 v1 v2 j0 r2
  rw[nL]
  exact (DS n).2 m _ ih v0 v1 v2 j0 r2
noncomputable def Er (n:Nat):{B:Str→T5→Option (Te×Unit) // ∀ (a0:Str) (o0:T5),run (pW n) [.at []] {slots:=((xL 0 (qO (tyP cS) pV)).enc (oY.lens ((),(),o0,())) (a0,()))++iV (56-((xL 0 (qO (tyP cS) pV)).enc (oY.lens ((),(),o0,())) (a0,())).length) qA,heap:=(oY.enc (oY.lens ((),(),o0,())) ((),(),o0,())),low:=(oY.enc (oY.lens ((),(),o0,())) ((),(),o0,())).length}=B a0 o0}:=by
 apply iU
 intro a0 o0
 simp (config:={maxSteps:=100000000}) only[go_sem,iL,iM,iH,iI,iN,iO,iQ,iR,iS,iK,iP,iT,Eo,Ep,Tryd.f112,iJ,mixed,oY,qz,nF,pH,vP,yf,Cj n]
 exact rfl
noncomputable def Cq:Nat→Str→T5→Option (Te×Unit)
 |0,_,_=>none
 |n+1,a0,o0=>(Er n).1 a0 o0
theorem JY: ∀ (n:Nat) (a0:Str) (o0:T5) (r:(Te×Unit)),Cq n a0 o0=some r→QF Tryd.prog 112 ((xL 0 (qO (tyP cS) pV)).enc (oY.lens ((),(),o0,())) (a0,())) (oY.enc (oY.lens ((),(),o0,())) ((),(),o0,())) (fun o H'=>o= .ret (vX (pV.enc (qz.lens r.1) r.2))∧H'=qz.enc (qz.lens r.1) r.1)
 |0,_,_,_,h=>by cases h
 |n+1,a0,o0,r,h=>by
  exact B3 (M:=pW n) ⟨m5,m6,nT _,nU _,(VU (fun _ _ _ _ _ h=>entY_ok (fun b a r h=>(EI n) a.1 b.2.2.1 r h) h) Yk),oQ,pz,oX⟩ Tryd.func112 rfl rfl (sP (iW (of_decide_eq_true (by kernel_rfl)) (iX (oY.sz _ _).symm)) _ ((xL 0 (qO (tyP cS) pV)).nb _ _)) (fun x hx=>uC (iW (of_decide_eq_true (by kernel_rfl)) (iX (oY.sz _ _).symm)) _ (oY.nb _ _ x hx)) Tryd.ntmps112 Tryd.results112 (fun σ hs=>Bo (P:=Tryd.prog) (rs:=[]) (pos:=[]) (base:=[0,1,2]) (low:=3) (os:=qz) (s:=pV) (σ:=σ) (r:=r) (by rfl) hs) (((Er n).2 a0 o0).trans h)
noncomputable def vu (n:Nat):Mach (List Str) where
 body:=(Tryd.f70.body).getD .skip
 P:=Tryd.prog
 cl:=oJ [(99,p9 uI (tyL sD) (GJ n))]
 cd:=oN []
 qR:=oO []
 cut:=oP []
 n:=n
 out:=pS Tryd.prog [.tmp 0] (tyL sD)
 q6:=nJ []
theorem TU (n:Nat):(vu n).P=Tryd.prog∧(vu n).cl=oJ [(99,p9 uI (tyL sD) (GJ n))]∧(vu n).cd=oN []∧(vu n).qR=oO []∧(vu n).cut=oP []∧(vu n).n=n∧(vu n).out=pS Tryd.prog [.tmp 0] (tyL sD)∧(vu n).q6=nJ []:=⟨rfl,rfl,rfl,rfl,rfl,rfl,rfl,rfl⟩
theorem TV (n:Nat):(vu n).body=(Tryd.f70.body).getD .skip:=rfl
noncomputable def Mk (n:Nat):{B:Option (List Str) // run (vu n) [.at []] {slots:=([]:List AV)++iV (2-([]:List AV).length) qA,heap:=[]}=B}:=by
 apply iU
 simp (config:={maxSteps:=100000000}) only[go_sem,iL,iM,iH,iI,iN,iO,iQ,iR,iS,iK,iP,iT,TU,TV,Tryd.f70,iJ,mixed]
 exact rfl
noncomputable def FF:Nat→Option (List Str)
 |0=>none
 |n+1=>(Mk n).1
theorem Sg: ∀ (n:Nat) (r:(List Str)),FF n=some r→xY Tryd.prog 70 [] (fun v=>v=(tyL sD).enc r)
 |0,_,h=>by cases h
 |n+1,r,h=>by
  exact pg (M:=vu n) ⟨(mZ (pZ (NJ n)) m5),m6,nT _,nU _,oS,oQ,pz,oX⟩ Tryd.func70 rfl rfl trivial Tryd.ntmps70 Tryd.results70 (fun σ hs=>oZ (P:=Tryd.prog) (rs:=[.tmp 0]) (t:=(tyL sD)) (σ:=σ) (r:=r) hs) (((Mk n).2).trans h)
noncomputable def Gl:Nrm:=⟨[],[],[zK,zA,zA,zK,zA,zA,zA,zK,zK,zA,zA,zA,zA,zA,zA,zA,zA,zA,zA,zA,zA,zA,zA,zA,zA,zA,zA,zA,zA,zA,zA,zA,zA,zA,zA,zA,zA,zA,zA],[],none,none⟩
noncomputable def u7 (n:Nat):Mach Bool where
 body:=(Tryd.f45.body).getD .skip
 P:=Tryd.prog
 cl:=oJ [(71,p9 (pT .u8) oF (FB n))]
 cd:=oN []
 qR:=oO [([0,1,0,1,1],Gl)]
 cut:=oP []
 n:=n
 out:=pS Tryd.prog [.tmp 2] oF
 q6:=nJ []
theorem PM (n:Nat):(u7 n).P=Tryd.prog∧(u7 n).cl=oJ [(71,p9 (pT .u8) oF (FB n))]∧(u7 n).cd=oN []∧(u7 n).qR=oO [([0,1,0,1,1],Gl)]∧(u7 n).cut=oP []∧(u7 n).n=n∧(u7 n).out=pS Tryd.prog [.tmp 2] oF∧(u7 n).q6=nJ []:=⟨rfl,rfl,rfl,rfl,rfl,rfl,rfl,rfl⟩
theorem PN (n:Nat):(u7 n).body=(Tryd.f45.body).getD .skip:=rfl
noncomputable def Gm (n:Nat):{B:(Str→Bool→Int→Int→Option Bool)→Str→Bool→Int→Int→Option Bool // ∀m X0,(∀ (v0:Str) (v1:Bool) (v2:Int) (v3:Int),run (u7 n) [.lq m [0,1,0,1,1],.q9 0,.cut [1,1,1],.at [1,1,1]] ⟨[.str (sb v0),qA,qA,.bool v1,qA,qA,qA,.int .i64 v2,.int .i64 v3,qA,qA,qA,qA,qA,qA,qA,qA,qA,qA,qA,qA,qA,qA,qA,qA,qA,qA,qA,qA,qA,qA,qA,qA,qA,qA,qA,qA,qA,qA],[],0,[]⟩=X0 v0 v1 v2 v3)→ ∀ (v0:Str) (v1:Bool) (v2:Int) (v3:Int),run (u7 n) [.at [0,0,1,0,1,1],.lp m [0,1,0,1,1],.q9 0,.cut [1,1,1],.at [1,1,1]] ⟨[.str (sb v0),qA,qA,.bool v1,qA,qA,qA,.int .i64 v2,.int .i64 v3,qA,qA,qA,qA,qA,qA,qA,qA,qA,qA,qA,qA,qA,qA,qA,qA,qA,qA,qA,qA,qA,qA,qA,qA,qA,qA,qA,qA,qA,qA],[],0,[]⟩=B X0 v0 v1 v2 v3}:=by
 apply iU
 intro m X0 ih v0 v1 v2 v3
 simp (config:={maxSteps:=100000000}) only[go_sem,iL,iM,iH,iI,iN,iO,iQ,iR,iS,iK,iP,iT,PM,PN,Tryd.f45,iJ,mixed,Gl,ih]
 exact rfl
noncomputable def Ca (n:Nat):Nat→Str→Bool→Int→Int→Option Bool
 |0,_,_,_,_=>none
 |m+1,v0,v1,v2,v3=>(Gm n).1 (Ca n m) v0 v1 v2 v3
theorem Ki (n:Nat): ∀ (m:Nat),(∀ (v0:Str) (v1:Bool) (v2:Int) (v3:Int),run (u7 n) [.lq m [0,1,0,1,1],.q9 0,.cut [1,1,1],.at [1,1,1]] ⟨[.str (sb v0),qA,qA,.bool v1,qA,qA,qA,.int .i64 v2,.int .i64 v3,qA,qA,qA,qA,qA,qA,qA,qA,qA,qA,qA,qA,qA,qA,qA,qA,qA,qA,qA,qA,qA,qA,qA,qA,qA,qA,qA,qA,qA,qA],[],0,[]⟩=Ca n m v0 v1 v2 v3)
 |0=>by intros;exact nK
 |m+1=>by
  have ih:=Ki n m
  intro v0 v1 v2 v3
  rw[nL]
  exact (Gm n).2 m _ ih v0 v1 v2 v3
noncomputable def KZ (n:Nat):{B:Str→Option Bool // ∀ (a0:Str),run (u7 n) [.at []] {slots:=[uI.enc a0]++iV (39-[uI.enc a0].length) qA,heap:=[]}=B a0}:=by
 apply iU
 intro a0
 simp (config:={maxSteps:=100000000}) only[go_sem,iL,iM,iH,iI,iN,iO,iQ,iR,iS,iK,iP,iT,PM,PN,Tryd.f45,iJ,mixed,Gl,Ki n]
 exact rfl
noncomputable def Jj:Nat→Str→Option Bool
 |0,_=>none
 |n+1,a0=>(KZ n).1 a0
theorem We: ∀ (n:Nat) (a0:Str) (r:Bool),Jj n a0=some r→xY Tryd.prog 45 [uI.enc a0] (fun v=>v=oF.enc r)
 |0,_,_,h=>by cases h
 |n+1,a0,r,h=>by
  exact pg (M:=u7 n) ⟨(mZ (pZ (R6 n)) m5),m6,nT _,nU _,oS,oQ,pz,oX⟩ Tryd.func45 rfl rfl ⟨uI.nb 0 _,trivial⟩ Tryd.ntmps45 Tryd.results45 (fun σ hs=>oZ (P:=Tryd.prog) (rs:=[.tmp 2]) (t:=oF) (σ:=σ) (r:=r) hs) (((KZ n).2 a0).trans h)
noncomputable def qi (n:Nat):Mach Bool where
 body:=(Tryd.f96.body).getD .skip
 P:=Tryd.prog
 cl:=oJ [(107,su (tyL sD) uI (pT .i64) (xX n))]
 cd:=oN []
 qR:=oO []
 cut:=oP []
 n:=n
 out:=pS Tryd.prog [.tmp 4] oF
 q6:=nJ []
theorem IJ (n:Nat):(qi n).P=Tryd.prog∧(qi n).cl=oJ [(107,su (tyL sD) uI (pT .i64) (xX n))]∧(qi n).cd=oN []∧(qi n).qR=oO []∧(qi n).cut=oP []∧(qi n).n=n∧(qi n).out=pS Tryd.prog [.tmp 4] oF∧(qi n).q6=nJ []:=⟨rfl,rfl,rfl,rfl,rfl,rfl,rfl,rfl⟩
theorem IK (n:Nat):(qi n).body=(Tryd.f96.body).getD .skip:=rfl
noncomputable def zG (n:Nat):{B:(List Str)→Str→Option Bool // ∀ (a0:(List Str)) (a1:Str),run (qi n) [.at []] {slots:=[(tyL sD).enc a0,uI.enc a1]++iV (9-[(tyL sD).enc a0,uI.enc a1].length) qA,heap:=[]}=B a0 a1}:=by
 apply iU
 intro a0 a1
 simp (config:={maxSteps:=100000000}) only[go_sem,iL,iM,iH,iI,iN,iO,iQ,iR,iS,iK,iP,iT,IJ,IK,Tryd.f96,iJ,mixed]
 exact rfl
noncomputable def wk:Nat→(List Str)→Str→Option Bool
 |0,_,_=>none
 |n+1,a0,a1=>(zG n).1 a0 a1
theorem Ho: ∀ (n:Nat) (a0:(List Str)) (a1:Str) (r:Bool),wk n a0 a1=some r→xY Tryd.prog 96 [(tyL sD).enc a0,uI.enc a1] (fun v=>v=oF.enc r)
 |0,_,_,_,h=>by cases h
 |n+1,a0,a1,r,h=>by
  exact pg (M:=qi n) ⟨(mZ (sI (JT n)) m5),m6,nT _,nU _,oS,oQ,pz,oX⟩ Tryd.func96 rfl rfl ⟨(tyL sD).nb 0 _,uI.nb 0 _,trivial⟩ Tryd.ntmps96 Tryd.results96 (fun σ hs=>oZ (P:=Tryd.prog) (rs:=[.tmp 4]) (t:=oF) (σ:=σ) (r:=r) hs) (((zG n).2 a0 a1).trans h)
noncomputable def tU (n:Nat):Mach Int where
 body:=(Tryd.f81.body).getD .skip
 P:=Tryd.prog
 cl:=oJ [(43,p9 (nG Notation.cel) oF (tY n)),(44,p9 (nG Notation.cel) oF (sS n))]
 cd:=oN []
 qR:=oO []
 cut:=oP []
 n:=n
 out:=pS Tryd.prog [.tmp 4] (pT .i64)
 q6:=nJ []
theorem Qr (n:Nat):(tU n).P=Tryd.prog∧(tU n).cl=oJ [(43,p9 (nG Notation.cel) oF (tY n)),(44,p9 (nG Notation.cel) oF (sS n))]∧(tU n).cd=oN []∧(tU n).qR=oO []∧(tU n).cut=oP []∧(tU n).n=n∧(tU n).out=pS Tryd.prog [.tmp 4] (pT .i64)∧(tU n).q6=nJ []:=⟨rfl,rfl,rfl,rfl,rfl,rfl,rfl,rfl⟩
theorem Qs (n:Nat):(tU n).body=(Tryd.f81.body).getD .skip:=rfl
noncomputable def F2 (n:Nat):{B:Notation→Int→Option Int // ∀ (a0:Notation) (a1:Int),run (tU n) [.at []] {slots:=[(nG Notation.cel).enc a0,(pT .i64).enc a1]++iV (51-[(nG Notation.cel).enc a0,(pT .i64).enc a1].length) qA,heap:=[]}=B a0 a1}:=by
 apply iU
 intro a0 a1
 simp (config:={maxSteps:=100000000}) only[go_sem,iL,iM,iH,iI,iN,iO,iQ,iR,iS,iK,iP,iT,Qr,Qs,Tryd.f81,iJ,mixed]
 exact rfl
noncomputable def vA:Nat→Notation→Int→Option Int
 |0,_,_=>none
 |n+1,a0,a1=>(F2 n).1 a0 a1
theorem Cb: ∀ (n:Nat) (a0:Notation) (a1:Int) (r:Int),vA n a0 a1=some r→xY Tryd.prog 81 [(nG Notation.cel).enc a0,(pT .i64).enc a1] (fun v=>v=(pT .i64).enc r)
 |0,_,_,_,h=>by cases h
 |n+1,a0,a1,r,h=>by
  exact pg (M:=tU n) ⟨(mZ (pZ (Ad n)) (mZ (pZ (zj n)) m5)),m6,nT _,nU _,oS,oQ,pz,oX⟩ Tryd.func81 rfl rfl ⟨(nG Notation.cel).nb 0 _,(pT .i64).nb 0 _,trivial⟩ Tryd.ntmps81 Tryd.results81 (fun σ hs=>oZ (P:=Tryd.prog) (rs:=[.tmp 4]) (t:=(pT .i64)) (σ:=σ) (r:=r) hs) (((F2 n).2 a0 a1).trans h)
noncomputable def DU:Nrm:=⟨[],[],[zA,zA,zA,zA,zK,zK,zA,zA,zA,zA,zT (tyL Syntax.row),zK,zK,zA,zA,zA,zA,zA,zA,zA,zA,zA],[oK,oT Syntax.cel],none,none⟩
noncomputable def tj (n:Nat):Mach Syntax where
 body:=(Tryd.f29.body).getD .skip
 P:=Tryd.prog
 cl:=oJ [(27,p9 uI (nG Syntax.cel) (C0 n))]
 cd:=oN []
 qR:=oO [([0,1,0,1,1],DU)]
 cut:=oP []
 n:=n
 out:=pS Tryd.prog [.cell 4 36] (nG Syntax.cel)
 q6:=nJ []
theorem Ml (n:Nat):(tj n).P=Tryd.prog∧(tj n).cl=oJ [(27,p9 uI (nG Syntax.cel) (C0 n))]∧(tj n).cd=oN []∧(tj n).qR=oO [([0,1,0,1,1],DU)]∧(tj n).cut=oP []∧(tj n).n=n∧(tj n).out=pS Tryd.prog [.cell 4 36] (nG Syntax.cel)∧(tj n).q6=nJ []:=⟨rfl,rfl,rfl,rfl,rfl,rfl,rfl,rfl⟩
theorem Mm (n:Nat):(tj n).body=(Tryd.f29.body).getD .skip:=rfl
noncomputable def K0 (n:Nat):{B:((List Syntax)→Int→Int→Syntax→Option Syntax)→(List Syntax)→Int→Int→Syntax→Option Syntax // ∀m X0,(∀ (v0:List Syntax) (v1:Int) (v2:Int) (o1:Syntax),run (tj n) [.lq m [0,1,0,1,1],.q9 0,.cut [1,1,1],.at [1,1,1]] ⟨[qA,qA,qA,qA,.ptr 0 0,.ptr 1 0,qA,qA,qA,qA,.nY false 8 (mp Syntax.cells v0),.int .i64 v1,.int .i64 v2,qA,qA,qA,qA,qA,qA,qA,qA,qA],[.cells [.int .i64 0,.str (sb []),.int .i64 0,.nY true 0 [],.nY true 0 [],.nY true 0 [],.int .i64 0,.int .i64 0],.cells (Syntax.cells o1)],0,[]⟩=X0 v0 v1 v2 o1)→ ∀ (v0:List Syntax) (v1:Int) (v2:Int) (o1:Syntax),run (tj n) [.at [0,0,1,0,1,1],.lp m [0,1,0,1,1],.q9 0,.cut [1,1,1],.at [1,1,1]] ⟨[qA,qA,qA,qA,.ptr 0 0,.ptr 1 0,qA,qA,qA,qA,.nY false 8 (mp Syntax.cells v0),.int .i64 v1,.int .i64 v2,qA,qA,qA,qA,qA,qA,qA,qA,qA],[.cells [.int .i64 0,.str (sb []),.int .i64 0,.nY true 0 [],.nY true 0 [],.nY true 0 [],.int .i64 0,.int .i64 0],.cells (Syntax.cells o1)],0,[]⟩=B X0 v0 v1 v2 o1}:=by
 apply iU
 intro m X0 ih v0 v1 v2 o1
 simp (config:={maxSteps:=100000000}) only[go_sem,iL,iM,iH,iI,iN,iO,iQ,iR,iS,iK,iP,iT,Ml,Mm,Tryd.f29,iJ,mixed,DU,ih]
 exact rfl
noncomputable def K1 (n:Nat):Nat→(List Syntax)→Int→Int→Syntax→Option Syntax
 |0,_,_,_,_=>none
 |m+1,v0,v1,v2,o1=>(K0 n).1 (K1 n m) v0 v1 v2 o1
theorem HU (n:Nat): ∀ (m:Nat),(∀ (v0:List Syntax) (v1:Int) (v2:Int) (o1:Syntax),run (tj n) [.lq m [0,1,0,1,1],.q9 0,.cut [1,1,1],.at [1,1,1]] ⟨[qA,qA,qA,qA,.ptr 0 0,.ptr 1 0,qA,qA,qA,qA,.nY false 8 (mp Syntax.cells v0),.int .i64 v1,.int .i64 v2,qA,qA,qA,qA,qA,qA,qA,qA,qA],[.cells [.int .i64 0,.str (sb []),.int .i64 0,.nY true 0 [],.nY true 0 [],.nY true 0 [],.int .i64 0,.int .i64 0],.cells (Syntax.cells o1)],0,[]⟩=K1 n m v0 v1 v2 o1)
 |0=>by intros;exact nK
 |m+1=>by
  have ih:=HU n m
  intro v0 v1 v2 o1
  rw[nL]
  exact (K0 n).2 m _ ih v0 v1 v2 o1
noncomputable def Mn (n:Nat):{B:Str→(List Syntax)→Option Syntax // ∀ (a0:Str) (a1:(List Syntax)),run (tj n) [.at []] {slots:=[uI.enc a0,(tyL Syntax.row).enc a1]++iV (22-[uI.enc a0,(tyL Syntax.row).enc a1].length) qA,heap:=[]}=B a0 a1}:=by
 apply iU
 intro a0 a1
 simp (config:={maxSteps:=100000000}) only[go_sem,iL,iM,iH,iI,iN,iO,iQ,iR,iS,iK,iP,iT,Ml,Mm,Tryd.f29,iJ,mixed,DU,HU n]
 exact rfl
noncomputable def K2:Nat→Str→(List Syntax)→Option Syntax
 |0,_,_=>none
 |n+1,a0,a1=>(Mn n).1 a0 a1
theorem Sh: ∀ (n:Nat) (a0:Str) (a1:(List Syntax)) (r:Syntax),K2 n a0 a1=some r→xY Tryd.prog 29 [uI.enc a0,(tyL Syntax.row).enc a1] (fun v=>v=(nG Syntax.cel).enc r)
 |0,_,_,_,h=>by cases h
 |n+1,a0,a1,r,h=>by
  exact pg (M:=tj n) ⟨(mZ (pZ (Ir n)) m5),m6,nT _,nU _,oS,oQ,pz,oX⟩ Tryd.func29 rfl rfl ⟨uI.nb 0 _,(tyL Syntax.row).nb 0 _,trivial⟩ Tryd.ntmps29 Tryd.results29 (fun σ hs=>oZ (P:=Tryd.prog) (rs:=[.cell 4 36]) (t:=(nG Syntax.cel)) (σ:=σ) (r:=r) hs) (((Mn n).2 a0 a1).trans h)
end Go.Abs
namespace Go.Abs
open Go.Proofs
set_option maxRecDepth 100000
set_option maxHeartbeats 4000000
noncomputable def uu:Nrm:=⟨[],[],[zA,zA,zA,zA,zK,zA,zA,zK,zK,zA,zK,zA,zA,zA,zA,zA,zA,zA,zA,zA,zA,zA,zA,zA,zA,zA,zA,zA,zA,zA,zA,zA,zA,zA,zA,zA,zA,zA,zA,zA,zA,zA,zA,zA,zA,zA,zA,zA,zA,zA,zA,zA,zA,zA,zA,zA,zA,zA,zA,zA,zA,zA,zT (tyL sD),zK,zK,zA,zA,zA,zA,zA,zA,zA,zA,zA,zA,zA,zA,zA,zA,zA,zA],[oC [zK],oM (nG Notation.cel),oD,oK,oA Syntax.row,oT Notation.cel],none,none⟩
noncomputable def uv:Nrm:=⟨[(7,8,false)],[],[zK,zA,zA,zK,zK,zA,zA,zK,zA,zA,zA,zA,zA,zA,zA,zA,zA,zA,zA,zA,zA,zA,zA,zA,zA,zA,zA,zA,zA,zA,zA,zA,zA,zA,zA,zA,zA,zA,zA,zA,zA,zA,zA,zA,zA,zA,zA,zA,zA,zA,zA,zA,zA,zA,zA,zA,zA,zA,zA,zA,zA,zA,zA,zA,zA,zA,zA,zA,zA,zA,zA,zA,zA,zA,zA,zA,zA,zA,zA,zA,zA],[oC [zK],oM (nG Notation.cel),oT Syntax.cel,oK,oA Syntax.row],none,none⟩
noncomputable def ng:OL T9:=(tA (B4 (xL 1 pV)) (tA (wI (nG Notation.cel)) yt))
noncomputable def nH:OL T9:=(tA (B4 (xL 1 pV)) (tA (wI (nG Notation.cel)) yt))
noncomputable def nS:AL (Notation×((List Syntax)×(Bool×Unit))):=(qO (nG Notation.cel) (qO (tyL Syntax.row) (qO oF pV)))
noncomputable def nq (n:Nat):Mach Tc where
 body:=(Tryd.f89.body).getD .skip
 P:=Tryd.prog
 cl:=oJ [(103,Ns 0 false 8 (entG [0] (RD (P8 false Syntax.row) Ov) (asA 0 (fun (b:Td)=>b.1.length) asN) (RD (P8 false Syntax.row) Ov) rsN (fun (b:Td) a=>(wJ n) b.1)))]
 cd:=oN []
 qR:=oO [([0,1,0,1,1,1,1,1,1,1],uu),([0,0,1,1],uv)]
 cut:=oP [([1,1,1,1,1,1,1,1,1],[4])]
 n:=n
 out:=Cy Tryd.prog [.cell 4 24,.tmp 5,.tmp 6] [] [0,1] 2 nH nS
 q6:=nJ []
 B1:=nJ []
 B0:=nJ []
theorem yI (n:Nat):(nq n).P=Tryd.prog∧(nq n).cl=oJ [(103,Ns 0 false 8 (entG [0] (RD (P8 false Syntax.row) Ov) (asA 0 (fun (b:Td)=>b.1.length) asN) (RD (P8 false Syntax.row) Ov) rsN (fun (b:Td) a=>(wJ n) b.1)))]∧(nq n).cd=oN []∧(nq n).qR=oO [([0,1,0,1,1,1,1,1,1,1],uu),([0,0,1,1],uv)]∧(nq n).cut=oP [([1,1,1,1,1,1,1,1,1],[4])]∧(nq n).n=n∧(nq n).out=Cy Tryd.prog [.cell 4 24,.tmp 5,.tmp 6] [] [0,1] 2 nH nS∧(nq n).q6=nJ []∧(nq n).B1=nJ []∧(nq n).B0=nJ []:=⟨rfl,rfl,rfl,rfl,rfl,rfl,rfl,rfl,rfl,rfl⟩
theorem yJ (n:Nat):(nq n).body=(Tryd.f89.body).getD .skip:=rfl
theorem yK (n:Nat):wH (nq n) [0,1,1,1,1]=true:=by kernel_rfl
theorem yL (n:Nat):As (nq n) [0,1,1,1,1] 3 11=true∧As (nq n) [0,1,1,1,1] 5 11=true∧As (nq n) [0,1,1,1,1] 6 11=true∧As (nq n) [0,1,1,1,1] 10 11=true:=⟨by kernel_rfl,by kernel_rfl,by kernel_rfl,by kernel_rfl⟩
noncomputable def vQ (n:Nat):{B:(Int→(List Str)→Int→Int→T3→(List Syntax)→Notation→Option Tc)→Int→(List Str)→Int→Int→T3→(List Syntax)→Notation→Option Tc // ∀m X0,(∀ (v0:Int) (v1:List Str) (v2:Int) (v3:Int) (r1:List (Str×Notation)) (r4:List Syntax) (o5:Notation) (c4:Nat),c4=r4.length→run (nq n) [.lq m [0,1,0,1,1,1,1,1,1,1],.q9 2,.cut [1,1,1,1,1,1,1,1],.at [1,1,1,1,1,1,1,1]] ⟨[qA,qA,qA,qA,.ptr 3 0,qA,qA,.acc 4 c4,.ptr 5 0,qA,.int .i64 v0,qA,qA,qA,qA,qA,qA,qA,qA,qA,qA,qA,qA,qA,qA,qA,qA,qA,qA,qA,qA,qA,qA,qA,qA,qA,qA,qA,qA,qA,qA,qA,qA,qA,qA,qA,qA,qA,qA,qA,qA,qA,qA,qA,qA,qA,qA,qA,qA,qA,qA,qA,.nY false 1 (mp pP v1),.int .i64 v2,.int .i64 v3,qA,qA,qA,qA,qA,qA,qA,qA,qA,qA,qA,qA,qA,qA,qA,qA],[.cells [.map 1],.map (mp (mcT (nG Notation.cel)) r1),.dead,.cells [.nY true 0 [],.int .i64 0,.int .i64 0,.str (sb [])],.acc false 8 (mp Syntax.cells r4),.cells (Notation.cells o5)],2,[]⟩=X0 v0 v1 v2 v3 r1 r4 o5)→ ∀ (v0:Int) (v1:List Str) (v2:Int) (v3:Int) (r1:List (Str×Notation)) (r4:List Syntax) (o5:Notation),run (nq n) [.at [0,0,1,0,1,1,1,1,1,1,1],.lp m [0,1,0,1,1,1,1,1,1,1],.q9 2,.cut [1,1,1,1,1,1,1,1],.at [1,1,1,1,1,1,1,1]] ⟨[qA,qA,qA,qA,.ptr 3 0,qA,qA,.acc 4 r4.length,.ptr 5 0,qA,.int .i64 v0,qA,qA,qA,qA,qA,qA,qA,qA,qA,qA,qA,qA,qA,qA,qA,qA,qA,qA,qA,qA,qA,qA,qA,qA,qA,qA,qA,qA,qA,qA,qA,qA,qA,qA,qA,qA,qA,qA,qA,qA,qA,qA,qA,qA,qA,qA,qA,qA,qA,qA,qA,.nY false 1 (mp pP v1),.int .i64 v2,.int .i64 v3,qA,qA,qA,qA,qA,qA,qA,qA,qA,qA,qA,qA,qA,qA,qA,qA],[.cells [.map 1],.map (mp (mcT (nG Notation.cel)) r1),.dead,.cells [.nY true 0 [],.int .i64 0,.int .i64 0,.str (sb [])],.acc false 8 (mp Syntax.cells r4),.cells (Notation.cells o5)],2,[]⟩=B X0 v0 v1 v2 v3 r1 r4 o5}:=by
 apply iU
 intro m X0 ih v0 v1 v2 v3 r1 r4 o5
 simp (config:={maxSteps:=100000000}) only[go_sem,iL,iM,iH,iI,iN,iO,iQ,iR,iS,iK,iP,iT,yI,yJ,Tryd.f89,iJ,mixed,ng,nH,nS,yK,yL,uu,uv,ih]
 exact rfl
noncomputable def rL (n:Nat):Nat→Int→(List Str)→Int→Int→T3→(List Syntax)→Notation→Option Tc
 |0,_,_,_,_,_,_,_=>none
 |m+1,v0,v1,v2,v3,r1,r4,o5=>(vQ n).1 (rL n m) v0 v1 v2 v3 r1 r4 o5
theorem wQ (n:Nat): ∀ (m:Nat),(∀ (v0:Int) (v1:List Str) (v2:Int) (v3:Int) (r1:List (Str×Notation)) (r4:List Syntax) (o5:Notation) (c4:Nat),c4=r4.length→run (nq n) [.lq m [0,1,0,1,1,1,1,1,1,1],.q9 2,.cut [1,1,1,1,1,1,1,1],.at [1,1,1,1,1,1,1,1]] ⟨[qA,qA,qA,qA,.ptr 3 0,qA,qA,.acc 4 c4,.ptr 5 0,qA,.int .i64 v0,qA,qA,qA,qA,qA,qA,qA,qA,qA,qA,qA,qA,qA,qA,qA,qA,qA,qA,qA,qA,qA,qA,qA,qA,qA,qA,qA,qA,qA,qA,qA,qA,qA,qA,qA,qA,qA,qA,qA,qA,qA,qA,qA,qA,qA,qA,qA,qA,qA,qA,qA,.nY false 1 (mp pP v1),.int .i64 v2,.int .i64 v3,qA,qA,qA,qA,qA,qA,qA,qA,qA,qA,qA,qA,qA,qA,qA,qA],[.cells [.map 1],.map (mp (mcT (nG Notation.cel)) r1),.dead,.cells [.nY true 0 [],.int .i64 0,.int .i64 0,.str (sb [])],.acc false 8 (mp Syntax.cells r4),.cells (Notation.cells o5)],2,[]⟩=rL n m v0 v1 v2 v3 r1 r4 o5)
 |0=>by intros;exact nK
 |m+1=>by
  have ih:=wQ n m
  intro v0 v1 v2 v3 r1 r4 o5 c4 ec4
  subst ec4
  rw[nL]
  exact (vQ n).2 m _ ih v0 v1 v2 v3 r1 r4 o5
noncomputable def yg (n:Nat):{B:(T3→Syntax→(List Syntax)→Option Tc)→T3→Syntax→(List Syntax)→Option Tc // ∀m X0,(∀ (r1:List (Str×Notation)) (o2:Syntax) (r4:List Syntax) (c4:Nat),c4=r4.length→run (nq n) [.lq m [0,0,1,1],.q9 0,.cut [1,1,1],.at [1,1,1]] ⟨[.ptr 0 0,qA,qA,.ptr 2 0,.ptr 3 0,qA,qA,.acc 4 c4,qA,qA,qA,qA,qA,qA,qA,qA,qA,qA,qA,qA,qA,qA,qA,qA,qA,qA,qA,qA,qA,qA,qA,qA,qA,qA,qA,qA,qA,qA,qA,qA,qA,qA,qA,qA,qA,qA,qA,qA,qA,qA,qA,qA,qA,qA,qA,qA,qA,qA,qA,qA,qA,qA,qA,qA,qA,qA,qA,qA,qA,qA,qA,qA,qA,qA,qA,qA,qA,qA,qA,qA,qA],[.cells [.map 1],.map (mp (mcT (nG Notation.cel)) r1),.cells (Syntax.cells o2),.cells [.nY true 0 [],.int .i64 0,.int .i64 0,.str (sb [])],.acc false 8 (mp Syntax.cells r4)],2,[]⟩=X0 r1 o2 r4)→ ∀ (r1:List (Str×Notation)) (o2:Syntax) (r4:List Syntax),run (nq n) [.at [0,0,0,1,1],.lp m [0,0,1,1],.q9 0,.cut [1,1,1],.at [1,1,1]] ⟨[.ptr 0 0,qA,qA,.ptr 2 0,.ptr 3 0,qA,qA,.acc 4 r4.length,qA,qA,qA,qA,qA,qA,qA,qA,qA,qA,qA,qA,qA,qA,qA,qA,qA,qA,qA,qA,qA,qA,qA,qA,qA,qA,qA,qA,qA,qA,qA,qA,qA,qA,qA,qA,qA,qA,qA,qA,qA,qA,qA,qA,qA,qA,qA,qA,qA,qA,qA,qA,qA,qA,qA,qA,qA,qA,qA,qA,qA,qA,qA,qA,qA,qA,qA,qA,qA,qA,qA,qA,qA],[.cells [.map 1],.map (mp (mcT (nG Notation.cel)) r1),.cells (Syntax.cells o2),.cells [.nY true 0 [],.int .i64 0,.int .i64 0,.str (sb [])],.acc false 8 (mp Syntax.cells r4)],2,[]⟩=B X0 r1 o2 r4}:=by
 apply iU
 intro m X0 ih r1 o2 r4
 simp (config:={maxSteps:=100000000}) only[go_sem,iL,iM,iH,iI,iN,iO,iQ,iR,iS,iK,iP,iT,yI,yJ,Tryd.f89,iJ,mixed,ng,nH,nS,yK,yL,uu,uv,wQ n,ih]
 exact rfl
noncomputable def uw (n:Nat):Nat→T3→Syntax→(List Syntax)→Option Tc
 |0,_,_,_=>none
 |m+1,r1,o2,r4=>(yg n).1 (uw n m) r1 o2 r4
theorem Am (n:Nat): ∀ (m:Nat),(∀ (r1:List (Str×Notation)) (o2:Syntax) (r4:List Syntax) (c4:Nat),c4=r4.length→run (nq n) [.lq m [0,0,1,1],.q9 0,.cut [1,1,1],.at [1,1,1]] ⟨[.ptr 0 0,qA,qA,.ptr 2 0,.ptr 3 0,qA,qA,.acc 4 c4,qA,qA,qA,qA,qA,qA,qA,qA,qA,qA,qA,qA,qA,qA,qA,qA,qA,qA,qA,qA,qA,qA,qA,qA,qA,qA,qA,qA,qA,qA,qA,qA,qA,qA,qA,qA,qA,qA,qA,qA,qA,qA,qA,qA,qA,qA,qA,qA,qA,qA,qA,qA,qA,qA,qA,qA,qA,qA,qA,qA,qA,qA,qA,qA,qA,qA,qA,qA,qA,qA,qA,qA,qA],[.cells [.map 1],.map (mp (mcT (nG Notation.cel)) r1),.cells (Syntax.cells o2),.cells [.nY true 0 [],.int .i64 0,.int .i64 0,.str (sb [])],.acc false 8 (mp Syntax.cells r4)],2,[]⟩=uw n m r1 o2 r4)
 |0=>by intros;exact nK
 |m+1=>by
  have ih:=Am n m
  intro r1 o2 r4 c4 ec4
  subst ec4
  rw[nL]
  exact (yg n).2 m _ ih r1 o2 r4
noncomputable def yM (n:Nat):{B:Syntax→T3→Option Tc // ∀ (a0:Syntax) (o0:T3),run (nq n) [.at []] {slots:=((uk 0 (qO (nG Syntax.cel) pV)).enc (ng.lens ((),o0,())) (a0,()))++iV (81-((uk 0 (qO (nG Syntax.cel) pV)).enc (ng.lens ((),o0,())) (a0,())).length) qA,heap:=(ng.enc (ng.lens ((),o0,())) ((),o0,())),low:=(ng.enc (ng.lens ((),o0,())) ((),o0,())).length}=B a0 o0}:=by
 apply iU
 intro a0 o0
 simp (config:={maxSteps:=100000000}) only[go_sem,iL,iM,iH,iI,iN,iO,iQ,iR,iS,iK,iP,iT,yI,yJ,Tryd.f89,iJ,mixed,ng,nH,nS,yK,yL,uu,uv,wQ n,Am n]
 exact rfl
noncomputable def qV:Nat→Syntax→T3→Option Tc
 |0,_,_=>none
 |n+1,a0,o0=>(yM n).1 a0 o0
theorem yj: ∀ (n:Nat) (a0:Syntax) (o0:T3) (r:Tc),qV n a0 o0=some r→QF Tryd.prog 89 ((uk 0 (qO (nG Syntax.cel) pV)).enc (ng.lens ((),o0,())) (a0,())) (ng.enc (ng.lens ((),o0,())) ((),o0,())) (fun o H'=>o= .ret (vX (nS.enc (nH.lens r.1) r.2))∧H'=nH.enc (nH.lens r.1) r.1)
 |0,_,_,_,h=>by cases h
 |n+1,a0,o0,r,h=>by
  exact B3 (M:=nq n) ⟨(mZ (RJ (entG_ok (fun b a r h=>(Ix n) b.1 r h))) m5),m6,nT _,nU _,oS,oQ,pz,oX⟩ Tryd.func89 rfl rfl (sP (iW (of_decide_eq_true (by kernel_rfl)) (iX (ng.sz _ _).symm)) _ ((uk 0 (qO (nG Syntax.cel) pV)).nb _ _)) (fun x hx=>uC (iW (of_decide_eq_true (by kernel_rfl)) (iX (ng.sz _ _).symm)) _ (ng.nb _ _ x hx)) Tryd.ntmps89 Tryd.results89 (fun σ hs=>Bo (P:=Tryd.prog) (rs:=[.cell 4 24,.tmp 5,.tmp 6]) (pos:=[]) (base:=[0,1]) (low:=2) (os:=nH) (s:=nS) (σ:=σ) (r:=r) (by rfl) hs) (((yM n).2 a0 o0).trans h)
noncomputable def uQ (n:Nat):Mach Bool where
 body:=(Tryd.f72.body).getD .skip
 P:=Tryd.prog
 cl:=oJ [(100,p9 (pT .u8) oF (DI n))]
 cd:=oN []
 qR:=oO []
 cut:=oP []
 n:=n
 out:=pS Tryd.prog [.tmp 2] oF
 q6:=nJ []
theorem Si (n:Nat):(uQ n).P=Tryd.prog∧(uQ n).cl=oJ [(100,p9 (pT .u8) oF (DI n))]∧(uQ n).cd=oN []∧(uQ n).qR=oO []∧(uQ n).cut=oP []∧(uQ n).n=n∧(uQ n).out=pS Tryd.prog [.tmp 2] oF∧(uQ n).q6=nJ []:=⟨rfl,rfl,rfl,rfl,rfl,rfl,rfl,rfl⟩
theorem Sj (n:Nat):(uQ n).body=(Tryd.f72.body).getD .skip:=rfl
noncomputable def GP (n:Nat):{B:Int→Option Bool // ∀ (a0:Int),run (uQ n) [.at []] {slots:=[(pT .u8).enc a0]++iV (9-[(pT .u8).enc a0].length) qA,heap:=[]}=B a0}:=by
 apply iU
 intro a0
 simp (config:={maxSteps:=100000000}) only[go_sem,iL,iM,iH,iI,iN,iO,iQ,iR,iS,iK,iP,iT,Si,Sj,Tryd.f72,iJ,mixed]
 exact rfl
noncomputable def AM:Nat→Int→Option Bool
 |0,_=>none
 |n+1,a0=>(GP n).1 a0
theorem Kj: ∀ (n:Nat) (a0:Int) (r:Bool),AM n a0=some r→xY Tryd.prog 72 [(pT .u8).enc a0] (fun v=>v=oF.enc r)
 |0,_,_,h=>by cases h
 |n+1,a0,r,h=>by
  exact pg (M:=uQ n) ⟨(mZ (pZ (Qo n)) m5),m6,nT _,nU _,oS,oQ,pz,oX⟩ Tryd.func72 rfl rfl ⟨(pT .u8).nb 0 _,trivial⟩ Tryd.ntmps72 Tryd.results72 (fun σ hs=>oZ (P:=Tryd.prog) (rs:=[.tmp 2]) (t:=oF) (σ:=σ) (r:=r) hs) (((GP n).2 a0).trans h)
noncomputable def E9:Nrm:=⟨[],[],[zK,zA,zA,zK,zK,zA,zA,zA,zA,zA,zA,zA,zA,zA,zA,zA,zA,zA,zA,zA,zA,zA,zA,zA,zA,zA,zA,zA,zA,zA,zA,zA,zA,zA,zA,zA,zA,zA,zA,zA,zA,zA,zA,zA,zA],[],none,none⟩
noncomputable def ux (n:Nat):Mach Bool where
 body:=(Tryd.f49.body).getD .skip
 P:=Tryd.prog
 cl:=oJ [(77,p9 (pT .u8) oF (DK n))]
 cd:=oN []
 qR:=oO [([0,1,0,1,1,1],E9)]
 cut:=oP []
 n:=n
 out:=pS Tryd.prog [.tmp 2] oF
 q6:=nJ []
theorem NN (n:Nat):(ux n).P=Tryd.prog∧(ux n).cl=oJ [(77,p9 (pT .u8) oF (DK n))]∧(ux n).cd=oN []∧(ux n).qR=oO [([0,1,0,1,1,1],E9)]∧(ux n).cut=oP []∧(ux n).n=n∧(ux n).out=pS Tryd.prog [.tmp 2] oF∧(ux n).q6=nJ []:=⟨rfl,rfl,rfl,rfl,rfl,rfl,rfl,rfl⟩
theorem NO (n:Nat):(ux n).body=(Tryd.f49.body).getD .skip:=rfl
noncomputable def Fa (n:Nat):{B:(Str→Bool→Int→Option Bool)→Str→Bool→Int→Option Bool // ∀m X0,(∀ (v0:Str) (v1:Bool) (v2:Int),run (ux n) [.lq m [0,1,0,1,1,1],.q9 0,.cut [1,1,1,1],.at [1,1,1,1]] ⟨[.str (sb v0),qA,qA,.bool v1,.int .i64 v2,qA,qA,qA,qA,qA,qA,qA,qA,qA,qA,qA,qA,qA,qA,qA,qA,qA,qA,qA,qA,qA,qA,qA,qA,qA,qA,qA,qA,qA,qA,qA,qA,qA,qA,qA,qA,qA,qA,qA,qA],[],0,[]⟩=X0 v0 v1 v2)→ ∀ (v0:Str) (v1:Bool) (v2:Int),run (ux n) [.at [0,0,1,0,1,1,1],.lp m [0,1,0,1,1,1],.q9 0,.cut [1,1,1,1],.at [1,1,1,1]] ⟨[.str (sb v0),qA,qA,.bool v1,.int .i64 v2,qA,qA,qA,qA,qA,qA,qA,qA,qA,qA,qA,qA,qA,qA,qA,qA,qA,qA,qA,qA,qA,qA,qA,qA,qA,qA,qA,qA,qA,qA,qA,qA,qA,qA,qA,qA,qA,qA,qA,qA],[],0,[]⟩=B X0 v0 v1 v2}:=by
 apply iU
 intro m X0 ih v0 v1 v2
 simp (config:={maxSteps:=100000000}) only[go_sem,iL,iM,iH,iI,iN,iO,iQ,iR,iS,iK,iP,iT,NN,NO,Tryd.f49,iJ,mixed,E9,ih]
 exact rfl
noncomputable def Bc (n:Nat):Nat→Str→Bool→Int→Option Bool
 |0,_,_,_=>none
 |m+1,v0,v1,v2=>(Fa n).1 (Bc n m) v0 v1 v2
theorem Jk (n:Nat): ∀ (m:Nat),(∀ (v0:Str) (v1:Bool) (v2:Int),run (ux n) [.lq m [0,1,0,1,1,1],.q9 0,.cut [1,1,1,1],.at [1,1,1,1]] ⟨[.str (sb v0),qA,qA,.bool v1,.int .i64 v2,qA,qA,qA,qA,qA,qA,qA,qA,qA,qA,qA,qA,qA,qA,qA,qA,qA,qA,qA,qA,qA,qA,qA,qA,qA,qA,qA,qA,qA,qA,qA,qA,qA,qA,qA,qA,qA,qA,qA,qA],[],0,[]⟩=Bc n m v0 v1 v2)
 |0=>by intros;exact nK
 |m+1=>by
  have ih:=Jk n m
  intro v0 v1 v2
  rw[nL]
  exact (Fa n).2 m _ ih v0 v1 v2
noncomputable def JZ (n:Nat):{B:Str→Option Bool // ∀ (a0:Str),run (ux n) [.at []] {slots:=[uI.enc a0]++iV (45-[uI.enc a0].length) qA,heap:=[]}=B a0}:=by
 apply iU
 intro a0
 simp (config:={maxSteps:=100000000}) only[go_sem,iL,iM,iH,iI,iN,iO,iQ,iR,iS,iK,iP,iT,NN,NO,Tryd.f49,iJ,mixed,E9,Jk n]
 exact rfl
noncomputable def GQ:Nat→Str→Option Bool
 |0,_=>none
 |n+1,a0=>(JZ n).1 a0
theorem TW: ∀ (n:Nat) (a0:Str) (r:Bool),GQ n a0=some r→xY Tryd.prog 49 [uI.enc a0] (fun v=>v=oF.enc r)
 |0,_,_,h=>by cases h
 |n+1,a0,r,h=>by
  exact pg (M:=ux n) ⟨(mZ (pZ (Qp n)) m5),m6,nT _,nU _,oS,oQ,pz,oX⟩ Tryd.func49 rfl rfl ⟨uI.nb 0 _,trivial⟩ Tryd.ntmps49 Tryd.results49 (fun σ hs=>oZ (P:=Tryd.prog) (rs:=[.tmp 2]) (t:=oF) (σ:=σ) (r:=r) hs) (((JZ n).2 a0).trans h)
noncomputable def wm (n:Nat):Mach Str where
 body:=(Tryd.f94.body).getD .skip
 P:=Tryd.prog
 cl:=oJ [(47,p9 (nG Notation.cel) oF (ug n))]
 cd:=oN []
 qR:=oO []
 cut:=oP []
 n:=n
 out:=pS Tryd.prog [.tmp 2] uI
 q6:=nJ []
theorem Wf (n:Nat):(wm n).P=Tryd.prog∧(wm n).cl=oJ [(47,p9 (nG Notation.cel) oF (ug n))]∧(wm n).cd=oN []∧(wm n).qR=oO []∧(wm n).cut=oP []∧(wm n).n=n∧(wm n).out=pS Tryd.prog [.tmp 2] uI∧(wm n).q6=nJ []:=⟨rfl,rfl,rfl,rfl,rfl,rfl,rfl,rfl⟩
theorem Wg (n:Nat):(wm n).body=(Tryd.f94.body).getD .skip:=rfl
noncomputable def J0 (n:Nat):{B:Notation→Option Str // ∀ (a0:Notation),run (wm n) [.at []] {slots:=[(nG Notation.cel).enc a0]++iV (13-[(nG Notation.cel).enc a0].length) qA,heap:=[]}=B a0}:=by
 apply iU
 intro a0
 simp (config:={maxSteps:=100000000}) only[go_sem,iL,iM,iH,iI,iN,iO,iQ,iR,iS,iK,iP,iT,Wf,Wg,Tryd.f94,iJ,mixed]
 exact rfl
noncomputable def BK:Nat→Notation→Option Str
 |0,_=>none
 |n+1,a0=>(J0 n).1 a0
theorem Mo: ∀ (n:Nat) (a0:Notation) (r:Str),BK n a0=some r→xY Tryd.prog 94 [(nG Notation.cel).enc a0] (fun v=>v=uI.enc r)
 |0,_,_,h=>by cases h
 |n+1,a0,r,h=>by
  exact pg (M:=wm n) ⟨(mZ (pZ (zF n)) m5),m6,nT _,nU _,oS,oQ,pz,oX⟩ Tryd.func94 rfl rfl ⟨(nG Notation.cel).nb 0 _,trivial⟩ Tryd.ntmps94 Tryd.results94 (fun σ hs=>oZ (P:=Tryd.prog) (rs:=[.tmp 2]) (t:=uI) (σ:=σ) (r:=r) hs) (((J0 n).2 a0).trans h)
noncomputable def DV:Nrm:=⟨[],[],[zA,zK,zK,zA,zA,zA,zK,zA,zA,zA,zA,zA,zA,zA,zA,zA,zA,zA,zA,zA,zA,zA,zA,zA],[oT Notation.cel],none,none⟩
noncomputable def tu (n:Nat):Mach Bool where
 body:=(Tryd.f106.body).getD .skip
 P:=Tryd.prog
 cl:=oJ [(47,p9 (nG Notation.cel) oF (ug n))]
 cd:=oN []
 qR:=oO [([0,1,0,1,1,1],DV)]
 cut:=oP []
 n:=n
 out:=pS Tryd.prog [.tmp 4] oF
 q6:=nJ []
theorem Mp (n:Nat):(tu n).P=Tryd.prog∧(tu n).cl=oJ [(47,p9 (nG Notation.cel) oF (ug n))]∧(tu n).cd=oN []∧(tu n).qR=oO [([0,1,0,1,1,1],DV)]∧(tu n).cut=oP []∧(tu n).n=n∧(tu n).out=pS Tryd.prog [.tmp 4] oF∧(tu n).q6=nJ []:=⟨rfl,rfl,rfl,rfl,rfl,rfl,rfl,rfl⟩
theorem Mq (n:Nat):(tu n).body=(Tryd.f106.body).getD .skip:=rfl
noncomputable def DW (n:Nat):{B:(Str→Int→Notation→Option Bool)→Str→Int→Notation→Option Bool // ∀m X0,(∀ (v0:Str) (v1:Int) (o0:Notation),run (tu n) [.lq m [0,1,0,1,1,1],.q9 0,.cut [1,1,1,1],.at [1,1,1,1]] ⟨[qA,.str (sb v0),.ptr 0 0,qA,qA,qA,.int .i64 v1,qA,qA,qA,qA,qA,qA,qA,qA,qA,qA,qA,qA,qA,qA,qA,qA,qA],[.cells (Notation.cells o0)],0,[]⟩=X0 v0 v1 o0)→ ∀ (v0:Str) (v1:Int) (o0:Notation),run (tu n) [.at [0,0,1,0,1,1,1],.lp m [0,1,0,1,1,1],.q9 0,.cut [1,1,1,1],.at [1,1,1,1]] ⟨[qA,.str (sb v0),.ptr 0 0,qA,qA,qA,.int .i64 v1,qA,qA,qA,qA,qA,qA,qA,qA,qA,qA,qA,qA,qA,qA,qA,qA,qA],[.cells (Notation.cells o0)],0,[]⟩=B X0 v0 v1 o0}:=by
 apply iU
 intro m X0 ih v0 v1 o0
 simp (config:={maxSteps:=100000000}) only[go_sem,iL,iM,iH,iI,iN,iO,iQ,iR,iS,iK,iP,iT,Mp,Mq,Tryd.f106,iJ,mixed,DV,ih]
 exact rfl
noncomputable def yN (n:Nat):Nat→Str→Int→Notation→Option Bool
 |0,_,_,_=>none
 |m+1,v0,v1,o0=>(DW n).1 (yN n m) v0 v1 o0
theorem HV (n:Nat): ∀ (m:Nat),(∀ (v0:Str) (v1:Int) (o0:Notation),run (tu n) [.lq m [0,1,0,1,1,1],.q9 0,.cut [1,1,1,1],.at [1,1,1,1]] ⟨[qA,.str (sb v0),.ptr 0 0,qA,qA,qA,.int .i64 v1,qA,qA,qA,qA,qA,qA,qA,qA,qA,qA,qA,qA,qA,qA,qA,qA,qA],[.cells (Notation.cells o0)],0,[]⟩=yN n m v0 v1 o0)
 |0=>by intros;exact nK
 |m+1=>by
  have ih:=HV n m
  intro v0 v1 o0
  rw[nL]
  exact (DW n).2 m _ ih v0 v1 o0
noncomputable def IL (n:Nat):{B:Notation→Str→Option Bool // ∀ (a0:Notation) (a1:Str),run (tu n) [.at []] {slots:=[(nG Notation.cel).enc a0,uI.enc a1]++iV (24-[(nG Notation.cel).enc a0,uI.enc a1].length) qA,heap:=[]}=B a0 a1}:=by
 apply iU
 intro a0 a1
 simp (config:={maxSteps:=100000000}) only[go_sem,iL,iM,iH,iI,iN,iO,iQ,iR,iS,iK,iP,iT,Mp,Mq,Tryd.f106,iJ,mixed,DV,HV n]
 exact rfl
noncomputable def Dp:Nat→Notation→Str→Option Bool
 |0,_,_=>none
 |n+1,a0,a1=>(IL n).1 a0 a1
theorem Sk: ∀ (n:Nat) (a0:Notation) (a1:Str) (r:Bool),Dp n a0 a1=some r→xY Tryd.prog 106 [(nG Notation.cel).enc a0,uI.enc a1] (fun v=>v=oF.enc r)
 |0,_,_,_,h=>by cases h
 |n+1,a0,a1,r,h=>by
  exact pg (M:=tu n) ⟨(mZ (pZ (zF n)) m5),m6,nT _,nU _,oS,oQ,pz,oX⟩ Tryd.func106 rfl rfl ⟨(nG Notation.cel).nb 0 _,uI.nb 0 _,trivial⟩ Tryd.ntmps106 Tryd.results106 (fun σ hs=>oZ (P:=Tryd.prog) (rs:=[.tmp 4]) (t:=oF) (σ:=σ) (r:=r) hs) (((IL n).2 a0 a1).trans h)
noncomputable def wo (n:Nat):Mach Int where
 body:=(Tryd.f86.body).getD .skip
 P:=Tryd.prog
 cl:=oJ [(47,p9 (nG Notation.cel) oF (ug n)),(48,p9 (nG Notation.cel) oF (xp n))]
 cd:=oN []
 qR:=oO []
 cut:=oP []
 n:=n
 out:=pS Tryd.prog [.tmp 4] (pT .i64)
 q6:=nJ []
theorem Wh (n:Nat):(wo n).P=Tryd.prog∧(wo n).cl=oJ [(47,p9 (nG Notation.cel) oF (ug n)),(48,p9 (nG Notation.cel) oF (xp n))]∧(wo n).cd=oN []∧(wo n).qR=oO []∧(wo n).cut=oP []∧(wo n).n=n∧(wo n).out=pS Tryd.prog [.tmp 4] (pT .i64)∧(wo n).q6=nJ []:=⟨rfl,rfl,rfl,rfl,rfl,rfl,rfl,rfl⟩
theorem Wi (n:Nat):(wo n).body=(Tryd.f86.body).getD .skip:=rfl
noncomputable def J1 (n:Nat):{B:Notation→Int→Option Int // ∀ (a0:Notation) (a1:Int),run (wo n) [.at []] {slots:=[(nG Notation.cel).enc a0,(pT .i64).enc a1]++iV (55-[(nG Notation.cel).enc a0,(pT .i64).enc a1].length) qA,heap:=[]}=B a0 a1}:=by
 apply iU
 intro a0 a1
 simp (config:={maxSteps:=100000000}) only[go_sem,iL,iM,iH,iI,iN,iO,iQ,iR,iS,iK,iP,iT,Wh,Wi,Tryd.f86,iJ,mixed]
 exact rfl
noncomputable def C5:Nat→Notation→Int→Option Int
 |0,_,_=>none
 |n+1,a0,a1=>(J1 n).1 a0 a1
theorem Mr: ∀ (n:Nat) (a0:Notation) (a1:Int) (r:Int),C5 n a0 a1=some r→xY Tryd.prog 86 [(nG Notation.cel).enc a0,(pT .i64).enc a1] (fun v=>v=(pT .i64).enc r)
 |0,_,_,_,h=>by cases h
 |n+1,a0,a1,r,h=>by
  exact pg (M:=wo n) ⟨(mZ (pZ (zF n)) (mZ (pZ (DJ n)) m5)),m6,nT _,nU _,oS,oQ,pz,oX⟩ Tryd.func86 rfl rfl ⟨(nG Notation.cel).nb 0 _,(pT .i64).nb 0 _,trivial⟩ Tryd.ntmps86 Tryd.results86 (fun σ hs=>oZ (P:=Tryd.prog) (rs:=[.tmp 4]) (t:=(pT .i64)) (σ:=σ) (r:=r) hs) (((J1 n).2 a0 a1).trans h)
end Go.Abs
