/- A part of the proof: what the functions compute. -/
import Derived.Test.YtfilfimjoeapgaaDoorDataA
set_option linter.all false
open Nat renaming reduceLeDiff → hO,reduceEqDiff → hU,reduceAdd → ij,reduceSub → iq,reduceBEq → ir,reduceMul → iw,reduceLT → iz,le_trans → iF,le_of_eq → iG
open Option renaming getD_some → ia
open Int renaming reduceToNat → ig,reduceBEq → iy,reduceLE → iA,reduceLT → iB,reduceEq → iC
open Subtype renaming mk → iD
open List renaming replicate → iE
open Go.Abs.AV renaming any → qA
namespace Go.Abs
open Go.Proofs
set_option maxRecDepth 100000
set_option maxHeartbeats 4000000
noncomputable def tQ (n:Nat):Mach Bool where
 body:=(Tryd.f39.body).getD .skip
 P:=Tryd.prog
 cl:=oJ []
 cd:=oN []
 qR:=oO []
 cut:=oP []
 n:=n
 out:=pS Tryd.prog [.tmp 2] oF
 q6:=nJ []
theorem Qh (n:Nat):(tQ n).P=Tryd.prog∧(tQ n).cl=oJ []∧(tQ n).cd=oN []∧(tQ n).qR=oO []∧(tQ n).cut=oP []∧(tQ n).n=n∧(tQ n).out=pS Tryd.prog [.tmp 2] oF∧(tQ n).q6=nJ []:=⟨rfl,rfl,rfl,rfl,rfl,rfl,rfl,rfl⟩
theorem Qi (n:Nat):(tQ n).body=(Tryd.f39.body).getD .skip:=rfl
noncomputable def FX (n:Nat):{B:Str→Option Bool // ∀ (a0:Str),run (tQ n) [.at []] {slots:=[uI.enc a0]++iE (6-[uI.enc a0].length) qA,heap:=[]}=B a0}:=by
 apply iD
 intro a0
 simp (config:={maxSteps:=100000000}) only[go_sem,ij,iq,hO,hU,ir,iw,iz,iA,iB,ig,iy,iC,Qh,Qi,Tryd.f39,ia,mixed]
 exact rfl
noncomputable def E5:Nat→Str→Option Bool
 |0,_=>none
 |n+1,a0=>(FX n).1 a0
theorem OF: ∀ (n:Nat) (a0:Str) (r:Bool),E5 n a0=some r→xY Tryd.prog 39 [uI.enc a0] (fun v=>v=oF.enc r)
 |0,_,_,h=>by cases h
 |n+1,a0,r,h=>by
  exact pg (M:=tQ n) ⟨m5,m6,nT _,nU _,oS,oQ,pz,oX⟩ Tryd.func39 rfl rfl ⟨uI.nb 0 _,trivial⟩ Tryd.ntmps39 Tryd.results39 (fun σ hs=>oZ (P:=Tryd.prog) (rs:=[.tmp 2]) (t:=oF) (σ:=σ) (r:=r) hs) (((FX n).2 a0).trans h)
noncomputable def DD:Nrm:=⟨[],[],[zA,zK,zA,zA,zA,zA,zA,zA,zA,zA,zA,zA,zA,zA,zA,zA,zA,zA,zA,zA,zA,zA,zA,zA,zA,zA,zA,zA,zA,zA,zA,zA,zA,zT (tyL Syntax.row),zK,zK,zA,zA,zA,zA,zA,zA,zA,zA,zA,zA,zA,zA,zA,zA],[],none,none⟩
noncomputable def td (X:Syntax→Int→Option (Int×Bool)) (n:Nat):Mach (Int×Bool) where
 body:=(Tryd.f50.body).getD .skip
 P:=Tryd.prog
 cl:=oJ [(50,su (nG Syntax.cel) (pT .i64) (Lt (pT .i64) oF) X)]
 cd:=oN []
 qR:=oO [([0,1,0,1,1,1],DD)]
 cut:=oP []
 n:=n
 out:=pS Tryd.prog [.tmp 4,.tmp 5] (Lt (pT .i64) oF)
 q6:=nJ []
theorem Ma (X:Syntax→Int→Option (Int×Bool)) (n:Nat):(td X n).P=Tryd.prog∧(td X n).cl=oJ [(50,su (nG Syntax.cel) (pT .i64) (Lt (pT .i64) oF) X)]∧(td X n).cd=oN []∧(td X n).qR=oO [([0,1,0,1,1,1],DD)]∧(td X n).cut=oP []∧(td X n).n=n∧(td X n).out=pS Tryd.prog [.tmp 4,.tmp 5] (Lt (pT .i64) oF)∧(td X n).q6=nJ []:=⟨rfl,rfl,rfl,rfl,rfl,rfl,rfl,rfl⟩
theorem Mb (X:Syntax→Int→Option (Int×Bool)) (n:Nat):(td X n).body=(Tryd.f50.body).getD .skip:=rfl
noncomputable def DE (X:Syntax→Int→Option (Int×Bool)) (n:Nat):{B:(Int→(List Syntax)→Int→Int→Option (Int×Bool))→Int→(List Syntax)→Int→Int→Option (Int×Bool) // ∀m X0,(∀ (v0:Int) (v1:List Syntax) (v2:Int) (v3:Int),run (td X n) [.lq m [0,1,0,1,1,1],.q9 0,.cut [1,1,1,1],.at [1,1,1,1]] ⟨[qA,.int .i64 v0,qA,qA,qA,qA,qA,qA,qA,qA,qA,qA,qA,qA,qA,qA,qA,qA,qA,qA,qA,qA,qA,qA,qA,qA,qA,qA,qA,qA,qA,qA,qA,.nY false 8 (mp Syntax.cells v1),.int .i64 v2,.int .i64 v3,qA,qA,qA,qA,qA,qA,qA,qA,qA,qA,qA,qA,qA,qA],[],0,[]⟩=X0 v0 v1 v2 v3)→ ∀ (v0:Int) (v1:List Syntax) (v2:Int) (v3:Int),run (td X n) [.at [0,0,1,0,1,1,1],.lp m [0,1,0,1,1,1],.q9 0,.cut [1,1,1,1],.at [1,1,1,1]] ⟨[qA,.int .i64 v0,qA,qA,qA,qA,qA,qA,qA,qA,qA,qA,qA,qA,qA,qA,qA,qA,qA,qA,qA,qA,qA,qA,qA,qA,qA,qA,qA,qA,qA,qA,qA,.nY false 8 (mp Syntax.cells v1),.int .i64 v2,.int .i64 v3,qA,qA,qA,qA,qA,qA,qA,qA,qA,qA,qA,qA,qA,qA],[],0,[]⟩=B X0 v0 v1 v2 v3}:=by
 apply iD
 intro m X0 ih v0 v1 v2 v3
 simp (config:={maxSteps:=100000000}) only[go_sem,ij,iq,hO,hU,ir,iw,iz,iA,iB,ig,iy,iC,Ma,Mb,Tryd.f50,ia,mixed,DD,ih]
 exact rfl
noncomputable def Aa (X:Syntax→Int→Option (Int×Bool)) (n:Nat):Nat→Int→(List Syntax)→Int→Int→Option (Int×Bool)
 |0,_,_,_,_=>none
 |m+1,v0,v1,v2,v3=>(DE X n).1 (Aa X n m) v0 v1 v2 v3
theorem HH (X:Syntax→Int→Option (Int×Bool)) (n:Nat): ∀ (m:Nat),(∀ (v0:Int) (v1:List Syntax) (v2:Int) (v3:Int),run (td X n) [.lq m [0,1,0,1,1,1],.q9 0,.cut [1,1,1,1],.at [1,1,1,1]] ⟨[qA,.int .i64 v0,qA,qA,qA,qA,qA,qA,qA,qA,qA,qA,qA,qA,qA,qA,qA,qA,qA,qA,qA,qA,qA,qA,qA,qA,qA,qA,qA,qA,qA,qA,qA,.nY false 8 (mp Syntax.cells v1),.int .i64 v2,.int .i64 v3,qA,qA,qA,qA,qA,qA,qA,qA,qA,qA,qA,qA,qA,qA],[],0,[]⟩=Aa X n m v0 v1 v2 v3)
 |0=>by intros;exact nK
 |m+1=>by
  have ih:=HH X n m
  intro v0 v1 v2 v3
  rw[nL]
  exact (DE X n).2 m _ ih v0 v1 v2 v3
noncomputable def Iq (X:Syntax→Int→Option (Int×Bool)) (n:Nat):{B:Syntax→Int→Option (Int×Bool) // ∀ (a0:Syntax) (a1:Int),run (td X n) [.at []] {slots:=[(nG Syntax.cel).enc a0,(pT .i64).enc a1]++iE (50-[(nG Syntax.cel).enc a0,(pT .i64).enc a1].length) qA,heap:=[]}=B a0 a1}:=by
 apply iD
 intro a0 a1
 simp (config:={maxSteps:=100000000}) only[go_sem,ij,iq,hO,hU,ir,iw,iz,iA,iB,ig,iy,iC,Ma,Mb,Tryd.f50,ia,mixed,DD,HH X n]
 exact rfl
noncomputable def yu:Nat→Syntax→Int→Option (Int×Bool)
 |0,_,_=>none
 |n+1,a0,a1=>(Iq (yu n) n).1 a0 a1
theorem KQ: ∀ (n:Nat) (a0:Syntax) (a1:Int) (r:(Int×Bool)),yu n a0 a1=some r→xY Tryd.prog 50 [(nG Syntax.cel).enc a0,(pT .i64).enc a1] (fun v=>v=(Lt (pT .i64) oF).enc r)
 |0,_,_,_,h=>by cases h
 |n+1,a0,a1,r,h=>by
  have R1:=KQ n
  exact pg (M:=td (yu n) n) ⟨(mZ (sI (R1)) m5),m6,nT _,nU _,oS,oQ,pz,oX⟩ Tryd.func50 rfl rfl ⟨(nG Syntax.cel).nb 0 _,(pT .i64).nb 0 _,trivial⟩ Tryd.ntmps50 Tryd.results50 (fun σ hs=>oZ (P:=Tryd.prog) (rs:=[.tmp 4,.tmp 5]) (t:=(Lt (pT .i64) oF)) (σ:=σ) (r:=r) hs) (((Iq (yu n) n).2 a0 a1).trans h)
noncomputable def tR (m9:Syntax→Option Bool) (mU:(List Syntax)→Unit→Option Bool) (mV:(List Syntax)→Unit→Option Int) (n:Nat):Mach Bool where
 body:=(Tryd.f18.body).getD .skip
 P:=Tryd.prog
 cl:=oJ [(56,su (tyL Syntax.row) (E4 18) oF mU)]
 cd:=oN []
 qR:=oO []
 cut:=oP []
 n:=n
 out:=pS Tryd.prog [.tmp 2] oF
 q6:=nJ []
theorem Qj (m9:Syntax→Option Bool) (mU:(List Syntax)→Unit→Option Bool) (mV:(List Syntax)→Unit→Option Int) (n:Nat):(tR m9 mU mV n).P=Tryd.prog∧(tR m9 mU mV n).cl=oJ [(56,su (tyL Syntax.row) (E4 18) oF mU)]∧(tR m9 mU mV n).cd=oN []∧(tR m9 mU mV n).qR=oO []∧(tR m9 mU mV n).cut=oP []∧(tR m9 mU mV n).n=n∧(tR m9 mU mV n).out=pS Tryd.prog [.tmp 2] oF∧(tR m9 mU mV n).q6=nJ []:=⟨rfl,rfl,rfl,rfl,rfl,rfl,rfl,rfl⟩
theorem Qk (m9:Syntax→Option Bool) (mU:(List Syntax)→Unit→Option Bool) (mV:(List Syntax)→Unit→Option Int) (n:Nat):(tR m9 mU mV n).body=(Tryd.f18.body).getD .skip:=rfl
noncomputable def FY (m9:Syntax→Option Bool) (mU:(List Syntax)→Unit→Option Bool) (mV:(List Syntax)→Unit→Option Int) (n:Nat):{B:Syntax→Option Bool // ∀ (a0:Syntax),run (tR m9 mU mV n) [.at []] {slots:=[(nG Syntax.cel).enc a0]++iE (11-[(nG Syntax.cel).enc a0].length) qA,heap:=[]}=B a0}:=by
 apply iD
 intro a0
 simp (config:={maxSteps:=100000000}) only[go_sem,ij,iq,hO,hU,ir,iw,iz,iA,iB,ig,iy,iC,Qj,Qk,Tryd.f18,ia,mixed]
 exact rfl
noncomputable def nP (m9:Syntax→Option Bool) (mU:(List Syntax)→Unit→Option Bool) (mV:(List Syntax)→Unit→Option Int) (n:Nat):Mach Bool where
 body:=(Tryd.f56.body).getD .skip
 P:=Tryd.prog
 cl:=oJ [(88,su (tyL Syntax.row) (E4 18) (pT .i64) mV)]
 cd:=oN []
 qR:=oO []
 cut:=oP []
 n:=n
 out:=pS Tryd.prog [.tmp 4] oF
 q6:=nJ []
theorem AI (m9:Syntax→Option Bool) (mU:(List Syntax)→Unit→Option Bool) (mV:(List Syntax)→Unit→Option Int) (n:Nat):(nP m9 mU mV n).P=Tryd.prog∧(nP m9 mU mV n).cl=oJ [(88,su (tyL Syntax.row) (E4 18) (pT .i64) mV)]∧(nP m9 mU mV n).cd=oN []∧(nP m9 mU mV n).qR=oO []∧(nP m9 mU mV n).cut=oP []∧(nP m9 mU mV n).n=n∧(nP m9 mU mV n).out=pS Tryd.prog [.tmp 4] oF∧(nP m9 mU mV n).q6=nJ []:=⟨rfl,rfl,rfl,rfl,rfl,rfl,rfl,rfl⟩
theorem AJ (m9:Syntax→Option Bool) (mU:(List Syntax)→Unit→Option Bool) (mV:(List Syntax)→Unit→Option Int) (n:Nat):(nP m9 mU mV n).body=(Tryd.f56.body).getD .skip:=rfl
noncomputable def tI (m9:Syntax→Option Bool) (mU:(List Syntax)→Unit→Option Bool) (mV:(List Syntax)→Unit→Option Int) (n:Nat):{B:(List Syntax)→Unit→Option Bool // ∀ (a0:(List Syntax)) (a1:Unit),run (nP m9 mU mV n) [.at []] {slots:=[(tyL Syntax.row).enc a0,(E4 18).enc a1]++iE (9-[(tyL Syntax.row).enc a0,(E4 18).enc a1].length) qA,heap:=[]}=B a0 a1}:=by
 apply iD
 intro a0 a1
 simp (config:={maxSteps:=100000000}) only[go_sem,ij,iq,hO,hU,ir,iw,iz,iA,iB,ig,iy,iC,AI,AJ,Tryd.f56,ia,mixed]
 exact rfl
noncomputable def rV:Nrm:=⟨[],[],[zT (tyL Syntax.row),zT (E4 18),zA,zA,zA,zA,zA,zK,zK,zA,zA,zA,zA,zA,zA,zA,zA,zA,zA],[],none,none⟩
noncomputable def nB (m9:Syntax→Option Bool) (mU:(List Syntax)→Unit→Option Bool) (mV:(List Syntax)→Unit→Option Int) (n:Nat):Mach Int where
 body:=(Tryd.f88.body).getD .skip
 P:=Tryd.prog
 cl:=oJ [(18,p9 (nG Syntax.cel) oF m9)]
 cd:=oN []
 qR:=oO [([0,1,0,1],rV)]
 cut:=oP []
 n:=n
 out:=pS Tryd.prog [.tmp 4] (pT .i64)
 q6:=nJ []
theorem wT (m9:Syntax→Option Bool) (mU:(List Syntax)→Unit→Option Bool) (mV:(List Syntax)→Unit→Option Int) (n:Nat):(nB m9 mU mV n).P=Tryd.prog∧(nB m9 mU mV n).cl=oJ [(18,p9 (nG Syntax.cel) oF m9)]∧(nB m9 mU mV n).cd=oN []∧(nB m9 mU mV n).qR=oO [([0,1,0,1],rV)]∧(nB m9 mU mV n).cut=oP []∧(nB m9 mU mV n).n=n∧(nB m9 mU mV n).out=pS Tryd.prog [.tmp 4] (pT .i64)∧(nB m9 mU mV n).q6=nJ []:=⟨rfl,rfl,rfl,rfl,rfl,rfl,rfl,rfl⟩
theorem wU (m9:Syntax→Option Bool) (mU:(List Syntax)→Unit→Option Bool) (mV:(List Syntax)→Unit→Option Int) (n:Nat):(nB m9 mU mV n).body=(Tryd.f88.body).getD .skip:=rfl
noncomputable def rW (m9:Syntax→Option Bool) (mU:(List Syntax)→Unit→Option Bool) (mV:(List Syntax)→Unit→Option Int) (n:Nat):{B:((List Syntax)→Int→Int→Option Int)→(List Syntax)→Int→Int→Option Int // ∀m X0,(∀ (v0:List Syntax) (v1:Int) (v2:Int),run (nB m9 mU mV n) [.lq m [0,1,0,1],.q9 0,.cut [1,1],.at [1,1]] ⟨[.nY false 8 (mp Syntax.cells v0),.func (.func 18) [] [],qA,qA,qA,qA,qA,.int .i64 v1,.int .i64 v2,qA,qA,qA,qA,qA,qA,qA,qA,qA,qA],[],0,[]⟩=X0 v0 v1 v2)→ ∀ (v0:List Syntax) (v1:Int) (v2:Int),run (nB m9 mU mV n) [.at [0,0,1,0,1],.lp m [0,1,0,1],.q9 0,.cut [1,1],.at [1,1]] ⟨[.nY false 8 (mp Syntax.cells v0),.func (.func 18) [] [],qA,qA,qA,qA,qA,.int .i64 v1,.int .i64 v2,qA,qA,qA,qA,qA,qA,qA,qA,qA,qA],[],0,[]⟩=B X0 v0 v1 v2}:=by
 apply iD
 intro m X0 ih v0 v1 v2
 simp (config:={maxSteps:=100000000}) only[go_sem,ij,iq,hO,hU,ir,iw,iz,iA,iB,ig,iy,iC,wT,wU,Tryd.f88,ia,mixed,rV,ih]
 exact rfl
noncomputable def qc (m9:Syntax→Option Bool) (mU:(List Syntax)→Unit→Option Bool) (mV:(List Syntax)→Unit→Option Int) (n:Nat):Nat→(List Syntax)→Int→Int→Option Int
 |0,_,_,_=>none
 |m+1,v0,v1,v2=>(rW m9 mU mV n).1 (qc m9 mU mV n m) v0 v1 v2
theorem vR (m9:Syntax→Option Bool) (mU:(List Syntax)→Unit→Option Bool) (mV:(List Syntax)→Unit→Option Int) (n:Nat): ∀ (m:Nat),(∀ (v0:List Syntax) (v1:Int) (v2:Int),run (nB m9 mU mV n) [.lq m [0,1,0,1],.q9 0,.cut [1,1],.at [1,1]] ⟨[.nY false 8 (mp Syntax.cells v0),.func (.func 18) [] [],qA,qA,qA,qA,qA,.int .i64 v1,.int .i64 v2,qA,qA,qA,qA,qA,qA,qA,qA,qA,qA],[],0,[]⟩=qc m9 mU mV n m v0 v1 v2)
 |0=>by intros;exact nK
 |m+1=>by
  have ih:=vR m9 mU mV n m
  intro v0 v1 v2
  rw[nL]
  exact (rW m9 mU mV n).2 m _ ih v0 v1 v2
noncomputable def uz (m9:Syntax→Option Bool) (mU:(List Syntax)→Unit→Option Bool) (mV:(List Syntax)→Unit→Option Int) (n:Nat):{B:(List Syntax)→Unit→Option Int // ∀ (a0:(List Syntax)) (a1:Unit),run (nB m9 mU mV n) [.at []] {slots:=[(tyL Syntax.row).enc a0,(E4 18).enc a1]++iE (19-[(tyL Syntax.row).enc a0,(E4 18).enc a1].length) qA,heap:=[]}=B a0 a1}:=by
 apply iD
 intro a0 a1
 simp (config:={maxSteps:=100000000}) only[go_sem,ij,iq,hO,hU,ir,iw,iz,iA,iB,ig,iy,iC,wT,wU,Tryd.f88,ia,mixed,rV,vR m9 mU mV n]
 exact rfl
mutual
noncomputable def qI:Nat→Syntax→Option Bool
 |0,_=>none
 |n+1,a0=>(FY (qI n) (nk n) (nA n) n).1 a0
noncomputable def nk:Nat→(List Syntax)→Unit→Option Bool
 |0,_,_=>none
 |n+1,a0,a1=>(tI (qI n) (nk n) (nA n) n).1 a0 a1
noncomputable def nA:Nat→(List Syntax)→Unit→Option Int
 |0,_,_=>none
 |n+1,a0,a1=>(uz (qI n) (nk n) (nA n) n).1 a0 a1
end
mutual
theorem Ab: ∀ (n:Nat) (a0:Syntax) (r:Bool),qI n a0=some r→xY Tryd.prog 18 [(nG Syntax.cel).enc a0] (fun v=>v=oF.enc r)
 |0,_,_,h=>by simp only[qI] at h;cases h
 |n+1,a0,r,h=>by
  simp only[qI] at h
  have EH:=Ab n
  have tv:=tw n
  have ue:=uf n
  exact pg (M:=tR (qI n) (nk n) (nA n) n) ⟨(mZ (sI (tv)) m5),m6,nT _,nU _,oS,oQ,pz,oX⟩ Tryd.func18 rfl rfl ⟨(nG Syntax.cel).nb 0 _,trivial⟩ Tryd.ntmps18 Tryd.results18 (fun σ hs=>oZ (P:=Tryd.prog) (rs:=[.tmp 2]) (t:=oF) (σ:=σ) (r:=r) hs) (((FY (qI n) (nk n) (nA n) n).2 a0).trans h)
theorem tw: ∀ (n:Nat) (a0:(List Syntax)) (a1:Unit) (r:Bool),nk n a0 a1=some r→xY Tryd.prog 56 [(tyL Syntax.row).enc a0,(E4 18).enc a1] (fun v=>v=oF.enc r)
 |0,_,_,_,h=>by simp only[nk] at h;cases h
 |n+1,a0,a1,r,h=>by
  simp only[nk] at h
  have EH:=Ab n
  have tv:=tw n
  have ue:=uf n
  exact pg (M:=nP (qI n) (nk n) (nA n) n) ⟨(mZ (sI (ue)) m5),m6,nT _,nU _,oS,oQ,pz,oX⟩ Tryd.func56 rfl rfl ⟨(tyL Syntax.row).nb 0 _,(E4 18).nb 0 _,trivial⟩ Tryd.ntmps56 Tryd.results56 (fun σ hs=>oZ (P:=Tryd.prog) (rs:=[.tmp 4]) (t:=oF) (σ:=σ) (r:=r) hs) (((tI (qI n) (nk n) (nA n) n).2 a0 a1).trans h)
theorem uf: ∀ (n:Nat) (a0:(List Syntax)) (a1:Unit) (r:Int),nA n a0 a1=some r→xY Tryd.prog 88 [(tyL Syntax.row).enc a0,(E4 18).enc a1] (fun v=>v=(pT .i64).enc r)
 |0,_,_,_,h=>by simp only[nA] at h;cases h
 |n+1,a0,a1,r,h=>by
  simp only[nA] at h
  have EH:=Ab n
  have tv:=tw n
  have ue:=uf n
  exact pg (M:=nB (qI n) (nk n) (nA n) n) ⟨(mZ (pZ (EH)) m5),m6,nT _,nU _,oS,oQ,pz,oX⟩ Tryd.func88 rfl rfl ⟨(tyL Syntax.row).nb 0 _,(E4 18).nb 0 _,trivial⟩ Tryd.ntmps88 Tryd.results88 (fun σ hs=>oZ (P:=Tryd.prog) (rs:=[.tmp 4]) (t:=(pT .i64)) (σ:=σ) (r:=r) hs) (((uz (qI n) (nk n) (nA n) n).2 a0 a1).trans h)
end
noncomputable def law25_bare_m (X_law25_bare:Syntax→Option Bool) (X_slices_ContainsFunc_Syntax_law25_bare_1:(List Syntax)→Unit→Option Bool) (X_slices_IndexFunc_Syntax_law25_bare_1:(List Syntax)→Unit→Option Int) (X_law25_bare_1:Syntax→Option Bool) (n:Nat):Mach Bool where
 body:=(Tryd.f19.body).getD .skip
 P:=Tryd.prog
 cl:=oJ [(56,su (tyL Syntax.row) (E4 57) oF X_slices_ContainsFunc_Syntax_law25_bare_1)]
 cd:=oN []
 qR:=oO []
 cut:=oP []
 n:=n
 out:=pS Tryd.prog [.tmp 2] oF
 q6:=nJ []
theorem V8 (X_law25_bare:Syntax→Option Bool) (X_slices_ContainsFunc_Syntax_law25_bare_1:(List Syntax)→Unit→Option Bool) (X_slices_IndexFunc_Syntax_law25_bare_1:(List Syntax)→Unit→Option Int) (X_law25_bare_1:Syntax→Option Bool) (n:Nat):(law25_bare_m X_law25_bare X_slices_ContainsFunc_Syntax_law25_bare_1 X_slices_IndexFunc_Syntax_law25_bare_1 X_law25_bare_1 n).P=Tryd.prog∧(law25_bare_m X_law25_bare X_slices_ContainsFunc_Syntax_law25_bare_1 X_slices_IndexFunc_Syntax_law25_bare_1 X_law25_bare_1 n).cl=oJ [(56,su (tyL Syntax.row) (E4 57) oF X_slices_ContainsFunc_Syntax_law25_bare_1)]∧(law25_bare_m X_law25_bare X_slices_ContainsFunc_Syntax_law25_bare_1 X_slices_IndexFunc_Syntax_law25_bare_1 X_law25_bare_1 n).cd=oN []∧(law25_bare_m X_law25_bare X_slices_ContainsFunc_Syntax_law25_bare_1 X_slices_IndexFunc_Syntax_law25_bare_1 X_law25_bare_1 n).qR=oO []∧(law25_bare_m X_law25_bare X_slices_ContainsFunc_Syntax_law25_bare_1 X_slices_IndexFunc_Syntax_law25_bare_1 X_law25_bare_1 n).cut=oP []∧(law25_bare_m X_law25_bare X_slices_ContainsFunc_Syntax_law25_bare_1 X_slices_IndexFunc_Syntax_law25_bare_1 X_law25_bare_1 n).n=n∧(law25_bare_m X_law25_bare X_slices_ContainsFunc_Syntax_law25_bare_1 X_slices_IndexFunc_Syntax_law25_bare_1 X_law25_bare_1 n).out=pS Tryd.prog [.tmp 2] oF∧(law25_bare_m X_law25_bare X_slices_ContainsFunc_Syntax_law25_bare_1 X_slices_IndexFunc_Syntax_law25_bare_1 X_law25_bare_1 n).q6=nJ []:=⟨rfl,rfl,rfl,rfl,rfl,rfl,rfl,rfl⟩
theorem V9 (X_law25_bare:Syntax→Option Bool) (X_slices_ContainsFunc_Syntax_law25_bare_1:(List Syntax)→Unit→Option Bool) (X_slices_IndexFunc_Syntax_law25_bare_1:(List Syntax)→Unit→Option Int) (X_law25_bare_1:Syntax→Option Bool) (n:Nat):(law25_bare_m X_law25_bare X_slices_ContainsFunc_Syntax_law25_bare_1 X_slices_IndexFunc_Syntax_law25_bare_1 X_law25_bare_1 n).body=(Tryd.f19.body).getD .skip:=rfl
noncomputable def JP (X_law25_bare:Syntax→Option Bool) (X_slices_ContainsFunc_Syntax_law25_bare_1:(List Syntax)→Unit→Option Bool) (X_slices_IndexFunc_Syntax_law25_bare_1:(List Syntax)→Unit→Option Int) (X_law25_bare_1:Syntax→Option Bool) (n:Nat):{B:Syntax→Option Bool // ∀ (a0:Syntax),run (law25_bare_m X_law25_bare X_slices_ContainsFunc_Syntax_law25_bare_1 X_slices_IndexFunc_Syntax_law25_bare_1 X_law25_bare_1 n) [.at []] {slots:=[(nG Syntax.cel).enc a0]++iE (49-[(nG Syntax.cel).enc a0].length) qA,heap:=[]}=B a0}:=by
 apply iD
 intro a0
 simp (config:={maxSteps:=100000000}) only[go_sem,ij,iq,hO,hU,ir,iw,iz,iA,iB,ig,iy,iC,V8,V9,Tryd.f19,ia,mixed]
 exact rfl
noncomputable def nW (X_law25_bare:Syntax→Option Bool) (X_slices_ContainsFunc_Syntax_law25_bare_1:(List Syntax)→Unit→Option Bool) (X_slices_IndexFunc_Syntax_law25_bare_1:(List Syntax)→Unit→Option Int) (X_law25_bare_1:Syntax→Option Bool) (n:Nat):Mach Bool where
 body:=(Tryd.f56.body).getD .skip
 P:=Tryd.prog
 cl:=oJ [(88,su (tyL Syntax.row) (E4 57) (pT .i64) X_slices_IndexFunc_Syntax_law25_bare_1)]
 cd:=oN []
 qR:=oO []
 cut:=oP []
 n:=n
 out:=pS Tryd.prog [.tmp 4] oF
 q6:=nJ []
theorem A1 (X_law25_bare:Syntax→Option Bool) (X_slices_ContainsFunc_Syntax_law25_bare_1:(List Syntax)→Unit→Option Bool) (X_slices_IndexFunc_Syntax_law25_bare_1:(List Syntax)→Unit→Option Int) (X_law25_bare_1:Syntax→Option Bool) (n:Nat):(nW X_law25_bare X_slices_ContainsFunc_Syntax_law25_bare_1 X_slices_IndexFunc_Syntax_law25_bare_1 X_law25_bare_1 n).P=Tryd.prog∧(nW X_law25_bare X_slices_ContainsFunc_Syntax_law25_bare_1 X_slices_IndexFunc_Syntax_law25_bare_1 X_law25_bare_1 n).cl=oJ [(88,su (tyL Syntax.row) (E4 57) (pT .i64) X_slices_IndexFunc_Syntax_law25_bare_1)]∧(nW X_law25_bare X_slices_ContainsFunc_Syntax_law25_bare_1 X_slices_IndexFunc_Syntax_law25_bare_1 X_law25_bare_1 n).cd=oN []∧(nW X_law25_bare X_slices_ContainsFunc_Syntax_law25_bare_1 X_slices_IndexFunc_Syntax_law25_bare_1 X_law25_bare_1 n).qR=oO []∧(nW X_law25_bare X_slices_ContainsFunc_Syntax_law25_bare_1 X_slices_IndexFunc_Syntax_law25_bare_1 X_law25_bare_1 n).cut=oP []∧(nW X_law25_bare X_slices_ContainsFunc_Syntax_law25_bare_1 X_slices_IndexFunc_Syntax_law25_bare_1 X_law25_bare_1 n).n=n∧(nW X_law25_bare X_slices_ContainsFunc_Syntax_law25_bare_1 X_slices_IndexFunc_Syntax_law25_bare_1 X_law25_bare_1 n).out=pS Tryd.prog [.tmp 4] oF∧(nW X_law25_bare X_slices_ContainsFunc_Syntax_law25_bare_1 X_slices_IndexFunc_Syntax_law25_bare_1 X_law25_bare_1 n).q6=nJ []:=⟨rfl,rfl,rfl,rfl,rfl,rfl,rfl,rfl⟩
theorem A2 (X_law25_bare:Syntax→Option Bool) (X_slices_ContainsFunc_Syntax_law25_bare_1:(List Syntax)→Unit→Option Bool) (X_slices_IndexFunc_Syntax_law25_bare_1:(List Syntax)→Unit→Option Int) (X_law25_bare_1:Syntax→Option Bool) (n:Nat):(nW X_law25_bare X_slices_ContainsFunc_Syntax_law25_bare_1 X_slices_IndexFunc_Syntax_law25_bare_1 X_law25_bare_1 n).body=(Tryd.f56.body).getD .skip:=rfl
noncomputable def tS (X_law25_bare:Syntax→Option Bool) (X_slices_ContainsFunc_Syntax_law25_bare_1:(List Syntax)→Unit→Option Bool) (X_slices_IndexFunc_Syntax_law25_bare_1:(List Syntax)→Unit→Option Int) (X_law25_bare_1:Syntax→Option Bool) (n:Nat):{B:(List Syntax)→Unit→Option Bool // ∀ (a0:(List Syntax)) (a1:Unit),run (nW X_law25_bare X_slices_ContainsFunc_Syntax_law25_bare_1 X_slices_IndexFunc_Syntax_law25_bare_1 X_law25_bare_1 n) [.at []] {slots:=[(tyL Syntax.row).enc a0,(E4 57).enc a1]++iE (9-[(tyL Syntax.row).enc a0,(E4 57).enc a1].length) qA,heap:=[]}=B a0 a1}:=by
 apply iD
 intro a0 a1
 simp (config:={maxSteps:=100000000}) only[go_sem,ij,iq,hO,hU,ir,iw,iz,iA,iB,ig,iy,iC,A1,A2,Tryd.f56,ia,mixed]
 exact rfl
noncomputable def sx:Nrm:=⟨[],[],[zT (tyL Syntax.row),zT (E4 57),zA,zA,zA,zA,zA,zK,zK,zA,zA,zA,zA,zA,zA,zA,zA,zA,zA],[],none,none⟩
noncomputable def nE (X_law25_bare:Syntax→Option Bool) (X_slices_ContainsFunc_Syntax_law25_bare_1:(List Syntax)→Unit→Option Bool) (X_slices_IndexFunc_Syntax_law25_bare_1:(List Syntax)→Unit→Option Int) (X_law25_bare_1:Syntax→Option Bool) (n:Nat):Mach Int where
 body:=(Tryd.f88.body).getD .skip
 P:=Tryd.prog
 cl:=oJ [(57,p9 (nG Syntax.cel) oF X_law25_bare_1)]
 cd:=oN []
 qR:=oO [([0,1,0,1],sx)]
 cut:=oP []
 n:=n
 out:=pS Tryd.prog [.tmp 4] (pT .i64)
 q6:=nJ []
theorem xl (X_law25_bare:Syntax→Option Bool) (X_slices_ContainsFunc_Syntax_law25_bare_1:(List Syntax)→Unit→Option Bool) (X_slices_IndexFunc_Syntax_law25_bare_1:(List Syntax)→Unit→Option Int) (X_law25_bare_1:Syntax→Option Bool) (n:Nat):(nE X_law25_bare X_slices_ContainsFunc_Syntax_law25_bare_1 X_slices_IndexFunc_Syntax_law25_bare_1 X_law25_bare_1 n).P=Tryd.prog∧(nE X_law25_bare X_slices_ContainsFunc_Syntax_law25_bare_1 X_slices_IndexFunc_Syntax_law25_bare_1 X_law25_bare_1 n).cl=oJ [(57,p9 (nG Syntax.cel) oF X_law25_bare_1)]∧(nE X_law25_bare X_slices_ContainsFunc_Syntax_law25_bare_1 X_slices_IndexFunc_Syntax_law25_bare_1 X_law25_bare_1 n).cd=oN []∧(nE X_law25_bare X_slices_ContainsFunc_Syntax_law25_bare_1 X_slices_IndexFunc_Syntax_law25_bare_1 X_law25_bare_1 n).qR=oO [([0,1,0,1],sx)]∧(nE X_law25_bare X_slices_ContainsFunc_Syntax_law25_bare_1 X_slices_IndexFunc_Syntax_law25_bare_1 X_law25_bare_1 n).cut=oP []∧(nE X_law25_bare X_slices_ContainsFunc_Syntax_law25_bare_1 X_slices_IndexFunc_Syntax_law25_bare_1 X_law25_bare_1 n).n=n∧(nE X_law25_bare X_slices_ContainsFunc_Syntax_law25_bare_1 X_slices_IndexFunc_Syntax_law25_bare_1 X_law25_bare_1 n).out=pS Tryd.prog [.tmp 4] (pT .i64)∧(nE X_law25_bare X_slices_ContainsFunc_Syntax_law25_bare_1 X_slices_IndexFunc_Syntax_law25_bare_1 X_law25_bare_1 n).q6=nJ []:=⟨rfl,rfl,rfl,rfl,rfl,rfl,rfl,rfl⟩
theorem xm (X_law25_bare:Syntax→Option Bool) (X_slices_ContainsFunc_Syntax_law25_bare_1:(List Syntax)→Unit→Option Bool) (X_slices_IndexFunc_Syntax_law25_bare_1:(List Syntax)→Unit→Option Int) (X_law25_bare_1:Syntax→Option Bool) (n:Nat):(nE X_law25_bare X_slices_ContainsFunc_Syntax_law25_bare_1 X_slices_IndexFunc_Syntax_law25_bare_1 X_law25_bare_1 n).body=(Tryd.f88.body).getD .skip:=rfl
noncomputable def sA (X_law25_bare:Syntax→Option Bool) (X_slices_ContainsFunc_Syntax_law25_bare_1:(List Syntax)→Unit→Option Bool) (X_slices_IndexFunc_Syntax_law25_bare_1:(List Syntax)→Unit→Option Int) (X_law25_bare_1:Syntax→Option Bool) (n:Nat):{B:((List Syntax)→Int→Int→Option Int)→(List Syntax)→Int→Int→Option Int // ∀m X0,(∀ (v0:List Syntax) (v1:Int) (v2:Int),run (nE X_law25_bare X_slices_ContainsFunc_Syntax_law25_bare_1 X_slices_IndexFunc_Syntax_law25_bare_1 X_law25_bare_1 n) [.lq m [0,1,0,1],.q9 0,.cut [1,1],.at [1,1]] ⟨[.nY false 8 (mp Syntax.cells v0),.func (.func 57) [] [],qA,qA,qA,qA,qA,.int .i64 v1,.int .i64 v2,qA,qA,qA,qA,qA,qA,qA,qA,qA,qA],[],0,[]⟩=X0 v0 v1 v2)→ ∀ (v0:List Syntax) (v1:Int) (v2:Int),run (nE X_law25_bare X_slices_ContainsFunc_Syntax_law25_bare_1 X_slices_IndexFunc_Syntax_law25_bare_1 X_law25_bare_1 n) [.at [0,0,1,0,1],.lp m [0,1,0,1],.q9 0,.cut [1,1],.at [1,1]] ⟨[.nY false 8 (mp Syntax.cells v0),.func (.func 57) [] [],qA,qA,qA,qA,qA,.int .i64 v1,.int .i64 v2,qA,qA,qA,qA,qA,qA,qA,qA,qA,qA],[],0,[]⟩=B X0 v0 v1 v2}:=by
 apply iD
 intro m X0 ih v0 v1 v2
 simp (config:={maxSteps:=100000000}) only[go_sem,ij,iq,hO,hU,ir,iw,iz,iA,iB,ig,iy,iC,xl,xm,Tryd.f88,ia,mixed,sx,ih]
 exact rfl
noncomputable def qk (X_law25_bare:Syntax→Option Bool) (X_slices_ContainsFunc_Syntax_law25_bare_1:(List Syntax)→Unit→Option Bool) (X_slices_IndexFunc_Syntax_law25_bare_1:(List Syntax)→Unit→Option Int) (X_law25_bare_1:Syntax→Option Bool) (n:Nat):Nat→(List Syntax)→Int→Int→Option Int
 |0,_,_,_=>none
 |m+1,v0,v1,v2=>(sA X_law25_bare X_slices_ContainsFunc_Syntax_law25_bare_1 X_slices_IndexFunc_Syntax_law25_bare_1 X_law25_bare_1 n).1 (qk X_law25_bare X_slices_ContainsFunc_Syntax_law25_bare_1 X_slices_IndexFunc_Syntax_law25_bare_1 X_law25_bare_1 n m) v0 v1 v2
theorem vY (X_law25_bare:Syntax→Option Bool) (X_slices_ContainsFunc_Syntax_law25_bare_1:(List Syntax)→Unit→Option Bool) (X_slices_IndexFunc_Syntax_law25_bare_1:(List Syntax)→Unit→Option Int) (X_law25_bare_1:Syntax→Option Bool) (n:Nat): ∀ (m:Nat),(∀ (v0:List Syntax) (v1:Int) (v2:Int),run (nE X_law25_bare X_slices_ContainsFunc_Syntax_law25_bare_1 X_slices_IndexFunc_Syntax_law25_bare_1 X_law25_bare_1 n) [.lq m [0,1,0,1],.q9 0,.cut [1,1],.at [1,1]] ⟨[.nY false 8 (mp Syntax.cells v0),.func (.func 57) [] [],qA,qA,qA,qA,qA,.int .i64 v1,.int .i64 v2,qA,qA,qA,qA,qA,qA,qA,qA,qA,qA],[],0,[]⟩=qk X_law25_bare X_slices_ContainsFunc_Syntax_law25_bare_1 X_slices_IndexFunc_Syntax_law25_bare_1 X_law25_bare_1 n m v0 v1 v2)
 |0=>by intros;exact nK
 |m+1=>by
  have ih:=vY X_law25_bare X_slices_ContainsFunc_Syntax_law25_bare_1 X_slices_IndexFunc_Syntax_law25_bare_1 X_law25_bare_1 n m
  intro v0 v1 v2
  rw[nL]
  exact (sA X_law25_bare X_slices_ContainsFunc_Syntax_law25_bare_1 X_slices_IndexFunc_Syntax_law25_bare_1 X_law25_bare_1 n).2 m _ ih v0 v1 v2
noncomputable def uK (X_law25_bare:Syntax→Option Bool) (X_slices_ContainsFunc_Syntax_law25_bare_1:(List Syntax)→Unit→Option Bool) (X_slices_IndexFunc_Syntax_law25_bare_1:(List Syntax)→Unit→Option Int) (X_law25_bare_1:Syntax→Option Bool) (n:Nat):{B:(List Syntax)→Unit→Option Int // ∀ (a0:(List Syntax)) (a1:Unit),run (nE X_law25_bare X_slices_ContainsFunc_Syntax_law25_bare_1 X_slices_IndexFunc_Syntax_law25_bare_1 X_law25_bare_1 n) [.at []] {slots:=[(tyL Syntax.row).enc a0,(E4 57).enc a1]++iE (19-[(tyL Syntax.row).enc a0,(E4 57).enc a1].length) qA,heap:=[]}=B a0 a1}:=by
 apply iD
 intro a0 a1
 simp (config:={maxSteps:=100000000}) only[go_sem,ij,iq,hO,hU,ir,iw,iz,iA,iB,ig,iy,iC,xl,xm,Tryd.f88,ia,mixed,sx,vY X_law25_bare X_slices_ContainsFunc_Syntax_law25_bare_1 X_slices_IndexFunc_Syntax_law25_bare_1 X_law25_bare_1 n]
 exact rfl
noncomputable def uL (X_law25_bare:Syntax→Option Bool) (X_slices_ContainsFunc_Syntax_law25_bare_1:(List Syntax)→Unit→Option Bool) (X_slices_IndexFunc_Syntax_law25_bare_1:(List Syntax)→Unit→Option Int) (X_law25_bare_1:Syntax→Option Bool) (n:Nat):Mach Bool where
 body:=(Tryd.f57.body).getD .skip
 P:=Tryd.prog
 cl:=oJ [(19,p9 (nG Syntax.cel) oF X_law25_bare)]
 cd:=oN []
 qR:=oO []
 cut:=oP []
 n:=n
 out:=pS Tryd.prog [.tmp 2] oF
 q6:=nJ []
theorem R2 (X_law25_bare:Syntax→Option Bool) (X_slices_ContainsFunc_Syntax_law25_bare_1:(List Syntax)→Unit→Option Bool) (X_slices_IndexFunc_Syntax_law25_bare_1:(List Syntax)→Unit→Option Int) (X_law25_bare_1:Syntax→Option Bool) (n:Nat):(uL X_law25_bare X_slices_ContainsFunc_Syntax_law25_bare_1 X_slices_IndexFunc_Syntax_law25_bare_1 X_law25_bare_1 n).P=Tryd.prog∧(uL X_law25_bare X_slices_ContainsFunc_Syntax_law25_bare_1 X_slices_IndexFunc_Syntax_law25_bare_1 X_law25_bare_1 n).cl=oJ [(19,p9 (nG Syntax.cel) oF X_law25_bare)]∧(uL X_law25_bare X_slices_ContainsFunc_Syntax_law25_bare_1 X_slices_IndexFunc_Syntax_law25_bare_1 X_law25_bare_1 n).cd=oN []∧(uL X_law25_bare X_slices_ContainsFunc_Syntax_law25_bare_1 X_slices_IndexFunc_Syntax_law25_bare_1 X_law25_bare_1 n).qR=oO []∧(uL X_law25_bare X_slices_ContainsFunc_Syntax_law25_bare_1 X_slices_IndexFunc_Syntax_law25_bare_1 X_law25_bare_1 n).cut=oP []∧(uL X_law25_bare X_slices_ContainsFunc_Syntax_law25_bare_1 X_slices_IndexFunc_Syntax_law25_bare_1 X_law25_bare_1 n).n=n∧(uL X_law25_bare X_slices_ContainsFunc_Syntax_law25_bare_1 X_slices_IndexFunc_Syntax_law25_bare_1 X_law25_bare_1 n).out=pS Tryd.prog [.tmp 2] oF∧(uL X_law25_bare X_slices_ContainsFunc_Syntax_law25_bare_1 X_slices_IndexFunc_Syntax_law25_bare_1 X_law25_bare_1 n).q6=nJ []:=⟨rfl,rfl,rfl,rfl,rfl,rfl,rfl,rfl⟩
theorem R3 (X_law25_bare:Syntax→Option Bool) (X_slices_ContainsFunc_Syntax_law25_bare_1:(List Syntax)→Unit→Option Bool) (X_slices_IndexFunc_Syntax_law25_bare_1:(List Syntax)→Unit→Option Int) (X_law25_bare_1:Syntax→Option Bool) (n:Nat):(uL X_law25_bare X_slices_ContainsFunc_Syntax_law25_bare_1 X_slices_IndexFunc_Syntax_law25_bare_1 X_law25_bare_1 n).body=(Tryd.f57.body).getD .skip:=rfl
noncomputable def GI (X_law25_bare:Syntax→Option Bool) (X_slices_ContainsFunc_Syntax_law25_bare_1:(List Syntax)→Unit→Option Bool) (X_slices_IndexFunc_Syntax_law25_bare_1:(List Syntax)→Unit→Option Int) (X_law25_bare_1:Syntax→Option Bool) (n:Nat):{B:Syntax→Option Bool // ∀ (a0:Syntax),run (uL X_law25_bare X_slices_ContainsFunc_Syntax_law25_bare_1 X_slices_IndexFunc_Syntax_law25_bare_1 X_law25_bare_1 n) [.at []] {slots:=[(nG Syntax.cel).enc a0]++iE (6-[(nG Syntax.cel).enc a0].length) qA,heap:=[]}=B a0}:=by
 apply iD
 intro a0
 simp (config:={maxSteps:=100000000}) only[go_sem,ij,iq,hO,hU,ir,iw,iz,iA,iB,ig,iy,iC,R2,R3,Tryd.f57,ia,mixed]
 exact rfl
mutual
noncomputable def rT:Nat→Syntax→Option Bool
 |0,_=>none
 |n+1,a0=>(JP (rT n) (m7 n) (ni n) (rX n) n).1 a0
noncomputable def m7:Nat→(List Syntax)→Unit→Option Bool
 |0,_,_=>none
 |n+1,a0,a1=>(tS (rT n) (m7 n) (ni n) (rX n) n).1 a0 a1
noncomputable def ni:Nat→(List Syntax)→Unit→Option Int
 |0,_,_=>none
 |n+1,a0,a1=>(uK (rT n) (m7 n) (ni n) (rX n) n).1 a0 a1
noncomputable def rX:Nat→Syntax→Option Bool
 |0,_=>none
 |n+1,a0=>(GI (rT n) (m7 n) (ni n) (rX n) n).1 a0
end
mutual
theorem Bb: ∀ (n:Nat) (a0:Syntax) (r:Bool),rT n a0=some r→xY Tryd.prog 19 [(nG Syntax.cel).enc a0] (fun v=>v=oF.enc r)
 |0,_,_,h=>by simp only[rT] at h;cases h
 |n+1,a0,r,h=>by
  simp only[rT] at h
  have E6:=Bb n
  have rI:=rJ n
  have sB:=sC n
  have CL:=CM n
  exact pg (M:=law25_bare_m (rT n) (m7 n) (ni n) (rX n) n) ⟨(mZ (sI (rI)) m5),m6,nT _,nU _,oS,oQ,pz,oX⟩ Tryd.func19 rfl rfl ⟨(nG Syntax.cel).nb 0 _,trivial⟩ Tryd.ntmps19 Tryd.results19 (fun σ hs=>oZ (P:=Tryd.prog) (rs:=[.tmp 2]) (t:=oF) (σ:=σ) (r:=r) hs) (((JP (rT n) (m7 n) (ni n) (rX n) n).2 a0).trans h)
theorem rJ: ∀ (n:Nat) (a0:(List Syntax)) (a1:Unit) (r:Bool),m7 n a0 a1=some r→xY Tryd.prog 56 [(tyL Syntax.row).enc a0,(E4 57).enc a1] (fun v=>v=oF.enc r)
 |0,_,_,_,h=>by simp only[m7] at h;cases h
 |n+1,a0,a1,r,h=>by
  simp only[m7] at h
  have E6:=Bb n
  have rI:=rJ n
  have sB:=sC n
  have CL:=CM n
  exact pg (M:=nW (rT n) (m7 n) (ni n) (rX n) n) ⟨(mZ (sI (sB)) m5),m6,nT _,nU _,oS,oQ,pz,oX⟩ Tryd.func56 rfl rfl ⟨(tyL Syntax.row).nb 0 _,(E4 57).nb 0 _,trivial⟩ Tryd.ntmps56 Tryd.results56 (fun σ hs=>oZ (P:=Tryd.prog) (rs:=[.tmp 4]) (t:=oF) (σ:=σ) (r:=r) hs) (((tS (rT n) (m7 n) (ni n) (rX n) n).2 a0 a1).trans h)
theorem sC: ∀ (n:Nat) (a0:(List Syntax)) (a1:Unit) (r:Int),ni n a0 a1=some r→xY Tryd.prog 88 [(tyL Syntax.row).enc a0,(E4 57).enc a1] (fun v=>v=(pT .i64).enc r)
 |0,_,_,_,h=>by simp only[ni] at h;cases h
 |n+1,a0,a1,r,h=>by
  simp only[ni] at h
  have E6:=Bb n
  have rI:=rJ n
  have sB:=sC n
  have CL:=CM n
  exact pg (M:=nE (rT n) (m7 n) (ni n) (rX n) n) ⟨(mZ (pZ (CL)) m5),m6,nT _,nU _,oS,oQ,pz,oX⟩ Tryd.func88 rfl rfl ⟨(tyL Syntax.row).nb 0 _,(E4 57).nb 0 _,trivial⟩ Tryd.ntmps88 Tryd.results88 (fun σ hs=>oZ (P:=Tryd.prog) (rs:=[.tmp 4]) (t:=(pT .i64)) (σ:=σ) (r:=r) hs) (((uK (rT n) (m7 n) (ni n) (rX n) n).2 a0 a1).trans h)
theorem CM: ∀ (n:Nat) (a0:Syntax) (r:Bool),rX n a0=some r→xY Tryd.prog 57 [(nG Syntax.cel).enc a0] (fun v=>v=oF.enc r)
 |0,_,_,h=>by simp only[rX] at h;cases h
 |n+1,a0,r,h=>by
  simp only[rX] at h
  have E6:=Bb n
  have rI:=rJ n
  have sB:=sC n
  have CL:=CM n
  exact pg (M:=uL (rT n) (m7 n) (ni n) (rX n) n) ⟨(mZ (pZ (E6)) m5),m6,nT _,nU _,oS,oQ,pz,oX⟩ Tryd.func57 rfl rfl ⟨(nG Syntax.cel).nb 0 _,trivial⟩ Tryd.ntmps57 Tryd.results57 (fun σ hs=>oZ (P:=Tryd.prog) (rs:=[.tmp 2]) (t:=oF) (σ:=σ) (r:=r) hs) (((GI (rT n) (m7 n) (ni n) (rX n) n).2 a0).trans h)
end
noncomputable def law25_name_m (n:Nat):Mach Syntax where
 body:=(Tryd.f27.body).getD .skip
 P:=Tryd.prog
 cl:=oJ []
 cd:=oN []
 qR:=oO []
 cut:=oP []
 n:=n
 out:=pS Tryd.prog [.cell 2 36] (nG Syntax.cel)
 q6:=nJ []
theorem Wa (n:Nat):(law25_name_m n).P=Tryd.prog∧(law25_name_m n).cl=oJ []∧(law25_name_m n).cd=oN []∧(law25_name_m n).qR=oO []∧(law25_name_m n).cut=oP []∧(law25_name_m n).n=n∧(law25_name_m n).out=pS Tryd.prog [.cell 2 36] (nG Syntax.cel)∧(law25_name_m n).q6=nJ []:=⟨rfl,rfl,rfl,rfl,rfl,rfl,rfl,rfl⟩
theorem Wb (n:Nat):(law25_name_m n).body=(Tryd.f27.body).getD .skip:=rfl
noncomputable def NI (n:Nat):{B:Str→Option Syntax // ∀ (a0:Str),run (law25_name_m n) [.at []] {slots:=[uI.enc a0]++iE (5-[uI.enc a0].length) qA,heap:=[]}=B a0}:=by
 apply iD
 intro a0
 simp (config:={maxSteps:=100000000}) only[go_sem,ij,iq,hO,hU,ir,iw,iz,iA,iB,ig,iy,iC,Wa,Wb,Tryd.f27,ia,mixed]
 exact rfl
noncomputable def C0:Nat→Str→Option Syntax
 |0,_=>none
 |n+1,a0=>(NI n).1 a0
theorem Ir: ∀ (n:Nat) (a0:Str) (r:Syntax),C0 n a0=some r→xY Tryd.prog 27 [uI.enc a0] (fun v=>v=(nG Syntax.cel).enc r)
 |0,_,_,h=>by cases h
 |n+1,a0,r,h=>by
  exact pg (M:=law25_name_m n) ⟨m5,m6,nT _,nU _,oS,oQ,pz,oX⟩ Tryd.func27 rfl rfl ⟨uI.nb 0 _,trivial⟩ Tryd.ntmps27 Tryd.results27 (fun σ hs=>oZ (P:=Tryd.prog) (rs:=[.cell 2 36]) (t:=(nG Syntax.cel)) (σ:=σ) (r:=r) hs) (((NI n).2 a0).trans h)
noncomputable def xU:Nrm:=⟨[],[],[zT (tyL mT.row),zT (tyL mT.row),zA,zA,zA,zK,zK,zA,zA,zA,zA,zA,zA,zA,zA,zA,zA,zA,zA,zA,zA,zA,zA,zA,zA,zA,zA,zA,zA,zA,zA,zA,zA,zA,zA,zA,zA,zA,zA,zA,zA,zA,zA,zA,zA,zA,zA,zA,zA,zA,zA,zA,zA,zA,zA,zA,zA,zA,zA,zA,zA,zA,zA,zA,zA,zA,zA,zA,zA,zA,zA],[],none,none⟩
noncomputable def xV:Nrm:=⟨[],[],[zT (tyL mT.row),zT (tyL mT.row),zA,zA,zA,zK,zA,zA,zA,zA,zA,zA,zA,zA,zA,zA,zA,zA,zA,zA,zA,zA,zA,zA,zA,zA,zA,zA,zA,zA,zA,zA,zA,zA,zA,zA,zA,zA,zA,zA,zA,zA,zA,zA,zA,zA,zA,zA,zA,zA,zA,zA,zA,zA,zA,zA,zA,zA,zA,zA,zA,zA,zA,zA,zA,zA,zA,zA,zA,zA,zA],[],none,none⟩
noncomputable def ou (n:Nat):Mach Bool where
 body:=(Tryd.f55.body).getD .skip
 P:=Tryd.prog
 cl:=oJ []
 cd:=oN []
 qR:=oO [([0,1,1,0,0,1,0,0,1,0,1,1],xU),([0,1,0,1,1],xV)]
 cut:=oP []
 n:=n
 out:=pS Tryd.prog [.tmp 4] oF
 q6:=nJ []
 B1:=nJ []
 B0:=nJ []
theorem C1 (n:Nat):(ou n).P=Tryd.prog∧(ou n).cl=oJ []∧(ou n).cd=oN []∧(ou n).qR=oO [([0,1,1,0,0,1,0,0,1,0,1,1],xU),([0,1,0,1,1],xV)]∧(ou n).cut=oP []∧(ou n).n=n∧(ou n).out=pS Tryd.prog [.tmp 4] oF∧(ou n).q6=nJ []∧(ou n).B1=nJ []∧(ou n).B0=nJ []:=⟨rfl,rfl,rfl,rfl,rfl,rfl,rfl,rfl,rfl,rfl⟩
theorem C2 (n:Nat):(ou n).body=(Tryd.f55.body).getD .skip:=rfl
theorem C3 (n:Nat):wH (ou n) [0,0,0,0,1,0,0,1,0,1,1]=true∧wH (ou n) [0,0,0,1,0,0,1,1,0,0,1,0,0,1,0,1,1]=true:=⟨by kernel_rfl,by kernel_rfl⟩
noncomputable def zP (n:Nat):{B:(Tf→Tf→Int→Option Bool)→(Tf→Tf→Int→Int→Option Bool)→Tf→Tf→Int→Int→Option Bool // ∀m2 X2 m X0,(∀ (v0:List mT) (v1:List mT) (v2:Int),run (ou n) [.lq m2 [0,1,0,1,1],.q9 0,.cut [1,1,1],.at [1,1,1]] ⟨[.nY false 2 (mp mT.cells v0),.nY false 2 (mp mT.cells v1),qA,qA,qA,.int .i64 v2,qA,qA,qA,qA,qA,qA,qA,qA,qA,qA,qA,qA,qA,qA,qA,qA,qA,qA,qA,qA,qA,qA,qA,qA,qA,qA,qA,qA,qA,qA,qA,qA,qA,qA,qA,qA,qA,qA,qA,qA,qA,qA,qA,qA,qA,qA,qA,qA,qA,qA,qA,qA,qA,qA,qA,qA,qA,qA,qA,qA,qA,qA,qA,qA,qA],[],0,[]⟩=X2 v0 v1 v2)→(∀ (v0:List mT) (v1:List mT) (v2:Int) (v3:Int),run (ou n) [.lq m [0,1,1,0,0,1,0,0,1,0,1,1],.q9 2,.q9 1,.cut [1,1,0,0,1,0,1,1],.at [1,1,0,0,1,0,1,1],.lp m2 [0,1,0,1,1],.q9 0,.cut [1,1,1],.at [1,1,1]] ⟨[.nY false 2 (mp mT.cells v0),.nY false 2 (mp mT.cells v1),qA,qA,qA,.int .i64 v2,.int .i64 v3,qA,qA,qA,qA,qA,qA,qA,qA,qA,qA,qA,qA,qA,qA,qA,qA,qA,qA,qA,qA,qA,qA,qA,qA,qA,qA,qA,qA,qA,qA,qA,qA,qA,qA,qA,qA,qA,qA,qA,qA,qA,qA,qA,qA,qA,qA,qA,qA,qA,qA,qA,qA,qA,qA,qA,qA,qA,qA,qA,qA,qA,qA,qA,qA],[],0,[]⟩=X0 v0 v1 v2 v3)→ ∀ (v0:List mT) (v1:List mT) (v2:Int) (v3:Int),run (ou n) [.at [0,0,1,1,0,0,1,0,0,1,0,1,1],.lp m [0,1,1,0,0,1,0,0,1,0,1,1],.q9 2,.q9 1,.cut [1,1,0,0,1,0,1,1],.at [1,1,0,0,1,0,1,1],.lp m2 [0,1,0,1,1],.q9 0,.cut [1,1,1],.at [1,1,1]] ⟨[.nY false 2 (mp mT.cells v0),.nY false 2 (mp mT.cells v1),qA,qA,qA,.int .i64 v2,.int .i64 v3,qA,qA,qA,qA,qA,qA,qA,qA,qA,qA,qA,qA,qA,qA,qA,qA,qA,qA,qA,qA,qA,qA,qA,qA,qA,qA,qA,qA,qA,qA,qA,qA,qA,qA,qA,qA,qA,qA,qA,qA,qA,qA,qA,qA,qA,qA,qA,qA,qA,qA,qA,qA,qA,qA,qA,qA,qA,qA,qA,qA,qA,qA,qA,qA],[],0,[]⟩=B X2 X0 v0 v1 v2 v3}:=by
 apply iD
 intro m2 X2 m X0 h2 ih v0 v1 v2 v3
 simp (config:={maxSteps:=100000000}) only[go_sem,ij,iq,hO,hU,ir,iw,iz,iA,iB,ig,iy,iC,C1,C2,Tryd.f55,ia,mixed,C3,xU,xV,h2,ih]
 exact rfl
noncomputable def xW (n:Nat) (X2:Tf→Tf→Int→Option Bool):Nat→Tf→Tf→Int→Int→Option Bool
 |0,_,_,_,_=>none
 |m+1,v0,v1,v2,v3=>(zP n).1 X2 (xW n X2 m) v0 v1 v2 v3
theorem DF (n:Nat) (m2:Nat) (X2:Tf→Tf→Int→Option Bool) (h2:(∀ (v0:List mT) (v1:List mT) (v2:Int),run (ou n) [.lq m2 [0,1,0,1,1],.q9 0,.cut [1,1,1],.at [1,1,1]] ⟨[.nY false 2 (mp mT.cells v0),.nY false 2 (mp mT.cells v1),qA,qA,qA,.int .i64 v2,qA,qA,qA,qA,qA,qA,qA,qA,qA,qA,qA,qA,qA,qA,qA,qA,qA,qA,qA,qA,qA,qA,qA,qA,qA,qA,qA,qA,qA,qA,qA,qA,qA,qA,qA,qA,qA,qA,qA,qA,qA,qA,qA,qA,qA,qA,qA,qA,qA,qA,qA,qA,qA,qA,qA,qA,qA,qA,qA,qA,qA,qA,qA,qA,qA],[],0,[]⟩=X2 v0 v1 v2)): ∀ (m:Nat),(∀ (v0:List mT) (v1:List mT) (v2:Int) (v3:Int),run (ou n) [.lq m [0,1,1,0,0,1,0,0,1,0,1,1],.q9 2,.q9 1,.cut [1,1,0,0,1,0,1,1],.at [1,1,0,0,1,0,1,1],.lp m2 [0,1,0,1,1],.q9 0,.cut [1,1,1],.at [1,1,1]] ⟨[.nY false 2 (mp mT.cells v0),.nY false 2 (mp mT.cells v1),qA,qA,qA,.int .i64 v2,.int .i64 v3,qA,qA,qA,qA,qA,qA,qA,qA,qA,qA,qA,qA,qA,qA,qA,qA,qA,qA,qA,qA,qA,qA,qA,qA,qA,qA,qA,qA,qA,qA,qA,qA,qA,qA,qA,qA,qA,qA,qA,qA,qA,qA,qA,qA,qA,qA,qA,qA,qA,qA,qA,qA,qA,qA,qA,qA,qA,qA,qA,qA,qA,qA,qA,qA],[],0,[]⟩=xW n X2 m v0 v1 v2 v3)
 |0=>by intros;exact nK
 |m+1=>by
  have ih:=DF n m2 X2 h2 m
  intro v0 v1 v2 v3
  rw[nL]
  exact (zP n).2 m2 X2 m _ h2 ih v0 v1 v2 v3
noncomputable def zQ (n:Nat):{B:(Tf→Tf→Int→Option Bool)→Tf→Tf→Int→Option Bool // ∀m X0,(∀ (v0:List mT) (v1:List mT) (v2:Int),run (ou n) [.lq m [0,1,0,1,1],.q9 0,.cut [1,1,1],.at [1,1,1]] ⟨[.nY false 2 (mp mT.cells v0),.nY false 2 (mp mT.cells v1),qA,qA,qA,.int .i64 v2,qA,qA,qA,qA,qA,qA,qA,qA,qA,qA,qA,qA,qA,qA,qA,qA,qA,qA,qA,qA,qA,qA,qA,qA,qA,qA,qA,qA,qA,qA,qA,qA,qA,qA,qA,qA,qA,qA,qA,qA,qA,qA,qA,qA,qA,qA,qA,qA,qA,qA,qA,qA,qA,qA,qA,qA,qA,qA,qA,qA,qA,qA,qA,qA,qA],[],0,[]⟩=X0 v0 v1 v2)→ ∀ (v0:List mT) (v1:List mT) (v2:Int),run (ou n) [.at [0,0,1,0,1,1],.lp m [0,1,0,1,1],.q9 0,.cut [1,1,1],.at [1,1,1]] ⟨[.nY false 2 (mp mT.cells v0),.nY false 2 (mp mT.cells v1),qA,qA,qA,.int .i64 v2,qA,qA,qA,qA,qA,qA,qA,qA,qA,qA,qA,qA,qA,qA,qA,qA,qA,qA,qA,qA,qA,qA,qA,qA,qA,qA,qA,qA,qA,qA,qA,qA,qA,qA,qA,qA,qA,qA,qA,qA,qA,qA,qA,qA,qA,qA,qA,qA,qA,qA,qA,qA,qA,qA,qA,qA,qA,qA,qA,qA,qA,qA,qA,qA,qA],[],0,[]⟩=B X0 v0 v1 v2}:=by
 apply iD
 intro m X0 ih v0 v1 v2
 simp (config:={maxSteps:=100000000}) only[go_sem,ij,iq,hO,hU,ir,iw,iz,iA,iB,ig,iy,iC,C1,C2,Tryd.f55,ia,mixed,C3,xU,xV,DF n m X0 ih,ih]
 exact rfl
noncomputable def wC (n:Nat):Nat→Tf→Tf→Int→Option Bool
 |0,_,_,_=>none
 |m+1,v0,v1,v2=>(zQ n).1 (wC n m) v0 v1 v2
theorem DG (n:Nat): ∀ (m:Nat),(∀ (v0:List mT) (v1:List mT) (v2:Int),run (ou n) [.lq m [0,1,0,1,1],.q9 0,.cut [1,1,1],.at [1,1,1]] ⟨[.nY false 2 (mp mT.cells v0),.nY false 2 (mp mT.cells v1),qA,qA,qA,.int .i64 v2,qA,qA,qA,qA,qA,qA,qA,qA,qA,qA,qA,qA,qA,qA,qA,qA,qA,qA,qA,qA,qA,qA,qA,qA,qA,qA,qA,qA,qA,qA,qA,qA,qA,qA,qA,qA,qA,qA,qA,qA,qA,qA,qA,qA,qA,qA,qA,qA,qA,qA,qA,qA,qA,qA,qA,qA,qA,qA,qA,qA,qA,qA,qA,qA,qA],[],0,[]⟩=wC n m v0 v1 v2)
 |0=>by intros;exact nK
 |m+1=>by
  have ih:=DG n m
  intro v0 v1 v2
  rw[nL]
  exact (zQ n).2 m _ ih v0 v1 v2
noncomputable def C4 (n:Nat):{B:Tf→Tf→Option Bool // ∀ (a0:Tf) (a1:Tf),run (ou n) [.at []] {slots:=[(tyL mT.row).enc a0,(tyL mT.row).enc a1]++iE (71-[(tyL mT.row).enc a0,(tyL mT.row).enc a1].length) qA,heap:=[]}=B a0 a1}:=by
 apply iD
 intro a0 a1
 simp (config:={maxSteps:=100000000}) only[go_sem,ij,iq,hO,hU,ir,iw,iz,iA,iB,ig,iy,iC,C1,C2,Tryd.f55,ia,mixed,C3,xU,xV,DG n]
 exact rfl
noncomputable def Ac:Nat→Tf→Tf→Option Bool
 |0,_,_=>none
 |n+1,a0,a1=>(C4 n).1 a0 a1
theorem LU: ∀ (n:Nat) (a0:Tf) (a1:Tf) (r:Bool),Ac n a0 a1=some r→xY Tryd.prog 55 [(tyL mT.row).enc a0,(tyL mT.row).enc a1] (fun v=>v=oF.enc r)
 |0,_,_,_,h=>by cases h
 |n+1,a0,a1,r,h=>by
  exact pg (M:=ou n) ⟨m5,m6,nT _,nU _,oS,oQ,pz,oX⟩ Tryd.func55 rfl rfl ⟨(tyL mT.row).nb 0 _,(tyL mT.row).nb 0 _,trivial⟩ Tryd.ntmps55 Tryd.results55 (fun σ hs=>oZ (P:=Tryd.prog) (rs:=[.tmp 4]) (t:=oF) (σ:=σ) (r:=r) hs) (((C4 n).2 a0 a1).trans h)
end Go.Abs
namespace Go.Abs
open Go.Proofs
set_option maxRecDepth 100000
set_option maxHeartbeats 4000000
noncomputable def vl (n:Nat):Mach (List Notation) where
 body:=(Tryd.f41.body).getD .skip
 P:=Tryd.prog
 cl:=oJ []
 cd:=oN []
 qR:=oO []
 cut:=oP []
 n:=n
 out:=pS Tryd.prog [.tmp 0] (tyL Notation.row)
 q6:=nJ []
theorem TH (n:Nat):(vl n).P=Tryd.prog∧(vl n).cl=oJ []∧(vl n).cd=oN []∧(vl n).qR=oO []∧(vl n).cut=oP []∧(vl n).n=n∧(vl n).out=pS Tryd.prog [.tmp 0] (tyL Notation.row)∧(vl n).q6=nJ []:=⟨rfl,rfl,rfl,rfl,rfl,rfl,rfl,rfl⟩
theorem TI (n:Nat):(vl n).body=(Tryd.f41.body).getD .skip:=rfl
noncomputable def Mc (n:Nat):{B:Option (List Notation) // run (vl n) [.at []] {slots:=([]:List AV)++iE (10-([]:List AV).length) qA,heap:=[]}=B}:=by
 apply iD
 simp (config:={maxSteps:=100000000}) only[go_sem,ij,iq,hO,hU,ir,iw,iz,iA,iB,ig,iy,iC,TH,TI,Tryd.f41,ia,mixed]
 exact rfl
noncomputable def Fv:Nat→Option (List Notation)
 |0=>none
 |n+1=>(Mc n).1
theorem KR: ∀ (n:Nat) (r:(List Notation)),Fv n=some r→xY Tryd.prog 41 [] (fun v=>v=(tyL Notation.row).enc r)
 |0,_,h=>by cases h
 |n+1,r,h=>by
  exact pg (M:=vl n) ⟨m5,m6,nT _,nU _,oS,oQ,pz,oX⟩ Tryd.func41 rfl rfl trivial Tryd.ntmps41 Tryd.results41 (fun σ hs=>oZ (P:=Tryd.prog) (rs:=[.tmp 0]) (t:=(tyL Notation.row)) (σ:=σ) (r:=r) hs) (((Mc n).2).trans h)
noncomputable def uM (n:Nat):Mach Syntax where
 body:=(Tryd.f28.body).getD .skip
 P:=Tryd.prog
 cl:=oJ []
 cd:=oN []
 qR:=oO []
 cut:=oP []
 n:=n
 out:=pS Tryd.prog [.cell 2 36] (nG Syntax.cel)
 q6:=nJ []
theorem R4 (n:Nat):(uM n).P=Tryd.prog∧(uM n).cl=oJ []∧(uM n).cd=oN []∧(uM n).qR=oO []∧(uM n).cut=oP []∧(uM n).n=n∧(uM n).out=pS Tryd.prog [.cell 2 36] (nG Syntax.cel)∧(uM n).q6=nJ []:=⟨rfl,rfl,rfl,rfl,rfl,rfl,rfl,rfl⟩
theorem R5 (n:Nat):(uM n).body=(Tryd.f28.body).getD .skip:=rfl
noncomputable def KS (n:Nat):{B:Str→Option Syntax // ∀ (a0:Str),run (uM n) [.at []] {slots:=[uI.enc a0]++iE (5-[uI.enc a0].length) qA,heap:=[]}=B a0}:=by
 apply iD
 intro a0
 simp (config:={maxSteps:=100000000}) only[go_sem,ij,iq,hO,hU,ir,iw,iz,iA,iB,ig,iy,iC,R4,R5,Tryd.f28,ia,mixed]
 exact rfl
noncomputable def JQ:Nat→Str→Option Syntax
 |0,_=>none
 |n+1,a0=>(KS n).1 a0
theorem Ql: ∀ (n:Nat) (a0:Str) (r:Syntax),JQ n a0=some r→xY Tryd.prog 28 [uI.enc a0] (fun v=>v=(nG Syntax.cel).enc r)
 |0,_,_,h=>by cases h
 |n+1,a0,r,h=>by
  exact pg (M:=uM n) ⟨m5,m6,nT _,nU _,oS,oQ,pz,oX⟩ Tryd.func28 rfl rfl ⟨uI.nb 0 _,trivial⟩ Tryd.ntmps28 Tryd.results28 (fun σ hs=>oZ (P:=Tryd.prog) (rs:=[.cell 2 36]) (t:=(nG Syntax.cel)) (σ:=σ) (r:=r) hs) (((KS n).2 a0).trans h)
noncomputable def nZ:OL T8:=(tA (B4 (uk 4 pV)) (tA (B4 (alC Syntax.cel 8 pV)) (tA (B4 (alC (cI .i64) 1 pV)) (tA (B4 (alC (cI .i64) 1 pV)) (tA (B4 (uk 5 (qO (tyL Syntax.row) (qO (pT .i64) pV)))) (tA (B4 (xL 6 (xL 7 (xL 8 (qO (pT .i64) pV))))) (tA (wI (nG Notation.cel)) (tA (wI (nG Notation.cel)) (tA Ke yt)))))))))
noncomputable def qx:OL T8:=(tA (B4 (uk 4 pV)) (tA (B4 (alC Syntax.cel 8 pV)) (tA (B4 (alC (cI .i64) 1 pV)) (tA (B4 (alC (cI .i64) 1 pV)) (tA (B4 (uk 5 (qO (tyL Syntax.row) (qO (pT .i64) pV)))) (tA (B4 (xL 6 (xL 7 (xL 8 (qO (pT .i64) pV))))) (tA (wI (nG Notation.cel)) (tA (wI (nG Notation.cel)) (tA Ke yt)))))))))
noncomputable def qd (n:Nat):Mach (T8×Unit) where
 body:=(Tryd.f52.body).getD .skip
 P:=Tryd.prog
 cl:=oJ []
 cd:=oN []
 qR:=oO []
 cut:=oP []
 n:=n
 out:=Cy Tryd.prog [] [] [0,1,2,3,4,5,6,7,8] 9 qx pV
 q6:=nJ []
theorem Ko (n:Nat):(qd n).P=Tryd.prog∧(qd n).cl=oJ []∧(qd n).cd=oN []∧(qd n).qR=oO []∧(qd n).cut=oP []∧(qd n).n=n∧(qd n).out=Cy Tryd.prog [] [] [0,1,2,3,4,5,6,7,8] 9 qx pV∧(qd n).q6=nJ []:=⟨rfl,rfl,rfl,rfl,rfl,rfl,rfl,rfl⟩
theorem Kp (n:Nat):(qd n).body=(Tryd.f52.body).getD .skip:=rfl
noncomputable def Bf (n:Nat):{B:Syntax→Int→Int→(List Syntax)→Int→Int→T3→T3→T5→Option (T8×Unit) // ∀ (o0:Syntax) (o1:Int) (o2:Int) (o3:(List Syntax)) (o4:Int) (o5:Int) (o6:T3) (o7:T3) (o8:T5),run (qd n) [.ops (tM (qd n) [0]) ((tM (qd n) [0]).toList.drop 1),.cut [1],.at [1]] (AState.put {slots:=((uk 0 (uk 1 (uk 2 (uk 3 pV)))).enc (nZ.lens ((),(o0,()),(o1,()),(o2,()),(o3,o4,()),(o5,()),o6,o7,o8,())) ())++iE (23-((uk 0 (uk 1 (uk 2 (uk 3 pV)))).enc (nZ.lens ((),(o0,()),(o1,()),(o2,()),(o3,o4,()),(o5,()),o6,o7,o8,())) ()).length) qA,heap:=(nZ.enc (nZ.lens ((),(o0,()),(o1,()),(o2,()),(o3,o4,()),(o5,()),o6,o7,o8,())) ((),(o0,()),(o1,()),(o2,()),(o3,o4,()),(o5,()),o6,o7,o8,())),low:=(nZ.enc (nZ.lens ((),(o0,()),(o1,()),(o2,()),(o3,o4,()),(o5,()),o6,o7,o8,())) ((),(o0,()),(o1,()),(o2,()),(o3,o4,()),(o5,()),o6,o7,o8,())).length} (some 7) (.raw .nilIface))=B o0 o1 o2 o3 o4 o5 o6 o7 o8}:=by
 apply iD
 intro o0 o1 o2 o3 o4 o5 o6 o7 o8
 simp (config:={maxSteps:=100000000}) only[go_sem,ij,iq,hO,hU,ir,iw,iz,iA,iB,ig,iy,iC,Ko,Kp,Tryd.f52,ia,mixed,nZ,qx]
 exact rfl
noncomputable def u6:Nat→Syntax→Int→Int→(List Syntax)→Int→Int→T3→T3→T5→Option (T8×Unit)
 |0,_,_,_,_,_,_,_,_,_=>none
 |n+1,o0,o1,o2,o3,o4,o5,o6,o7,o8=>(Bf n).1 o0 o1 o2 o3 o4 o5 o6 o7 o8
theorem JR: ∀ (n:Nat) (o0:Syntax) (o1:Int) (o2:Int) (o3:(List Syntax)) (o4:Int) (o5:Int) (o6:T3) (o7:T3) (o8:T5) (r:(T8×Unit)),u6 n o0 o1 o2 o3 o4 o5 o6 o7 o8=some r→Xb Tryd.prog (Xe Tryd.prog 52) ((uk 0 (uk 1 (uk 2 (uk 3 pV)))).enc (nZ.lens ((),(o0,()),(o1,()),(o2,()),(o3,o4,()),(o5,()),o6,o7,o8,())) ()) (nZ.enc (nZ.lens ((),(o0,()),(o1,()),(o2,()),(o3,o4,()),(o5,()),o6,o7,o8,())) ((),(o0,()),(o1,()),(o2,()),(o3,o4,()),(o5,()),o6,o7,o8,())) (fun o H'=>o=(Yw qx pV r).1∧H'=(Yw qx pV r).2)
 |0,_,_,_,_,_,_,_,_,_,_,h=>by cases h
 |n+1,o0,o1,o2,o3,o4,o5,o6,o7,o8,r,h=>by
  exact V6 (M:=qd n) (p1:=[]) (b1:=[0,1,2,3,4,5,6,7,8]) (args:=((uk 0 (uk 1 (uk 2 (uk 3 pV)))).enc (nZ.lens ((),(o0,()),(o1,()),(o2,()),(o3,o4,()),(o5,()),o6,o7,o8,())) ())) ⟨m5,m6,nT _,nU _,oS,oQ,pz,oX⟩ Tryd.func52 rfl (by kernel_rfl) (sP (iF (of_decide_eq_true (by kernel_rfl)) (iG (nZ.sz _ _).symm)) _ ((uk 0 (uk 1 (uk 2 (uk 3 pV)))).nb (nZ.lens ((),(o0,()),(o1,()),(o2,()),(o3,o4,()),(o5,()),o6,o7,o8,())) ())) (fun x hx=>uC (iF (of_decide_eq_true (by kernel_rfl)) (iG (nZ.sz _ _).symm)) _ (nZ.nb _ _ x hx)) Tryd.ntmps52 Tryd.results52 (low:=9) (by rfl) rfl (((Bf n).2 o0 o1 o2 o3 o4 o5 o6 o7 o8).trans h)
noncomputable def rK:AL (Unit×Unit):=(uk 0 (uk 1 (uk 2 (uk 3 (qO (Fq 83 Ft) pV)))))
noncomputable def n4:OL T8:=(tA (B4 (uk 4 pV)) (tA (B4 (alC Syntax.cel 8 pV)) (tA (B4 (alC (cI .i64) 1 pV)) (tA (B4 (alC (cI .i64) 1 pV)) (tA (B4 (uk 5 (qO (tyL Syntax.row) (qO (pT .i64) pV)))) (tA (B4 (xL 6 (xL 7 (xL 8 (qO (pT .i64) pV))))) (tA (wI (nG Notation.cel)) (tA (wI (nG Notation.cel)) (tA Ke yt)))))))))
noncomputable def qy:OL T8:=(tA (B4 (uk 4 pV)) (tA (B4 (alC Syntax.cel 8 pV)) (tA (B4 (alC (cI .i64) 1 pV)) (tA (B4 (alC (cI .i64) 1 pV)) (tA (B4 (uk 5 (qO (tyL Syntax.row) (qO (pT .i64) pV)))) (tA (B4 (xL 6 (xL 7 (xL 8 (qO (pT .i64) pV))))) (tA (wI (nG Notation.cel)) (tA (wI (nG Notation.cel)) (tA Ke yt)))))))))
noncomputable def qe (n:Nat):Mach (T8×Unit) where
 body:=(Tryd.f52.body).getD .skip
 P:=Tryd.prog
 cl:=oJ []
 cd:=oN []
 qR:=oO []
 cut:=oP []
 n:=n
 out:=Cy Tryd.prog [] [] [0,1,2,3,4,5,6,7,8] 9 qy pV
 q6:=nJ []
theorem Kq (n:Nat):(qe n).P=Tryd.prog∧(qe n).cl=oJ []∧(qe n).cd=oN []∧(qe n).qR=oO []∧(qe n).cut=oP []∧(qe n).n=n∧(qe n).out=Cy Tryd.prog [] [] [0,1,2,3,4,5,6,7,8] 9 qy pV∧(qe n).q6=nJ []:=⟨rfl,rfl,rfl,rfl,rfl,rfl,rfl,rfl⟩
theorem Kr (n:Nat):(qe n).body=(Tryd.f52.body).getD .skip:=rfl
noncomputable def Bg (n:Nat):{B:Unit→Syntax→Int→Int→(List Syntax)→Int→Int→T3→T3→T5→Option (T8×Unit) // ∀ (a0:Unit) (o0:Syntax) (o1:Int) (o2:Int) (o3:(List Syntax)) (o4:Int) (o5:Int) (o6:T3) (o7:T3) (o8:T5),run (qe n) [.ops (tM (qe n) [0]) ((tM (qe n) [0]).toList.drop 1),.cut [1],.at [1]] (AState.put {slots:=((uk 0 (uk 1 (uk 2 (uk 3 pV)))).enc (n4.lens ((),(o0,()),(o1,()),(o2,()),(o3,o4,()),(o5,()),o6,o7,o8,())) ())++iE (23-((uk 0 (uk 1 (uk 2 (uk 3 pV)))).enc (n4.lens ((),(o0,()),(o1,()),(o2,()),(o3,o4,()),(o5,()),o6,o7,o8,())) ()).length) qA,heap:=(n4.enc (n4.lens ((),(o0,()),(o1,()),(o2,()),(o3,o4,()),(o5,()),o6,o7,o8,())) ((),(o0,()),(o1,()),(o2,()),(o3,o4,()),(o5,()),o6,o7,o8,())),low:=(n4.enc (n4.lens ((),(o0,()),(o1,()),(o2,()),(o3,o4,()),(o5,()),o6,o7,o8,())) ((),(o0,()),(o1,()),(o2,()),(o3,o4,()),(o5,()),o6,o7,o8,())).length} (some 7) ((Fq 83 Ft).enc a0))=B a0 o0 o1 o2 o3 o4 o5 o6 o7 o8}:=by
 apply iD
 intro a0 o0 o1 o2 o3 o4 o5 o6 o7 o8
 simp (config:={maxSteps:=100000000}) only[go_sem,ij,iq,hO,hU,ir,iw,iz,iA,iB,ig,iy,iC,Kq,Kr,Tryd.f52,ia,mixed,rK,n4,qy]
 exact rfl
noncomputable def uc:Nat→Unit→Syntax→Int→Int→(List Syntax)→Int→Int→T3→T3→T5→Option (T8×Unit)
 |0,_,_,_,_,_,_,_,_,_,_=>none
 |n+1,a0,o0,o1,o2,o3,o4,o5,o6,o7,o8=>(Bg n).1 a0 o0 o1 o2 o3 o4 o5 o6 o7 o8
theorem JS: ∀ (n:Nat) (a0:Unit) (o0:Syntax) (o1:Int) (o2:Int) (o3:(List Syntax)) (o4:Int) (o5:Int) (o6:T3) (o7:T3) (o8:T5) (r:(T8×Unit)),uc n a0 o0 o1 o2 o3 o4 o5 o6 o7 o8=some r→Xb Tryd.prog (Xf Tryd.prog 52) (rK.enc (n4.lens ((),(o0,()),(o1,()),(o2,()),(o3,o4,()),(o5,()),o6,o7,o8,())) (a0,())) (n4.enc (n4.lens ((),(o0,()),(o1,()),(o2,()),(o3,o4,()),(o5,()),o6,o7,o8,())) ((),(o0,()),(o1,()),(o2,()),(o3,o4,()),(o5,()),o6,o7,o8,())) (fun o H'=>o=(Yw qy pV r).1∧H'=(Yw qy pV r).2)
 |0,_,_,_,_,_,_,_,_,_,_,_,h=>by cases h
 |n+1,a0,o0,o1,o2,o3,o4,o5,o6,o7,o8,r,h=>by
  exact V5 (M:=qe n) (p1:=[]) (b1:=[0,1,2,3,4,5,6,7,8]) (args:=((uk 0 (uk 1 (uk 2 (uk 3 pV)))).enc (n4.lens ((),(o0,()),(o1,()),(o2,()),(o3,o4,()),(o5,()),o6,o7,o8,())) ())) (x:=(Fq 83 Ft).enc a0) ⟨m5,m6,nT _,nU _,oS,oQ,pz,oX⟩ Tryd.func52 rfl (by kernel_rfl) (sP (iF (of_decide_eq_true (by kernel_rfl)) (iG (n4.sz _ _).symm)) _ (rK.nb (n4.lens ((),(o0,()),(o1,()),(o2,()),(o3,o4,()),(o5,()),o6,o7,o8,())) (a0,()))) (fun x hx=>uC (iF (of_decide_eq_true (by kernel_rfl)) (iG (n4.sz _ _).symm)) _ (n4.nb _ _ x hx)) Tryd.ntmps52 Tryd.results52 (low:=9) (by rfl) rfl (((Bg n).2 a0 o0 o1 o2 o3 o4 o5 o6 o7 o8).trans h)
noncomputable def qW:OL T7:=(tA (B4 (xL 1 (xL 2 (xL 3 (qO (pT .i64) pV))))) (tA (wI (nG Notation.cel)) (tA (wI (nG Notation.cel)) (tA Ke yt))))
noncomputable def rG (n:Nat):Mach (T7×Unit) where
 body:=(Tryd.f78.body).getD .skip
 P:=Tryd.prog
 cl:=oJ []
 cd:=oN []
 qR:=oO []
 cut:=oP []
 n:=n
 out:=Cy Tryd.prog [.tmp 0] [.arg 0 [],.obj 0 0 [],.obj 0 1 [],.obj 0 2 []] [] 0 qW (uk 0 pV)
 q6:=nJ []
theorem LV (n:Nat):(rG n).P=Tryd.prog∧(rG n).cl=oJ []∧(rG n).cd=oN []∧(rG n).qR=oO []∧(rG n).cut=oP []∧(rG n).n=n∧(rG n).out=Cy Tryd.prog [.tmp 0] [.arg 0 [],.obj 0 0 [],.obj 0 1 [],.obj 0 2 []] [] 0 qW (uk 0 pV)∧(rG n).q6=nJ []:=⟨rfl,rfl,rfl,rfl,rfl,rfl,rfl,rfl⟩
theorem LW (n:Nat):(rG n).body=(Tryd.f78.body).getD .skip:=rfl
noncomputable def Cn (n:Nat):{B:Option (T7×Unit) // run (rG n) [.at []] {slots:=(pV.enc (yt.lens ()) ())++iE (6-(pV.enc (yt.lens ()) ()).length) qA,heap:=(yt.enc (yt.lens ()) ()),low:=(yt.enc (yt.lens ()) ()).length}=B}:=by
 apply iD
 simp (config:={maxSteps:=100000000}) only[go_sem,ij,iq,hO,hU,ir,iw,iz,iA,iB,ig,iy,iC,LV,LW,Tryd.f78,ia,mixed,qW]
 exact rfl
noncomputable def zh:Nat→Option (T7×Unit)
 |0=>none
 |n+1=>(Cn n).1
theorem KT: ∀ (n:Nat) (r:(T7×Unit)),zh n=some r→QF Tryd.prog 78 (pV.enc (yt.lens ()) ()) (yt.enc (yt.lens ()) ()) (fun o H'=>o= .ret (vX ((uk 0 pV).enc (qW.lens r.1) r.2))∧H'=qW.enc (qW.lens r.1) r.1)
 |0,_,h=>by cases h
 |n+1,r,h=>by
  exact B3 (M:=rG n) ⟨m5,m6,nT _,nU _,oS,oQ,pz,oX⟩ Tryd.func78 rfl rfl (sP (iF (of_decide_eq_true (by kernel_rfl)) (iG (yt.sz _ _).symm)) _ (pV.nb _ _)) (fun x hx=>uC (iF (of_decide_eq_true (by kernel_rfl)) (iG (yt.sz _ _).symm)) _ (yt.nb _ _ x hx)) Tryd.ntmps78 Tryd.results78 (fun σ hs=>Bo (P:=Tryd.prog) (rs:=[.tmp 0]) (pos:=[.arg 0 [],.obj 0 0 [],.obj 0 1 [],.obj 0 2 []]) (base:=[]) (low:=0) (os:=qW) (s:=(uk 0 pV)) (σ:=σ) (r:=r) (by rfl) hs) (((Cn n).2).trans h)
noncomputable def tT (n:Nat):Mach Bool where
 body:=(Tryd.f43.body).getD .skip
 P:=Tryd.prog
 cl:=oJ []
 cd:=oN []
 qR:=oO []
 cut:=oP []
 n:=n
 out:=pS Tryd.prog [.tmp 2] oF
 q6:=nJ []
theorem Qm (n:Nat):(tT n).P=Tryd.prog∧(tT n).cl=oJ []∧(tT n).cd=oN []∧(tT n).qR=oO []∧(tT n).cut=oP []∧(tT n).n=n∧(tT n).out=pS Tryd.prog [.tmp 2] oF∧(tT n).q6=nJ []:=⟨rfl,rfl,rfl,rfl,rfl,rfl,rfl,rfl⟩
theorem Qn (n:Nat):(tT n).body=(Tryd.f43.body).getD .skip:=rfl
noncomputable def FZ (n:Nat):{B:Notation→Option Bool // ∀ (a0:Notation),run (tT n) [.at []] {slots:=[(nG Notation.cel).enc a0]++iE (8-[(nG Notation.cel).enc a0].length) qA,heap:=[]}=B a0}:=by
 apply iD
 intro a0
 simp (config:={maxSteps:=100000000}) only[go_sem,ij,iq,hO,hU,ir,iw,iz,iA,iB,ig,iy,iC,Qm,Qn,Tryd.f43,ia,mixed]
 exact rfl
noncomputable def tY:Nat→Notation→Option Bool
 |0,_=>none
 |n+1,a0=>(FZ n).1 a0
theorem Ad: ∀ (n:Nat) (a0:Notation) (r:Bool),tY n a0=some r→xY Tryd.prog 43 [(nG Notation.cel).enc a0] (fun v=>v=oF.enc r)
 |0,_,_,h=>by cases h
 |n+1,a0,r,h=>by
  exact pg (M:=tT n) ⟨m5,m6,nT _,nU _,oS,oQ,pz,oX⟩ Tryd.func43 rfl rfl ⟨(nG Notation.cel).nb 0 _,trivial⟩ Tryd.ntmps43 Tryd.results43 (fun σ hs=>oZ (P:=Tryd.prog) (rs:=[.tmp 2]) (t:=oF) (σ:=σ) (r:=r) hs) (((FZ n).2 a0).trans h)
end Go.Abs
namespace Go.Abs
open Go.Proofs
set_option maxRecDepth 100000
set_option maxHeartbeats 4000000
noncomputable def vm (n:Nat):Mach Int where
 body:=(Tryd.f66.body).getD .skip
 P:=Tryd.prog
 cl:=oJ []
 cd:=oN []
 qR:=oO []
 cut:=oP []
 n:=n
 out:=pS Tryd.prog [.tmp 2] (pT .i64)
 q6:=nJ []
theorem TJ (n:Nat):(vm n).P=Tryd.prog∧(vm n).cl=oJ []∧(vm n).cd=oN []∧(vm n).qR=oO []∧(vm n).cut=oP []∧(vm n).n=n∧(vm n).out=pS Tryd.prog [.tmp 2] (pT .i64)∧(vm n).q6=nJ []:=⟨rfl,rfl,rfl,rfl,rfl,rfl,rfl,rfl⟩
theorem TK (n:Nat):(vm n).body=(Tryd.f66.body).getD .skip:=rfl
noncomputable def Is (n:Nat):{B:Int→Option Int // ∀ (a0:Int),run (vm n) [.at []] {slots:=[(pT .u8).enc a0]++iE (28-[(pT .u8).enc a0].length) qA,heap:=[]}=B a0}:=by
 apply iD
 intro a0
 simp (config:={maxSteps:=100000000}) only[go_sem,ij,iq,hO,hU,ir,iw,iz,iA,iB,ig,iy,iC,TJ,TK,Tryd.f66,ia,mixed]
 exact rfl
noncomputable def BF:Nat→Int→Option Int
 |0,_=>none
 |n+1,a0=>(Is n).1 a0
theorem KU: ∀ (n:Nat) (a0:Int) (r:Int),BF n a0=some r→xY Tryd.prog 66 [(pT .u8).enc a0] (fun v=>v=(pT .i64).enc r)
 |0,_,_,h=>by cases h
 |n+1,a0,r,h=>by
  exact pg (M:=vm n) ⟨m5,m6,nT _,nU _,oS,oQ,pz,oX⟩ Tryd.func66 rfl rfl ⟨(pT .u8).nb 0 _,trivial⟩ Tryd.ntmps66 Tryd.results66 (fun σ hs=>oZ (P:=Tryd.prog) (rs:=[.tmp 2]) (t:=(pT .i64)) (σ:=σ) (r:=r) hs) (((Is n).2 a0).trans h)
noncomputable def rH (n:Nat):Mach Str where
 body:=(Tryd.f108.body).getD .skip
 P:=Tryd.prog
 cl:=oJ []
 cd:=oN []
 qR:=oO []
 cut:=oP [([1,1],[0])]
 n:=n
 out:=pS Tryd.prog [.tmp 2] (XT 112 (tyP cS))
 q6:=nJ []
theorem LX (n:Nat):(rH n).P=Tryd.prog∧(rH n).cl=oJ []∧(rH n).cd=oN []∧(rH n).qR=oO []∧(rH n).cut=oP [([1,1],[0])]∧(rH n).n=n∧(rH n).out=pS Tryd.prog [.tmp 2] (XT 112 (tyP cS))∧(rH n).q6=nJ []:=⟨rfl,rfl,rfl,rfl,rfl,rfl,rfl,rfl⟩
theorem LY (n:Nat):(rH n).body=(Tryd.f108.body).getD .skip:=rfl
noncomputable def Gd (n:Nat):{B:Str→Option Str // ∀ (a0:Str),run (rH n) [.at []] {slots:=[uI.enc a0]++iE (4-[uI.enc a0].length) qA,heap:=[]}=B a0}:=by
 apply iD
 intro a0
 simp (config:={maxSteps:=100000000}) only[go_sem,ij,iq,hO,hU,ir,iw,iz,iA,iB,ig,iy,iC,LX,LY,Tryd.f108,ia,mixed]
 exact rfl
noncomputable def DH:Nat→Str→Option Str
 |0,_=>none
 |n+1,a0=>(Gd n).1 a0
theorem KV: ∀ (n:Nat) (a0:Str) (r:Str),DH n a0=some r→xY Tryd.prog 108 [uI.enc a0] (fun v=>v=(XT 112 (tyP cS)).enc r)
 |0,_,_,h=>by cases h
 |n+1,a0,r,h=>by
  exact pg (M:=rH n) ⟨m5,m6,nT _,nU _,oS,oQ,pz,oX⟩ Tryd.func108 rfl rfl ⟨uI.nb 0 _,trivial⟩ Tryd.ntmps108 Tryd.results108 (fun σ hs=>oZ (P:=Tryd.prog) (rs:=[.tmp 2]) (t:=(XT 112 (tyP cS))) (σ:=σ) (r:=r) hs) (((Gd n).2 a0).trans h)
noncomputable def oo:xR:=(lkAt [] (sub [0,1,0,1,1] ((Tryd.f97.body).getD .skip)))
theorem vP:oo.ps.size=1∧ ∀j:Int,sQ oo.js j=none:=⟨by kernel_rfl,fun j=>(by show sQ [] j=none;unfold sQ lookJ;cases (j==0)<;>rfl)⟩
noncomputable def nF:OL Tp:=(tA (ogL0 oo (alZ (uk 1 (Yg 7 pV)))) (tA (B4 (xL 2 pV)) (tA Ke yt)))
noncomputable def pH:OL Te:=(tA (ogL oo (alZ (uk 1 (Yg 7 pV)))) (tA (B4 (xL 2 pV)) (tA Ke yt)))
noncomputable def pe (n:Nat):Mach Tw where
 body:= .seq (asgnC (sub [0,1,0,1,1] ((Tryd.f97.body).getD .skip))) (bdyC (sub [0,1,0,1,1] ((Tryd.f97.body).getD .skip)))
 P:=Tryd.prog
 cl:=oJ []
 cd:=oN []
 qR:=oO []
 cut:=oP []
 n:=n
 out:=(fun _=>none)
 pS:=outRd [] [] [0,1,2] 3 pH
 q6:=nJ []
theorem Fw (n:Nat):(pe n).P=Tryd.prog∧(pe n).cl=oJ []∧(pe n).cd=oN []∧(pe n).qR=oO []∧(pe n).cut=oP []∧(pe n).n=n∧(pe n).out=(fun _=>none)∧(pe n).pS=outRd [] [] [0,1,2] 3 pH∧(pe n).q6=nJ []:=⟨rfl,rfl,rfl,rfl,rfl,rfl,rfl,rfl,rfl⟩
theorem Fx (n:Nat):(pe n).body= .seq (asgnC (sub [0,1,0,1,1] ((Tryd.f97.body).getD .skip))) (bdyC (sub [0,1,0,1,1] ((Tryd.f97.body).getD .skip))):=rfl
theorem Fy:Code.seq (asgnC (sub [0,1,0,1,1] ((Tryd.f97.body).getD .skip))) (bdyC (sub [0,1,0,1,1] ((Tryd.f97.body).getD .skip)))=Code.seq oo.assign oo.body:=by kernel_rfl
noncomputable def Ay (n:Nat):{B:Str→T5→Option Tw // ∀ (a0:Str) (o0:T5),run (pe n) [.at [0],.rb,.at [1],.rd] {slots:=Kd ((alZ (uk 1 (Yg 7 pV))).enc (nF.lens ((),(),o0,())) ()) [5] ((qO uI pV).enc (nF.lens ((),(),o0,())) (a0,())),heap:=(nF.enc (nF.lens ((),(),o0,())) ((),(),o0,())),low:=(nF.enc (nF.lens ((),(),o0,())) ((),(),o0,())).length}=B a0 o0}:=by
 apply iD
 intro a0 o0
 simp (config:={maxSteps:=100000000}) only[go_sem,ij,iq,hO,hU,ir,iw,iz,iA,iB,ig,iy,iC,Fw,Fx,Tryd.f97,ia,mixed,nF,pH,vP]
 exact rfl
noncomputable def ya:Nat→Str→T5→Option Tw
 |0,_,_=>none
 |n+1,a0,o0=>(Ay n).1 a0 o0
theorem EI: ∀ (n:Nat) (a0:Str) (o0:T5) (r:Tw),ya n a0 o0=some r→Xb Tryd.prog (MH Tryd.prog) ((qO uI pV).enc (nF.lens ((),(),o0,())) (a0,())) (nF.enc (nF.lens ((),(),o0,())) ((),(),o0,())) (fun o H'=>o= .ret (vX ((qO oF pV).enc (pH.lens r.1) r.2))∧H'=pH.enc (pH.lens r.1) r.1)
 |0,_,_,_,h=>by cases h
 |n+1,a0,o0,r,h=>by
  exact fnT_run (M:=pe n) (lk:=oo) (slots:=((alZ (uk 1 (Yg 7 pV))).enc (nF.lens ((),(),o0,())) ())) ⟨m5,m6,nT _,nU _,oS,oQ,pz,oX⟩ Fy (by kernel_rfl) ⟨by kernel_rfl,by kernel_rfl⟩ rfl (sP (iF (of_decide_eq_true (by kernel_rfl)) (iG (nF.sz _ _).symm)) _ ((qO uI pV).nb _ _)) (fun x hx=>uC (iF (of_decide_eq_true (by kernel_rfl)) (iG (nF.sz _ _).symm)) _ (nF.nb _ _ x hx)) (fun e σ hs=>outRd_ok (js:=[]) (pos:=[]) (base:=[0,1,2]) (low:=3) (os:=pH) (e:=e) (σ:=σ) (r:=r) (by rfl) hs) (((Ay n).2 a0 o0).trans h)
noncomputable def vZ:Nrm:=⟨[],[],[zK,zA,zA,zA,zA,zA,zA,zA,zA,zK,zK,zA,zK,zA,zA,zA,zA,zA,zA,zA,zA,zA,zA,zA,zA,zA,zA,zA,zA,zA,zA,zA,zA,zA,zA,zA,zA,zA,zA,zA,zA,zA,zA,zA,zA,zA,zA,zA,zA,zA,zA,zA,zA,zA,zA,zA,zA,zA,zA,zA,zA,zA,zA,zA,zA,zA,zA,zA,zA,zA,zA,zA,zA,zA,zA,zA,zA,zA,zA,zA,zA,zA,zA,zA,zA,zA,zA,zA,zA,zA,zA,zA,zA,zA,zA,zA,zA,zA,zA,zA,zA,zA,zA,zA,zA,zA],[oA sD],none,none⟩
noncomputable def we:Nrm:=⟨[],[],[zK,zA,zA,zA,zA,zA,zA,zA,zA,zK,zK,zK,zK,zA,zA,zA,zA,zA,zA,zA,zA,zA,zA,zA,zA,zA,zA,zA,zA,zA,zA,zA,zA,zA,zA,zA,zA,zA,zA,zA,zA,zA,zA,zA,zA,zA,zA,zA,zA,zA,zA,zA,zA,zA,zA,zA,zA,zA,zA,zA,zA,zA,zA,zA,zA,zA,zA,zA,zA,zA,zA,zA,zA,zA,zA,zA,zA,zA,zA,zA,zA,zA,zA,zA,zA,zA,zA,zA,zA,zA,zA,zA,zA,zA,zA,zA,zA,zA,zA,zA,zA,zA,zA,zA,zA,zA],[oA sD],none,none⟩
noncomputable def wg:Nrm:=⟨[],[],[zK,zA,zA,zA,zA,zA,zA,zA,zA,zK,zK,zA,zK,zA,zA,zA,zA,zA,zA,zA,zA,zA,zA,zA,zA,zA,zA,zA,zA,zA,zA,zA,zA,zA,zA,zA,zA,zA,zA,zA,zA,zA,zA,zA,zA,zA,zA,zA,zA,zA,zA,zA,zA,zA,zA,zA,zA,zA,zA,zA,zA,zA,zA,zA,zA,zA,zA,zA,zA,zA,zA,zA,zA,zA,zA,zA,zA,zA,zA,zA,zA,zA,zA,zA,zA,zA,zA,zA,zA,zA,zA,zA,zA,zA,zA,zA,zA,zA,zA,zA,zA,zA,zA,zA,zA,zA],[oA sD],none,none⟩
noncomputable def wh:Nrm:=⟨[],[],[zK,zA,zA,zK,zK,zK,zK,zA,zA,zA,zA,zA,zA,zA,zA,zA,zA,zA,zA,zA,zA,zA,zA,zA,zA,zA,zA,zA,zA,zA,zA,zA,zA,zA,zA,zA,zA,zA,zA,zA,zA,zA,zA,zA,zA,zA,zA,zA,zA,zA,zA,zA,zA,zA,zA,zA,zA,zA,zA,zA,zA,zA,zA,zA,zA,zA,zA,zA,zA,zA,zA,zA,zA,zA,zA,zA,zA,zA,zA,zA,zA,zA,zA,zA,zA,zA,zA,zA,zA,zA,zA,zA,zA,zA,zA,zA,zA,zA,zA,zA,zA,zA,zA,zA,zA,zA],[],none,none⟩
noncomputable def oU (n:Nat):Mach (List Str) where
 body:=(Tryd.f99.body).getD .skip
 P:=Tryd.prog
 cl:=oJ []
 cd:=oN []
 qR:=oO [([0,0,1,1,1,1,0,1,0,0,0,1,1,1,1,1,1,1,1,1,1,1,1],vZ),([0,0,1,1,1,1,1,1,1,1,1,1,1,1],we),([0,0,1,1,1,1,1,1,1,1,1,1],wg),([0,1,0,1,1,1,1],wh)]
 cut:=oP []
 n:=n
 out:=pS Tryd.prog [.tmp 2] (tyL sD)
 q6:=nJ []
theorem Ae (n:Nat):(oU n).P=Tryd.prog∧(oU n).cl=oJ []∧(oU n).cd=oN []∧(oU n).qR=oO [([0,0,1,1,1,1,0,1,0,0,0,1,1,1,1,1,1,1,1,1,1,1,1],vZ),([0,0,1,1,1,1,1,1,1,1,1,1,1,1],we),([0,0,1,1,1,1,1,1,1,1,1,1],wg),([0,1,0,1,1,1,1],wh)]∧(oU n).cut=oP []∧(oU n).n=n∧(oU n).out=pS Tryd.prog [.tmp 2] (tyL sD)∧(oU n).q6=nJ []:=⟨rfl,rfl,rfl,rfl,rfl,rfl,rfl,rfl⟩
theorem Af (n:Nat):(oU n).body=(Tryd.f99.body).getD .skip:=rfl
noncomputable def HI (n:Nat):{B:Tv→TA→Str→Int→Int→(List Str)→Option (List Str) // ∀m2 X2 m X0,(∀ (v0:Str) (v1:Int) (v2:Int) (v3:Int) (r0:List Str) (c0:Nat),c0=r0.length→run (oU n) [.lq m2 [0,0,1,1,1,1,1,1,1,1,1,1,1,1],.q9 4,.cut [1,1,1,1,1,1,1,1,1,1,1,1,1],.at [1,1,1,1,1,1,1,1,1,1,1,1,1]] ⟨[.str (sb v0),qA,qA,qA,qA,qA,qA,qA,qA,.acc 0 c0,.int .i64 v1,.int .i64 v2,.int .i64 v3,qA,qA,qA,qA,qA,qA,qA,qA,qA,qA,qA,qA,qA,qA,qA,qA,qA,qA,qA,qA,qA,qA,qA,qA,qA,qA,qA,qA,qA,qA,qA,qA,qA,qA,qA,qA,qA,qA,qA,qA,qA,qA,qA,qA,qA,qA,qA,qA,qA,qA,qA,qA,qA,qA,qA,qA,qA,qA,qA,qA,qA,qA,qA,qA,qA,qA,qA,qA,qA,qA,qA,qA,qA,qA,qA,qA,qA,qA,qA,qA,qA,qA,qA,qA,qA,qA,qA,qA,qA,qA,qA,qA,qA],[.acc false 1 (mp pP r0)],0,[]⟩=X2 v0 v1 v2 v3 r0)→(∀ (v0:Str) (v1:Int) (v2:Int) (r0:List Str) (c0:Nat),c0=r0.length→run (oU n) [.lq m [0,0,1,1,1,1,0,1,0,0,0,1,1,1,1,1,1,1,1,1,1,1,1],.q9 6,.cut [1,1,1,1,1,0,1,0,0,0,1,1,1,1,1,1,1,1,1,1,1,1],.at [1,1,1,1,1,0,1,0,0,0,1,1,1,1,1,1,1,1,1,1,1,1],.q9 5,.lp m2 [0,0,1,1,1,1,1,1,1,1,1,1,1,1],.q9 4,.cut [1,1,1,1,1,1,1,1,1,1,1,1,1],.at [1,1,1,1,1,1,1,1,1,1,1,1,1]] ⟨[.str (sb v0),qA,qA,qA,qA,qA,qA,qA,qA,.acc 0 c0,.int .i64 v1,qA,.int .i64 v2,qA,qA,qA,qA,qA,qA,qA,qA,qA,qA,qA,qA,qA,qA,qA,qA,qA,qA,qA,qA,qA,qA,qA,qA,qA,qA,qA,qA,qA,qA,qA,qA,qA,qA,qA,qA,qA,qA,qA,qA,qA,qA,qA,qA,qA,qA,qA,qA,qA,qA,qA,qA,qA,qA,qA,qA,qA,qA,qA,qA,qA,qA,qA,qA,qA,qA,qA,qA,qA,qA,qA,qA,qA,qA,qA,qA,qA,qA,qA,qA,qA,qA,qA,qA,qA,qA,qA,qA,qA,qA,qA,qA,qA],[.acc false 1 (mp pP r0)],0,[]⟩=X0 v0 v1 v2 r0)→ ∀ (v0:Str) (v1:Int) (v2:Int) (r0:List Str),run (oU n) [.at [0,0,0,1,1,1,1,0,1,0,0,0,1,1,1,1,1,1,1,1,1,1,1,1],.lp m [0,0,1,1,1,1,0,1,0,0,0,1,1,1,1,1,1,1,1,1,1,1,1],.q9 6,.cut [1,1,1,1,1,0,1,0,0,0,1,1,1,1,1,1,1,1,1,1,1,1],.at [1,1,1,1,1,0,1,0,0,0,1,1,1,1,1,1,1,1,1,1,1,1],.q9 5,.lp m2 [0,0,1,1,1,1,1,1,1,1,1,1,1,1],.q9 4,.cut [1,1,1,1,1,1,1,1,1,1,1,1,1],.at [1,1,1,1,1,1,1,1,1,1,1,1,1]] ⟨[.str (sb v0),qA,qA,qA,qA,qA,qA,qA,qA,.acc 0 r0.length,.int .i64 v1,qA,.int .i64 v2,qA,qA,qA,qA,qA,qA,qA,qA,qA,qA,qA,qA,qA,qA,qA,qA,qA,qA,qA,qA,qA,qA,qA,qA,qA,qA,qA,qA,qA,qA,qA,qA,qA,qA,qA,qA,qA,qA,qA,qA,qA,qA,qA,qA,qA,qA,qA,qA,qA,qA,qA,qA,qA,qA,qA,qA,qA,qA,qA,qA,qA,qA,qA,qA,qA,qA,qA,qA,qA,qA,qA,qA,qA,qA,qA,qA,qA,qA,qA,qA,qA,qA,qA,qA,qA,qA,qA,qA,qA,qA,qA,qA,qA],[.acc false 1 (mp pP r0)],0,[]⟩=B X2 X0 v0 v1 v2 r0}:=by
 apply iD
 intro m2 X2 m X0 h2 ih v0 v1 v2 r0
 simp (config:={maxSteps:=100000000}) only[go_sem,ij,iq,hO,hU,ir,iw,iz,iA,iB,ig,iy,iC,Ae,Af,Tryd.f99,ia,mixed,vZ,we,wg,wh,h2,ih]
 exact rfl
noncomputable def HJ (n:Nat) (X2:Str→Int→Int→Int→(List Str)→Option (List Str)):Nat→Str→Int→Int→(List Str)→Option (List Str)
 |0,_,_,_,_=>none
 |m+1,v0,v1,v2,r0=>(HI n).1 X2 (HJ n X2 m) v0 v1 v2 r0
theorem Fz (n:Nat) (m2:Nat) (X2:Str→Int→Int→Int→(List Str)→Option (List Str)) (h2:(∀ (v0:Str) (v1:Int) (v2:Int) (v3:Int) (r0:List Str) (c0:Nat),c0=r0.length→run (oU n) [.lq m2 [0,0,1,1,1,1,1,1,1,1,1,1,1,1],.q9 4,.cut [1,1,1,1,1,1,1,1,1,1,1,1,1],.at [1,1,1,1,1,1,1,1,1,1,1,1,1]] ⟨[.str (sb v0),qA,qA,qA,qA,qA,qA,qA,qA,.acc 0 c0,.int .i64 v1,.int .i64 v2,.int .i64 v3,qA,qA,qA,qA,qA,qA,qA,qA,qA,qA,qA,qA,qA,qA,qA,qA,qA,qA,qA,qA,qA,qA,qA,qA,qA,qA,qA,qA,qA,qA,qA,qA,qA,qA,qA,qA,qA,qA,qA,qA,qA,qA,qA,qA,qA,qA,qA,qA,qA,qA,qA,qA,qA,qA,qA,qA,qA,qA,qA,qA,qA,qA,qA,qA,qA,qA,qA,qA,qA,qA,qA,qA,qA,qA,qA,qA,qA,qA,qA,qA,qA,qA,qA,qA,qA,qA,qA,qA,qA,qA,qA,qA,qA],[.acc false 1 (mp pP r0)],0,[]⟩=X2 v0 v1 v2 v3 r0)): ∀ (m:Nat),(∀ (v0:Str) (v1:Int) (v2:Int) (r0:List Str) (c0:Nat),c0=r0.length→run (oU n) [.lq m [0,0,1,1,1,1,0,1,0,0,0,1,1,1,1,1,1,1,1,1,1,1,1],.q9 6,.cut [1,1,1,1,1,0,1,0,0,0,1,1,1,1,1,1,1,1,1,1,1,1],.at [1,1,1,1,1,0,1,0,0,0,1,1,1,1,1,1,1,1,1,1,1,1],.q9 5,.lp m2 [0,0,1,1,1,1,1,1,1,1,1,1,1,1],.q9 4,.cut [1,1,1,1,1,1,1,1,1,1,1,1,1],.at [1,1,1,1,1,1,1,1,1,1,1,1,1]] ⟨[.str (sb v0),qA,qA,qA,qA,qA,qA,qA,qA,.acc 0 c0,.int .i64 v1,qA,.int .i64 v2,qA,qA,qA,qA,qA,qA,qA,qA,qA,qA,qA,qA,qA,qA,qA,qA,qA,qA,qA,qA,qA,qA,qA,qA,qA,qA,qA,qA,qA,qA,qA,qA,qA,qA,qA,qA,qA,qA,qA,qA,qA,qA,qA,qA,qA,qA,qA,qA,qA,qA,qA,qA,qA,qA,qA,qA,qA,qA,qA,qA,qA,qA,qA,qA,qA,qA,qA,qA,qA,qA,qA,qA,qA,qA,qA,qA,qA,qA,qA,qA,qA,qA,qA,qA,qA,qA,qA,qA,qA,qA,qA,qA,qA],[.acc false 1 (mp pP r0)],0,[]⟩=HJ n X2 m v0 v1 v2 r0)
 |0=>by intros;exact nK
 |m+1=>by
  have ih:=Fz n m2 X2 h2 m
  intro v0 v1 v2 r0 c0 ec0
  subst ec0
  rw[nL]
  exact (HI n).2 m2 X2 m _ h2 ih v0 v1 v2 r0
noncomputable def HK (n:Nat):{B:Tv→Str→Int→Int→Int→(List Str)→Option (List Str) // ∀m X0,(∀ (v0:Str) (v1:Int) (v2:Int) (v3:Int) (r0:List Str) (c0:Nat),c0=r0.length→run (oU n) [.lq m [0,0,1,1,1,1,1,1,1,1,1,1,1,1],.q9 4,.cut [1,1,1,1,1,1,1,1,1,1,1,1,1],.at [1,1,1,1,1,1,1,1,1,1,1,1,1]] ⟨[.str (sb v0),qA,qA,qA,qA,qA,qA,qA,qA,.acc 0 c0,.int .i64 v1,.int .i64 v2,.int .i64 v3,qA,qA,qA,qA,qA,qA,qA,qA,qA,qA,qA,qA,qA,qA,qA,qA,qA,qA,qA,qA,qA,qA,qA,qA,qA,qA,qA,qA,qA,qA,qA,qA,qA,qA,qA,qA,qA,qA,qA,qA,qA,qA,qA,qA,qA,qA,qA,qA,qA,qA,qA,qA,qA,qA,qA,qA,qA,qA,qA,qA,qA,qA,qA,qA,qA,qA,qA,qA,qA,qA,qA,qA,qA,qA,qA,qA,qA,qA,qA,qA,qA,qA,qA,qA,qA,qA,qA,qA,qA,qA,qA,qA,qA],[.acc false 1 (mp pP r0)],0,[]⟩=X0 v0 v1 v2 v3 r0)→ ∀ (v0:Str) (v1:Int) (v2:Int) (v3:Int) (r0:List Str),run (oU n) [.at [0,0,0,1,1,1,1,1,1,1,1,1,1,1,1],.lp m [0,0,1,1,1,1,1,1,1,1,1,1,1,1],.q9 4,.cut [1,1,1,1,1,1,1,1,1,1,1,1,1],.at [1,1,1,1,1,1,1,1,1,1,1,1,1]] ⟨[.str (sb v0),qA,qA,qA,qA,qA,qA,qA,qA,.acc 0 r0.length,.int .i64 v1,.int .i64 v2,.int .i64 v3,qA,qA,qA,qA,qA,qA,qA,qA,qA,qA,qA,qA,qA,qA,qA,qA,qA,qA,qA,qA,qA,qA,qA,qA,qA,qA,qA,qA,qA,qA,qA,qA,qA,qA,qA,qA,qA,qA,qA,qA,qA,qA,qA,qA,qA,qA,qA,qA,qA,qA,qA,qA,qA,qA,qA,qA,qA,qA,qA,qA,qA,qA,qA,qA,qA,qA,qA,qA,qA,qA,qA,qA,qA,qA,qA,qA,qA,qA,qA,qA,qA,qA,qA,qA,qA,qA,qA,qA,qA,qA,qA,qA,qA],[.acc false 1 (mp pP r0)],0,[]⟩=B X0 v0 v1 v2 v3 r0}:=by
 apply iD
 intro m X0 ih v0 v1 v2 v3 r0
 simp (config:={maxSteps:=100000000}) only[go_sem,ij,iq,hO,hU,ir,iw,iz,iA,iB,ig,iy,iC,Ae,Af,Tryd.f99,ia,mixed,vZ,we,wg,wh,Fz n m X0 ih,ih]
 exact rfl
noncomputable def HL (n:Nat):Nat→Str→Int→Int→Int→(List Str)→Option (List Str)
 |0,_,_,_,_,_=>none
 |m+1,v0,v1,v2,v3,r0=>(HK n).1 (HL n m) v0 v1 v2 v3 r0
theorem zi (n:Nat): ∀ (m:Nat),(∀ (v0:Str) (v1:Int) (v2:Int) (v3:Int) (r0:List Str) (c0:Nat),c0=r0.length→run (oU n) [.lq m [0,0,1,1,1,1,1,1,1,1,1,1,1,1],.q9 4,.cut [1,1,1,1,1,1,1,1,1,1,1,1,1],.at [1,1,1,1,1,1,1,1,1,1,1,1,1]] ⟨[.str (sb v0),qA,qA,qA,qA,qA,qA,qA,qA,.acc 0 c0,.int .i64 v1,.int .i64 v2,.int .i64 v3,qA,qA,qA,qA,qA,qA,qA,qA,qA,qA,qA,qA,qA,qA,qA,qA,qA,qA,qA,qA,qA,qA,qA,qA,qA,qA,qA,qA,qA,qA,qA,qA,qA,qA,qA,qA,qA,qA,qA,qA,qA,qA,qA,qA,qA,qA,qA,qA,qA,qA,qA,qA,qA,qA,qA,qA,qA,qA,qA,qA,qA,qA,qA,qA,qA,qA,qA,qA,qA,qA,qA,qA,qA,qA,qA,qA,qA,qA,qA,qA,qA,qA,qA,qA,qA,qA,qA,qA,qA,qA,qA,qA,qA],[.acc false 1 (mp pP r0)],0,[]⟩=HL n m v0 v1 v2 v3 r0)
 |0=>by intros;exact nK
 |m+1=>by
  have ih:=zi n m
  intro v0 v1 v2 v3 r0 c0 ec0
  subst ec0
  rw[nL]
  exact (HK n).2 m _ ih v0 v1 v2 v3 r0
noncomputable def HM (n:Nat):{B:TA→Str→Int→Int→(List Str)→Option (List Str) // ∀m X0,(∀ (v0:Str) (v1:Int) (v2:Int) (r0:List Str) (c0:Nat),c0=r0.length→run (oU n) [.lq m [0,0,1,1,1,1,1,1,1,1,1,1],.q9 2,.cut [1,1,1,1,1,1,1,1,1,1,1],.at [1,1,1,1,1,1,1,1,1,1,1]] ⟨[.str (sb v0),qA,qA,qA,qA,qA,qA,qA,qA,.acc 0 c0,.int .i64 v1,qA,.int .i64 v2,qA,qA,qA,qA,qA,qA,qA,qA,qA,qA,qA,qA,qA,qA,qA,qA,qA,qA,qA,qA,qA,qA,qA,qA,qA,qA,qA,qA,qA,qA,qA,qA,qA,qA,qA,qA,qA,qA,qA,qA,qA,qA,qA,qA,qA,qA,qA,qA,qA,qA,qA,qA,qA,qA,qA,qA,qA,qA,qA,qA,qA,qA,qA,qA,qA,qA,qA,qA,qA,qA,qA,qA,qA,qA,qA,qA,qA,qA,qA,qA,qA,qA,qA,qA,qA,qA,qA,qA,qA,qA,qA,qA,qA],[.acc false 1 (mp pP r0)],0,[]⟩=X0 v0 v1 v2 r0)→ ∀ (v0:Str) (v1:Int) (v2:Int) (r0:List Str),run (oU n) [.at [0,0,0,1,1,1,1,1,1,1,1,1,1],.lp m [0,0,1,1,1,1,1,1,1,1,1,1],.q9 2,.cut [1,1,1,1,1,1,1,1,1,1,1],.at [1,1,1,1,1,1,1,1,1,1,1]] ⟨[.str (sb v0),qA,qA,qA,qA,qA,qA,qA,qA,.acc 0 r0.length,.int .i64 v1,qA,.int .i64 v2,qA,qA,qA,qA,qA,qA,qA,qA,qA,qA,qA,qA,qA,qA,qA,qA,qA,qA,qA,qA,qA,qA,qA,qA,qA,qA,qA,qA,qA,qA,qA,qA,qA,qA,qA,qA,qA,qA,qA,qA,qA,qA,qA,qA,qA,qA,qA,qA,qA,qA,qA,qA,qA,qA,qA,qA,qA,qA,qA,qA,qA,qA,qA,qA,qA,qA,qA,qA,qA,qA,qA,qA,qA,qA,qA,qA,qA,qA,qA,qA,qA,qA,qA,qA,qA,qA,qA,qA,qA,qA,qA,qA,qA],[.acc false 1 (mp pP r0)],0,[]⟩=B X0 v0 v1 v2 r0}:=by
 apply iD
 intro m X0 ih v0 v1 v2 r0
 simp (config:={maxSteps:=100000000}) only[go_sem,ij,iq,hO,hU,ir,iw,iz,iA,iB,ig,iy,iC,Ae,Af,Tryd.f99,ia,mixed,vZ,we,wg,wh,zi n,ih]
 exact rfl
noncomputable def HN (n:Nat):Nat→Str→Int→Int→(List Str)→Option (List Str)
 |0,_,_,_,_=>none
 |m+1,v0,v1,v2,r0=>(HM n).1 (HN n m) v0 v1 v2 r0
theorem BG (n:Nat): ∀ (m:Nat),(∀ (v0:Str) (v1:Int) (v2:Int) (r0:List Str) (c0:Nat),c0=r0.length→run (oU n) [.lq m [0,0,1,1,1,1,1,1,1,1,1,1],.q9 2,.cut [1,1,1,1,1,1,1,1,1,1,1],.at [1,1,1,1,1,1,1,1,1,1,1]] ⟨[.str (sb v0),qA,qA,qA,qA,qA,qA,qA,qA,.acc 0 c0,.int .i64 v1,qA,.int .i64 v2,qA,qA,qA,qA,qA,qA,qA,qA,qA,qA,qA,qA,qA,qA,qA,qA,qA,qA,qA,qA,qA,qA,qA,qA,qA,qA,qA,qA,qA,qA,qA,qA,qA,qA,qA,qA,qA,qA,qA,qA,qA,qA,qA,qA,qA,qA,qA,qA,qA,qA,qA,qA,qA,qA,qA,qA,qA,qA,qA,qA,qA,qA,qA,qA,qA,qA,qA,qA,qA,qA,qA,qA,qA,qA,qA,qA,qA,qA,qA,qA,qA,qA,qA,qA,qA,qA,qA,qA,qA,qA,qA,qA,qA],[.acc false 1 (mp pP r0)],0,[]⟩=HN n m v0 v1 v2 r0)
 |0=>by intros;exact nK
 |m+1=>by
  have ih:=BG n m
  intro v0 v1 v2 r0 c0 ec0
  subst ec0
  rw[nL]
  exact (HM n).2 m _ ih v0 v1 v2 r0
noncomputable def HO (n:Nat):{B:(Str→Int→Int→Int→Int→Option (List Str))→Str→Int→Int→Int→Int→Option (List Str) // ∀m X0,(∀ (v0:Str) (v1:Int) (v2:Int) (v3:Int) (v4:Int),run (oU n) [.lq m [0,1,0,1,1,1,1],.q9 0,.cut [1,1,1,1,1],.at [1,1,1,1,1]] ⟨[.str (sb v0),qA,qA,.int .i64 v1,.int .i64 v2,.int .u8 v3,.int .i64 v4,qA,qA,qA,qA,qA,qA,qA,qA,qA,qA,qA,qA,qA,qA,qA,qA,qA,qA,qA,qA,qA,qA,qA,qA,qA,qA,qA,qA,qA,qA,qA,qA,qA,qA,qA,qA,qA,qA,qA,qA,qA,qA,qA,qA,qA,qA,qA,qA,qA,qA,qA,qA,qA,qA,qA,qA,qA,qA,qA,qA,qA,qA,qA,qA,qA,qA,qA,qA,qA,qA,qA,qA,qA,qA,qA,qA,qA,qA,qA,qA,qA,qA,qA,qA,qA,qA,qA,qA,qA,qA,qA,qA,qA,qA,qA,qA,qA,qA,qA],[],0,[]⟩=X0 v0 v1 v2 v3 v4)→ ∀ (v0:Str) (v1:Int) (v2:Int) (v3:Int) (v4:Int),run (oU n) [.at [0,0,1,0,1,1,1,1],.lp m [0,1,0,1,1,1,1],.q9 0,.cut [1,1,1,1,1],.at [1,1,1,1,1]] ⟨[.str (sb v0),qA,qA,.int .i64 v1,.int .i64 v2,.int .u8 v3,.int .i64 v4,qA,qA,qA,qA,qA,qA,qA,qA,qA,qA,qA,qA,qA,qA,qA,qA,qA,qA,qA,qA,qA,qA,qA,qA,qA,qA,qA,qA,qA,qA,qA,qA,qA,qA,qA,qA,qA,qA,qA,qA,qA,qA,qA,qA,qA,qA,qA,qA,qA,qA,qA,qA,qA,qA,qA,qA,qA,qA,qA,qA,qA,qA,qA,qA,qA,qA,qA,qA,qA,qA,qA,qA,qA,qA,qA,qA,qA,qA,qA,qA,qA,qA,qA,qA,qA,qA,qA,qA,qA,qA,qA,qA,qA,qA,qA,qA,qA,qA,qA],[],0,[]⟩=B X0 v0 v1 v2 v3 v4}:=by
 apply iD
 intro m X0 ih v0 v1 v2 v3 v4
 simp (config:={maxSteps:=100000000}) only[go_sem,ij,iq,hO,hU,ir,iw,iz,iA,iB,ig,iy,iC,Ae,Af,Tryd.f99,ia,mixed,vZ,we,wg,wh,zi n,BG n,ih]
 exact rfl
noncomputable def HP (n:Nat):Nat→Str→Int→Int→Int→Int→Option (List Str)
 |0,_,_,_,_,_=>none
 |m+1,v0,v1,v2,v3,v4=>(HO n).1 (HP n m) v0 v1 v2 v3 v4
theorem FA (n:Nat): ∀ (m:Nat),(∀ (v0:Str) (v1:Int) (v2:Int) (v3:Int) (v4:Int),run (oU n) [.lq m [0,1,0,1,1,1,1],.q9 0,.cut [1,1,1,1,1],.at [1,1,1,1,1]] ⟨[.str (sb v0),qA,qA,.int .i64 v1,.int .i64 v2,.int .u8 v3,.int .i64 v4,qA,qA,qA,qA,qA,qA,qA,qA,qA,qA,qA,qA,qA,qA,qA,qA,qA,qA,qA,qA,qA,qA,qA,qA,qA,qA,qA,qA,qA,qA,qA,qA,qA,qA,qA,qA,qA,qA,qA,qA,qA,qA,qA,qA,qA,qA,qA,qA,qA,qA,qA,qA,qA,qA,qA,qA,qA,qA,qA,qA,qA,qA,qA,qA,qA,qA,qA,qA,qA,qA,qA,qA,qA,qA,qA,qA,qA,qA,qA,qA,qA,qA,qA,qA,qA,qA,qA,qA,qA,qA,qA,qA,qA,qA,qA,qA,qA,qA,qA],[],0,[]⟩=HP n m v0 v1 v2 v3 v4)
 |0=>by intros;exact nK
 |m+1=>by
  have ih:=FA n m
  intro v0 v1 v2 v3 v4
  rw[nL]
  exact (HO n).2 m _ ih v0 v1 v2 v3 v4
noncomputable def Jg (n:Nat):{B:Str→Option (List Str) // ∀ (a0:Str),run (oU n) [.at []] {slots:=[uI.enc a0]++iE (106-[uI.enc a0].length) qA,heap:=[]}=B a0}:=by
 apply iD
 intro a0
 simp (config:={maxSteps:=100000000}) only[go_sem,ij,iq,hO,hU,ir,iw,iz,iA,iB,ig,iy,iC,Ae,Af,Tryd.f99,ia,mixed,vZ,we,wg,wh,zi n,BG n,FA n]
 exact rfl
noncomputable def GJ:Nat→Str→Option (List Str)
 |0,_=>none
 |n+1,a0=>(Jg n).1 a0
theorem NJ: ∀ (n:Nat) (a0:Str) (r:(List Str)),GJ n a0=some r→xY Tryd.prog 99 [uI.enc a0] (fun v=>v=(tyL sD).enc r)
 |0,_,_,h=>by cases h
 |n+1,a0,r,h=>by
  exact pg (M:=oU n) ⟨m5,m6,nT _,nU _,oS,oQ,pz,oX⟩ Tryd.func99 rfl rfl ⟨uI.nb 0 _,trivial⟩ Tryd.ntmps99 Tryd.results99 (fun σ hs=>oZ (P:=Tryd.prog) (rs:=[.tmp 2]) (t:=(tyL sD)) (σ:=σ) (r:=r) hs) (((Jg n).2 a0).trans h)
noncomputable def sR (n:Nat):Mach Bool where
 body:=(Tryd.f44.body).getD .skip
 P:=Tryd.prog
 cl:=oJ []
 cd:=oN []
 qR:=oO []
 cut:=oP []
 n:=n
 out:=pS Tryd.prog [.tmp 2] oF
 q6:=nJ []
theorem OH (n:Nat):(sR n).P=Tryd.prog∧(sR n).cl=oJ []∧(sR n).cd=oN []∧(sR n).qR=oO []∧(sR n).cut=oP []∧(sR n).n=n∧(sR n).out=pS Tryd.prog [.tmp 2] oF∧(sR n).q6=nJ []:=⟨rfl,rfl,rfl,rfl,rfl,rfl,rfl,rfl⟩
theorem OI (n:Nat):(sR n).body=(Tryd.f44.body).getD .skip:=rfl
noncomputable def EJ (n:Nat):{B:Notation→Option Bool // ∀ (a0:Notation),run (sR n) [.at []] {slots:=[(nG Notation.cel).enc a0]++iE (12-[(nG Notation.cel).enc a0].length) qA,heap:=[]}=B a0}:=by
 apply iD
 intro a0
 simp (config:={maxSteps:=100000000}) only[go_sem,ij,iq,hO,hU,ir,iw,iz,iA,iB,ig,iy,iC,OH,OI,Tryd.f44,ia,mixed]
 exact rfl
noncomputable def sS:Nat→Notation→Option Bool
 |0,_=>none
 |n+1,a0=>(EJ n).1 a0
theorem zj: ∀ (n:Nat) (a0:Notation) (r:Bool),sS n a0=some r→xY Tryd.prog 44 [(nG Notation.cel).enc a0] (fun v=>v=oF.enc r)
 |0,_,_,h=>by cases h
 |n+1,a0,r,h=>by
  exact pg (M:=sR n) ⟨m5,m6,nT _,nU _,oS,oQ,pz,oX⟩ Tryd.func44 rfl rfl ⟨(nG Notation.cel).nb 0 _,trivial⟩ Tryd.ntmps44 Tryd.results44 (fun σ hs=>oZ (P:=Tryd.prog) (rs:=[.tmp 2]) (t:=oF) (σ:=σ) (r:=r) hs) (((EJ n).2 a0).trans h)
noncomputable def vn (n:Nat):Mach Bool where
 body:=(Tryd.f71.body).getD .skip
 P:=Tryd.prog
 cl:=oJ []
 cd:=oN []
 qR:=oO []
 cut:=oP []
 n:=n
 out:=pS Tryd.prog [.tmp 2] oF
 q6:=nJ []
theorem TL (n:Nat):(vn n).P=Tryd.prog∧(vn n).cl=oJ []∧(vn n).cd=oN []∧(vn n).qR=oO []∧(vn n).cut=oP []∧(vn n).n=n∧(vn n).out=pS Tryd.prog [.tmp 2] oF∧(vn n).q6=nJ []:=⟨rfl,rfl,rfl,rfl,rfl,rfl,rfl,rfl⟩
theorem TM (n:Nat):(vn n).body=(Tryd.f71.body).getD .skip:=rfl
noncomputable def It (n:Nat):{B:Int→Option Bool // ∀ (a0:Int),run (vn n) [.at []] {slots:=[(pT .u8).enc a0]++iE (21-[(pT .u8).enc a0].length) qA,heap:=[]}=B a0}:=by
 apply iD
 intro a0
 simp (config:={maxSteps:=100000000}) only[go_sem,ij,iq,hO,hU,ir,iw,iz,iA,iB,ig,iy,iC,TL,TM,Tryd.f71,ia,mixed]
 exact rfl
noncomputable def FB:Nat→Int→Option Bool
 |0,_=>none
 |n+1,a0=>(It n).1 a0
theorem R6: ∀ (n:Nat) (a0:Int) (r:Bool),FB n a0=some r→xY Tryd.prog 71 [(pT .u8).enc a0] (fun v=>v=oF.enc r)
 |0,_,_,h=>by cases h
 |n+1,a0,r,h=>by
  exact pg (M:=vn n) ⟨m5,m6,nT _,nU _,oS,oQ,pz,oX⟩ Tryd.func71 rfl rfl ⟨(pT .u8).nb 0 _,trivial⟩ Tryd.ntmps71 Tryd.results71 (fun σ hs=>oZ (P:=Tryd.prog) (rs:=[.tmp 2]) (t:=oF) (σ:=σ) (r:=r) hs) (((It n).2 a0).trans h)
end Go.Abs
namespace Go.Abs
open Go.Proofs
set_option maxRecDepth 100000
set_option maxHeartbeats 4000000
noncomputable def yc:Nrm:=⟨[],[],[zT (tyL sD),zK,zA,zA,zA,zA,zA,zK,zK,zA,zA,zA,zA,zA,zA,zA,zA,zA,zA],[],none,none⟩
noncomputable def p6 (n:Nat):Mach Int where
 body:=(Tryd.f107.body).getD .skip
 P:=Tryd.prog
 cl:=oJ []
 cd:=oN []
 qR:=oO [([0,1,0,1],yc)]
 cut:=oP []
 n:=n
 out:=pS Tryd.prog [.tmp 4] (pT .i64)
 q6:=nJ []
theorem Em (n:Nat):(p6 n).P=Tryd.prog∧(p6 n).cl=oJ []∧(p6 n).cd=oN []∧(p6 n).qR=oO [([0,1,0,1],yc)]∧(p6 n).cut=oP []∧(p6 n).n=n∧(p6 n).out=pS Tryd.prog [.tmp 4] (pT .i64)∧(p6 n).q6=nJ []:=⟨rfl,rfl,rfl,rfl,rfl,rfl,rfl,rfl⟩
theorem En (n:Nat):(p6 n).body=(Tryd.f107.body).getD .skip:=rfl
noncomputable def yd (n:Nat):{B:((List Str)→Str→Int→Int→Option Int)→(List Str)→Str→Int→Int→Option Int // ∀m X0,(∀ (v0:List Str) (v1:Str) (v2:Int) (v3:Int),run (p6 n) [.lq m [0,1,0,1],.q9 0,.cut [1,1],.at [1,1]] ⟨[.nY false 1 (mp pP v0),.str (sb v1),qA,qA,qA,qA,qA,.int .i64 v2,.int .i64 v3,qA,qA,qA,qA,qA,qA,qA,qA,qA,qA],[],0,[]⟩=X0 v0 v1 v2 v3)→ ∀ (v0:List Str) (v1:Str) (v2:Int) (v3:Int),run (p6 n) [.at [0,0,1,0,1],.lp m [0,1,0,1],.q9 0,.cut [1,1],.at [1,1]] ⟨[.nY false 1 (mp pP v0),.str (sb v1),qA,qA,qA,qA,qA,.int .i64 v2,.int .i64 v3,qA,qA,qA,qA,qA,qA,qA,qA,qA,qA],[],0,[]⟩=B X0 v0 v1 v2 v3}:=by
 apply iD
 intro m X0 ih v0 v1 v2 v3
 simp (config:={maxSteps:=100000000}) only[go_sem,ij,iq,hO,hU,ir,iw,iz,iA,iB,ig,iy,iC,Em,En,Tryd.f107,ia,mixed,yc,ih]
 exact rfl
noncomputable def uV (n:Nat):Nat→(List Str)→Str→Int→Int→Option Int
 |0,_,_,_,_=>none
 |m+1,v0,v1,v2,v3=>(yd n).1 (uV n m) v0 v1 v2 v3
theorem Ch (n:Nat): ∀ (m:Nat),(∀ (v0:List Str) (v1:Str) (v2:Int) (v3:Int),run (p6 n) [.lq m [0,1,0,1],.q9 0,.cut [1,1],.at [1,1]] ⟨[.nY false 1 (mp pP v0),.str (sb v1),qA,qA,qA,qA,qA,.int .i64 v2,.int .i64 v3,qA,qA,qA,qA,qA,qA,qA,qA,qA,qA],[],0,[]⟩=uV n m v0 v1 v2 v3)
 |0=>by intros;exact nK
 |m+1=>by
  have ih:=Ch n m
  intro v0 v1 v2 v3
  rw[nL]
  exact (yd n).2 m _ ih v0 v1 v2 v3
noncomputable def Bh (n:Nat):{B:(List Str)→Str→Option Int // ∀ (a0:(List Str)) (a1:Str),run (p6 n) [.at []] {slots:=[(tyL sD).enc a0,uI.enc a1]++iE (19-[(tyL sD).enc a0,uI.enc a1].length) qA,heap:=[]}=B a0 a1}:=by
 apply iD
 intro a0 a1
 simp (config:={maxSteps:=100000000}) only[go_sem,ij,iq,hO,hU,ir,iw,iz,iA,iB,ig,iy,iC,Em,En,Tryd.f107,ia,mixed,yc,Ch n]
 exact rfl
noncomputable def xX:Nat→(List Str)→Str→Option Int
 |0,_,_=>none
 |n+1,a0,a1=>(Bh n).1 a0 a1
theorem JT: ∀ (n:Nat) (a0:(List Str)) (a1:Str) (r:Int),xX n a0 a1=some r→xY Tryd.prog 107 [(tyL sD).enc a0,uI.enc a1] (fun v=>v=(pT .i64).enc r)
 |0,_,_,_,h=>by cases h
 |n+1,a0,a1,r,h=>by
  exact pg (M:=p6 n) ⟨m5,m6,nT _,nU _,oS,oQ,pz,oX⟩ Tryd.func107 rfl rfl ⟨(tyL sD).nb 0 _,uI.nb 0 _,trivial⟩ Tryd.ntmps107 Tryd.results107 (fun σ hs=>oZ (P:=Tryd.prog) (rs:=[.tmp 4]) (t:=(pT .i64)) (σ:=σ) (r:=r) hs) (((Bh n).2 a0 a1).trans h)
noncomputable def nv:OL T0:=(tA (B4 (uk 1 (qO (tyL Syntax.row) (qO (pT .i64) pV)))) (tA (B4 (xL 2 (xL 3 (xL 4 (qO (pT .i64) pV))))) (tA (wI (nG Notation.cel)) (tA (wI (nG Notation.cel)) (tA Ke yt)))))
noncomputable def n5:OL T0:=(tA (B4 (uk 1 (qO (tyL Syntax.row) (qO (pT .i64) pV)))) (tA (B4 (xL 2 (xL 3 (xL 4 (qO (pT .i64) pV))))) (tA (wI (nG Notation.cel)) (tA (wI (nG Notation.cel)) (tA Ke yt)))))
noncomputable def o9 (n:Nat):Mach Ts where
 body:=(Tryd.f80.body).getD .skip
 P:=Tryd.prog
 cl:=oJ []
 cd:=oN []
 qR:=oO []
 cut:=oP []
 n:=n
 out:=Cy Tryd.prog [.tmp 2,.tmp 3] [] [0,1,2,3,4] 5 n5 (qO uI (qO oF pV))
 q6:=nJ []
 B1:=nJ []
 B0:=nJ []
theorem Iu (n:Nat):(o9 n).P=Tryd.prog∧(o9 n).cl=oJ []∧(o9 n).cd=oN []∧(o9 n).qR=oO []∧(o9 n).cut=oP []∧(o9 n).n=n∧(o9 n).out=Cy Tryd.prog [.tmp 2,.tmp 3] [] [0,1,2,3,4] 5 n5 (qO uI (qO oF pV))∧(o9 n).q6=nJ []∧(o9 n).B1=nJ []∧(o9 n).B0=nJ []:=⟨rfl,rfl,rfl,rfl,rfl,rfl,rfl,rfl,rfl,rfl⟩
theorem Iv (n:Nat):(o9 n).body=(Tryd.f80.body).getD .skip:=rfl
theorem Iw (n:Nat):wH (o9 n) [0,0,1]=true∧wH (o9 n) [0,1,1]=true:=⟨by kernel_rfl,by kernel_rfl⟩
noncomputable def zD (n:Nat):{B:(List Syntax)→Int→Int→T3→T3→T5→Option Ts // ∀ (o0:(List Syntax)) (o1:Int) (o2:Int) (o3:T3) (o4:T3) (o5:T5),run (o9 n) [.at []] {slots:=((uk 0 pV).enc (nv.lens ((o0,o1,()),(o2,()),o3,o4,o5,())) ())++iE (39-((uk 0 pV).enc (nv.lens ((o0,o1,()),(o2,()),o3,o4,o5,())) ()).length) qA,heap:=(nv.enc (nv.lens ((o0,o1,()),(o2,()),o3,o4,o5,())) ((o0,o1,()),(o2,()),o3,o4,o5,())),low:=(nv.enc (nv.lens ((o0,o1,()),(o2,()),o3,o4,o5,())) ((o0,o1,()),(o2,()),o3,o4,o5,())).length}=B o0 o1 o2 o3 o4 o5}:=by
 apply iD
 intro o0 o1 o2 o3 o4 o5
 simp (config:={maxSteps:=100000000}) only[go_sem,ij,iq,hO,hU,ir,iw,iz,iA,iB,ig,iy,iC,Iu,Iv,Tryd.f80,ia,mixed,nv,n5,Iw]
 exact rfl
noncomputable def tJ:Nat→(List Syntax)→Int→Int→T3→T3→T5→Option Ts
 |0,_,_,_,_,_,_=>none
 |n+1,o0,o1,o2,o3,o4,o5=>(zD n).1 o0 o1 o2 o3 o4 o5
theorem Ci: ∀ (n:Nat) (o0:(List Syntax)) (o1:Int) (o2:Int) (o3:T3) (o4:T3) (o5:T5) (r:Ts),tJ n o0 o1 o2 o3 o4 o5=some r→QF Tryd.prog 80 ((uk 0 pV).enc (nv.lens ((o0,o1,()),(o2,()),o3,o4,o5,())) ()) (nv.enc (nv.lens ((o0,o1,()),(o2,()),o3,o4,o5,())) ((o0,o1,()),(o2,()),o3,o4,o5,())) (fun o H'=>o= .ret (vX ((qO uI (qO oF pV)).enc (n5.lens r.1) r.2))∧H'=n5.enc (n5.lens r.1) r.1)
 |0,_,_,_,_,_,_,_,h=>by cases h
 |n+1,o0,o1,o2,o3,o4,o5,r,h=>by
  exact B3 (M:=o9 n) ⟨m5,m6,nT _,nU _,oS,oQ,pz,oX⟩ Tryd.func80 rfl rfl (sP (iF (of_decide_eq_true (by kernel_rfl)) (iG (nv.sz _ _).symm)) _ ((uk 0 pV).nb _ _)) (fun x hx=>uC (iF (of_decide_eq_true (by kernel_rfl)) (iG (nv.sz _ _).symm)) _ (nv.nb _ _ x hx)) Tryd.ntmps80 Tryd.results80 (fun σ hs=>Bo (P:=Tryd.prog) (rs:=[.tmp 2,.tmp 3]) (pos:=[]) (base:=[0,1,2,3,4]) (low:=5) (os:=n5) (s:=(qO uI (qO oF pV))) (σ:=σ) (r:=r) (by rfl) hs) (((zD n).2 o0 o1 o2 o3 o4 o5).trans h)
noncomputable def xd:Nrm:=⟨[],[],[zK,zA,zK,zK,zA,zA,zA,zA,zA,zA,zA,zA,zA,zA,zA,zA,zA,zA,zA,zA,zA,zA,zA,zA,zA,zA,zA,zA],[oA Syntax.row],none,none⟩
noncomputable def nh (n:Nat):Mach (Td×Unit) where
 body:=(Tryd.f103.body).getD .skip
 P:=Tryd.prog
 cl:=oJ []
 cd:=oN []
 qR:=oO [([0,1],xd)]
 cut:=oP []
 n:=n
 out:=outG Tryd.prog [] (RD (P8 false Syntax.row) Ov) rsN 1
 q6:=nJ []
 B1:=nJ []
 B0:=nJ []
theorem Dj (n:Nat):(nh n).P=Tryd.prog∧(nh n).cl=oJ []∧(nh n).cd=oN []∧(nh n).qR=oO [([0,1],xd)]∧(nh n).cut=oP []∧(nh n).n=n∧(nh n).out=outG Tryd.prog [] (RD (P8 false Syntax.row) Ov) rsN 1∧(nh n).q6=nJ []∧(nh n).B1=nJ []∧(nh n).B0=nJ []:=⟨rfl,rfl,rfl,rfl,rfl,rfl,rfl,rfl,rfl,rfl⟩
theorem Dk (n:Nat):(nh n).body=(Tryd.f103.body).getD .skip:=rfl
theorem Dl (n:Nat):wH (nh n) [0,0,1,0,0,1]=true:=by kernel_rfl
theorem Dm (n:Nat):As (nh n) [0,0,1,0,0,1] 6 13=true∧As (nh n) [0,0,1,0,0,1] 7 13=true∧As (nh n) [0,0,1,0,0,1] 10 13=true∧As (nh n) [0,0,1,0,0,1] 11 13=true∧As (nh n) [0,0,1,0,0,1] 12 13=true∧As (nh n) [0,0,1,0,0,1] 13 14=true∧As (nh n) [0,0,1,0,0,1] 6 15=true∧As (nh n) [0,0,1,0,0,1] 7 15=true∧As (nh n) [0,0,1,0,0,1] 10 15=true∧As (nh n) [0,0,1,0,0,1] 11 15=true∧As (nh n) [0,0,1,0,0,1] 12 15=true∧As (nh n) [0,0,1,0,0,1] 13 15=true∧As (nh n) [0,0,1,0,0,1] 14 15=true:=⟨by kernel_rfl,by kernel_rfl,by kernel_rfl,by kernel_rfl,by kernel_rfl,by kernel_rfl,by kernel_rfl,by kernel_rfl,by kernel_rfl,by kernel_rfl,by kernel_rfl,by kernel_rfl,by kernel_rfl⟩
noncomputable def zE (n:Nat):{B:(Int→Int→(List Syntax)→Option (Td×Unit))→Int→Int→(List Syntax)→Option (Td×Unit) // ∀m X0,(∀ (v0:Int) (v1:Int) (r0:List Syntax) (c0:Nat),c0=r0.length→run (nh n) [.lq m [0,1],.q9 0] ⟨[.acc 0 c0,qA,.int .i64 v0,.int .i64 v1,qA,qA,qA,qA,qA,qA,qA,qA,qA,qA,qA,qA,qA,qA,qA,qA,qA,qA,qA,qA,qA,qA,qA,qA],[.acc false 8 (mp Syntax.cells r0)],1,[]⟩=X0 v0 v1 r0)→ ∀ (v0:Int) (v1:Int) (r0:List Syntax),run (nh n) [.at [0,0,1],.lp m [0,1],.q9 0] ⟨[.acc 0 r0.length,qA,.int .i64 v0,.int .i64 v1,qA,qA,qA,qA,qA,qA,qA,qA,qA,qA,qA,qA,qA,qA,qA,qA,qA,qA,qA,qA,qA,qA,qA,qA],[.acc false 8 (mp Syntax.cells r0)],1,[]⟩=B X0 v0 v1 r0}:=by
 apply iD
 intro m X0 ih v0 v1 r0
 simp (config:={maxSteps:=100000000}) only[go_sem,ij,iq,hO,hU,ir,iw,iz,iA,iB,ig,iy,iC,Dj,Dk,Tryd.f103,ia,mixed,Dl,Dm,xd,ih]
 exact rfl
noncomputable def xe (n:Nat):Nat→Int→Int→(List Syntax)→Option (Td×Unit)
 |0,_,_,_=>none
 |m+1,v0,v1,r0=>(zE n).1 (xe n m) v0 v1 r0
theorem Bp (n:Nat): ∀ (m:Nat),(∀ (v0:Int) (v1:Int) (r0:List Syntax) (c0:Nat),c0=r0.length→run (nh n) [.lq m [0,1],.q9 0] ⟨[.acc 0 c0,qA,.int .i64 v0,.int .i64 v1,qA,qA,qA,qA,qA,qA,qA,qA,qA,qA,qA,qA,qA,qA,qA,qA,qA,qA,qA,qA,qA,qA,qA,qA],[.acc false 8 (mp Syntax.cells r0)],1,[]⟩=xe n m v0 v1 r0)
 |0=>by intros;exact nK
 |m+1=>by
  have ih:=Bp n m
  intro v0 v1 r0 c0 ec0
  subst ec0
  rw[nL]
  exact (zE n).2 m _ ih v0 v1 r0
noncomputable def Ag (n:Nat):{B:(List Syntax)→Option (Td×Unit) // ∀ (a0:(List Syntax)),run (nh n) [.at []] {slots:=((asA 0 (fun (b:Td)=>b.1.length) asN).enc (a0,()) ())++iE (28-((asA 0 (fun (b:Td)=>b.1.length) asN).enc (a0,()) ()).length) qA,heap:=((RD (P8 false Syntax.row) Ov).enc (a0,())),low:=((RD (P8 false Syntax.row) Ov).enc (a0,())).length}=B a0}:=by
 apply iD
 intro a0
 simp (config:={maxSteps:=100000000}) only[go_sem,ij,iq,hO,hU,ir,iw,iz,iA,iB,ig,iy,iC,Dj,Dk,Tryd.f103,ia,mixed,Dl,Dm,xd,Bp n]
 exact rfl
noncomputable def wJ:Nat→(List Syntax)→Option (Td×Unit)
 |0,_=>none
 |n+1,a0=>(Ag n).1 a0
theorem Ix: ∀ (n:Nat) (a0:(List Syntax)) (r:(Td×Unit)),wJ n a0=some r→QF Tryd.prog 103 ((asA 0 (fun (b:Td)=>b.1.length) asN).enc (a0,()) ()) ((RD (P8 false Syntax.row) Ov).enc (a0,())) (fun o H'=>o= .ret (vX (rsN.enc r.1 r.2))∧H'=(RD (P8 false Syntax.row) Ov).enc r.1)
 |0,_,_,h=>by cases h
 |n+1,a0,r,h=>by
  exact B3 (M:=nh n) ⟨m5,m6,nT _,nU _,oS,oQ,pz,oX⟩ Tryd.func103 rfl rfl (by simp only[go_sem,ij,iq,hO,hU,ir,iw,iz,iA,iB,ig,iy,iC]) ((RD (P8 false Syntax.row) Ov).nb _ _) Tryd.ntmps103 Tryd.results103 (fun σ hs=>outG_ok hs) (((Ag n).2 a0).trans h)
noncomputable def uN (n:Nat):Mach Bool where
 body:=(Tryd.f100.body).getD .skip
 P:=Tryd.prog
 cl:=oJ []
 cd:=oN []
 qR:=oO []
 cut:=oP []
 n:=n
 out:=pS Tryd.prog [.tmp 2] oF
 q6:=nJ []
theorem R7 (n:Nat):(uN n).P=Tryd.prog∧(uN n).cl=oJ []∧(uN n).cd=oN []∧(uN n).qR=oO []∧(uN n).cut=oP []∧(uN n).n=n∧(uN n).out=pS Tryd.prog [.tmp 2] oF∧(uN n).q6=nJ []:=⟨rfl,rfl,rfl,rfl,rfl,rfl,rfl,rfl⟩
theorem R8 (n:Nat):(uN n).body=(Tryd.f100.body).getD .skip:=rfl
noncomputable def GK (n:Nat):{B:Int→Option Bool // ∀ (a0:Int),run (uN n) [.at []] {slots:=[(pT .u8).enc a0]++iE (17-[(pT .u8).enc a0].length) qA,heap:=[]}=B a0}:=by
 apply iD
 intro a0
 simp (config:={maxSteps:=100000000}) only[go_sem,ij,iq,hO,hU,ir,iw,iz,iA,iB,ig,iy,iC,R7,R8,Tryd.f100,ia,mixed]
 exact rfl
noncomputable def DI:Nat→Int→Option Bool
 |0,_=>none
 |n+1,a0=>(GK n).1 a0
theorem Qo: ∀ (n:Nat) (a0:Int) (r:Bool),DI n a0=some r→xY Tryd.prog 100 [(pT .u8).enc a0] (fun v=>v=oF.enc r)
 |0,_,_,h=>by cases h
 |n+1,a0,r,h=>by
  exact pg (M:=uN n) ⟨m5,m6,nT _,nU _,oS,oQ,pz,oX⟩ Tryd.func100 rfl rfl ⟨(pT .u8).nb 0 _,trivial⟩ Tryd.ntmps100 Tryd.results100 (fun σ hs=>oZ (P:=Tryd.prog) (rs:=[.tmp 2]) (t:=oF) (σ:=σ) (r:=r) hs) (((GK n).2 a0).trans h)
noncomputable def vo (n:Nat):Mach Bool where
 body:=(Tryd.f101.body).getD .skip
 P:=Tryd.prog
 cl:=oJ []
 cd:=oN []
 qR:=oO []
 cut:=oP []
 n:=n
 out:=pS Tryd.prog [.tmp 2] oF
 q6:=nJ []
theorem TN (n:Nat):(vo n).P=Tryd.prog∧(vo n).cl=oJ []∧(vo n).cd=oN []∧(vo n).qR=oO []∧(vo n).cut=oP []∧(vo n).n=n∧(vo n).out=pS Tryd.prog [.tmp 2] oF∧(vo n).q6=nJ []:=⟨rfl,rfl,rfl,rfl,rfl,rfl,rfl,rfl⟩
theorem TO (n:Nat):(vo n).body=(Tryd.f101.body).getD .skip:=rfl
noncomputable def Iy (n:Nat):{B:Int→Option Bool // ∀ (a0:Int),run (vo n) [.at []] {slots:=[(pT .u8).enc a0]++iE (9-[(pT .u8).enc a0].length) qA,heap:=[]}=B a0}:=by
 apply iD
 intro a0
 simp (config:={maxSteps:=100000000}) only[go_sem,ij,iq,hO,hU,ir,iw,iz,iA,iB,ig,iy,iC,TN,TO,Tryd.f101,ia,mixed]
 exact rfl
noncomputable def FC:Nat→Int→Option Bool
 |0,_=>none
 |n+1,a0=>(Iy n).1 a0
theorem R9: ∀ (n:Nat) (a0:Int) (r:Bool),FC n a0=some r→xY Tryd.prog 101 [(pT .u8).enc a0] (fun v=>v=oF.enc r)
 |0,_,_,h=>by cases h
 |n+1,a0,r,h=>by
  exact pg (M:=vo n) ⟨m5,m6,nT _,nU _,oS,oQ,pz,oX⟩ Tryd.func101 rfl rfl ⟨(pT .u8).nb 0 _,trivial⟩ Tryd.ntmps101 Tryd.results101 (fun σ hs=>oZ (P:=Tryd.prog) (rs:=[.tmp 2]) (t:=oF) (σ:=σ) (r:=r) hs) (((Iy n).2 a0).trans h)
noncomputable def B6:Nrm:=⟨[],[],[zK,zA,zA,zT (tyL sD),zK,zA,zA,zA,zA,zA,zA,zA,zA,zA,zA,zA,zA,zA],[],none,none⟩
noncomputable def rR (n:Nat):Mach Bool where
 body:=(Tryd.f74.body).getD .skip
 P:=Tryd.prog
 cl:=oJ []
 cd:=oN []
 qR:=oO [([0,1,0,1,1],B6)]
 cut:=oP []
 n:=n
 out:=pS Tryd.prog [.tmp 2] oF
 q6:=nJ []
theorem Kg (n:Nat):(rR n).P=Tryd.prog∧(rR n).cl=oJ []∧(rR n).cd=oN []∧(rR n).qR=oO [([0,1,0,1,1],B6)]∧(rR n).cut=oP []∧(rR n).n=n∧(rR n).out=pS Tryd.prog [.tmp 2] oF∧(rR n).q6=nJ []:=⟨rfl,rfl,rfl,rfl,rfl,rfl,rfl,rfl⟩
theorem Kh (n:Nat):(rR n).body=(Tryd.f74.body).getD .skip:=rfl
noncomputable def EK (n:Nat):{B:(Str→(List Str)→Int→Option Bool)→Str→(List Str)→Int→Option Bool // ∀m X0,(∀ (v0:Str) (v1:List Str) (v2:Int),run (rR n) [.lq m [0,1,0,1,1],.q9 0,.cut [1,1,1],.at [1,1,1]] ⟨[.str (sb v0),qA,qA,.nY false 1 (mp pP v1),.int .i64 v2,qA,qA,qA,qA,qA,qA,qA,qA,qA,qA,qA,qA,qA],[],0,[]⟩=X0 v0 v1 v2)→ ∀ (v0:Str) (v1:List Str) (v2:Int),run (rR n) [.at [0,0,1,0,1,1],.lp m [0,1,0,1,1],.q9 0,.cut [1,1,1],.at [1,1,1]] ⟨[.str (sb v0),qA,qA,.nY false 1 (mp pP v1),.int .i64 v2,qA,qA,qA,qA,qA,qA,qA,qA,qA,qA,qA,qA,qA],[],0,[]⟩=B X0 v0 v1 v2}:=by
 apply iD
 intro m X0 ih v0 v1 v2
 simp (config:={maxSteps:=100000000}) only[go_sem,ij,iq,hO,hU,ir,iw,iz,iA,iB,ig,iy,iC,Kg,Kh,Tryd.f74,ia,mixed,B6,ih]
 exact rfl
noncomputable def B7 (n:Nat):Nat→Str→(List Str)→Int→Option Bool
 |0,_,_,_=>none
 |m+1,v0,v1,v2=>(EK n).1 (B7 n m) v0 v1 v2
theorem Ge (n:Nat): ∀ (m:Nat),(∀ (v0:Str) (v1:List Str) (v2:Int),run (rR n) [.lq m [0,1,0,1,1],.q9 0,.cut [1,1,1],.at [1,1,1]] ⟨[.str (sb v0),qA,qA,.nY false 1 (mp pP v1),.int .i64 v2,qA,qA,qA,qA,qA,qA,qA,qA,qA,qA,qA,qA,qA],[],0,[]⟩=B7 n m v0 v1 v2)
 |0=>by intros;exact nK
 |m+1=>by
  have ih:=Ge n m
  intro v0 v1 v2
  rw[nL]
  exact (EK n).2 m _ ih v0 v1 v2
noncomputable def F0 (n:Nat):{B:Str→Option Bool // ∀ (a0:Str),run (rR n) [.at []] {slots:=[uI.enc a0]++iE (18-[uI.enc a0].length) qA,heap:=[]}=B a0}:=by
 apply iD
 intro a0
 simp (config:={maxSteps:=100000000}) only[go_sem,ij,iq,hO,hU,ir,iw,iz,iA,iB,ig,iy,iC,Kg,Kh,Tryd.f74,ia,mixed,B6,Ge n]
 exact rfl
noncomputable def Cz:Nat→Str→Option Bool
 |0,_=>none
 |n+1,a0=>(F0 n).1 a0
theorem OJ: ∀ (n:Nat) (a0:Str) (r:Bool),Cz n a0=some r→xY Tryd.prog 74 [uI.enc a0] (fun v=>v=oF.enc r)
 |0,_,_,h=>by cases h
 |n+1,a0,r,h=>by
  exact pg (M:=rR n) ⟨m5,m6,nT _,nU _,oS,oQ,pz,oX⟩ Tryd.func74 rfl rfl ⟨uI.nb 0 _,trivial⟩ Tryd.ntmps74 Tryd.results74 (fun σ hs=>oZ (P:=Tryd.prog) (rs:=[.tmp 2]) (t:=oF) (σ:=σ) (r:=r) hs) (((F0 n).2 a0).trans h)
end Go.Abs
namespace Go.Abs
open Go.Proofs
set_option maxRecDepth 100000
set_option maxHeartbeats 4000000
noncomputable def E7:Nrm:=⟨[],[],[zK,zA,zA,zK,zK,zA,zA,zA,zA,zA,zA,zA,zA,zA,zA,zA],[],none,none⟩
noncomputable def ur (n:Nat):Mach Bool where
 body:=(Tryd.f75.body).getD .skip
 P:=Tryd.prog
 cl:=oJ []
 cd:=oN []
 qR:=oO [([0,1,0,1,1],E7)]
 cut:=oP []
 n:=n
 out:=pS Tryd.prog [.tmp 2] oF
 q6:=nJ []
theorem NK (n:Nat):(ur n).P=Tryd.prog∧(ur n).cl=oJ []∧(ur n).cd=oN []∧(ur n).qR=oO [([0,1,0,1,1],E7)]∧(ur n).cut=oP []∧(ur n).n=n∧(ur n).out=pS Tryd.prog [.tmp 2] oF∧(ur n).q6=nJ []:=⟨rfl,rfl,rfl,rfl,rfl,rfl,rfl,rfl⟩
theorem NL (n:Nat):(ur n).body=(Tryd.f75.body).getD .skip:=rfl
noncomputable def Md (n:Nat):{B:(Int→Str→Int→Option Bool)→Int→Str→Int→Option Bool // ∀m X0,(∀ (v0:Int) (v1:Str) (v2:Int),run (ur n) [.lq m [0,1,0,1,1],.q9 0,.cut [1,1,1],.at [1,1,1]] ⟨[.int .u8 v0,qA,qA,.str (sb v1),.int .i64 v2,qA,qA,qA,qA,qA,qA,qA,qA,qA,qA,qA],[],0,[]⟩=X0 v0 v1 v2)→ ∀ (v0:Int) (v1:Str) (v2:Int),run (ur n) [.at [0,0,1,0,1,1],.lp m [0,1,0,1,1],.q9 0,.cut [1,1,1],.at [1,1,1]] ⟨[.int .u8 v0,qA,qA,.str (sb v1),.int .i64 v2,qA,qA,qA,qA,qA,qA,qA,qA,qA,qA,qA],[],0,[]⟩=B X0 v0 v1 v2}:=by
 apply iD
 intro m X0 ih v0 v1 v2
 simp (config:={maxSteps:=100000000}) only[go_sem,ij,iq,hO,hU,ir,iw,iz,iA,iB,ig,iy,iC,NK,NL,Tryd.f75,ia,mixed,E7,ih]
 exact rfl
noncomputable def Me (n:Nat):Nat→Int→Str→Int→Option Bool
 |0,_,_,_=>none
 |m+1,v0,v1,v2=>(Md n).1 (Me n m) v0 v1 v2
theorem Jh (n:Nat): ∀ (m:Nat),(∀ (v0:Int) (v1:Str) (v2:Int),run (ur n) [.lq m [0,1,0,1,1],.q9 0,.cut [1,1,1],.at [1,1,1]] ⟨[.int .u8 v0,qA,qA,.str (sb v1),.int .i64 v2,qA,qA,qA,qA,qA,qA,qA,qA,qA,qA,qA],[],0,[]⟩=Me n m v0 v1 v2)
 |0=>by intros;exact nK
 |m+1=>by
  have ih:=Jh n m
  intro v0 v1 v2
  rw[nL]
  exact (Md n).2 m _ ih v0 v1 v2
noncomputable def NM (n:Nat):{B:Int→Option Bool // ∀ (a0:Int),run (ur n) [.at []] {slots:=[(pT .u8).enc a0]++iE (16-[(pT .u8).enc a0].length) qA,heap:=[]}=B a0}:=by
 apply iD
 intro a0
 simp (config:={maxSteps:=100000000}) only[go_sem,ij,iq,hO,hU,ir,iw,iz,iA,iB,ig,iy,iC,NK,NL,Tryd.f75,ia,mixed,E7,Jh n]
 exact rfl
noncomputable def GL:Nat→Int→Option Bool
 |0,_=>none
 |n+1,a0=>(NM n).1 a0
theorem TP: ∀ (n:Nat) (a0:Int) (r:Bool),GL n a0=some r→xY Tryd.prog 75 [(pT .u8).enc a0] (fun v=>v=oF.enc r)
 |0,_,_,h=>by cases h
 |n+1,a0,r,h=>by
  exact pg (M:=ur n) ⟨m5,m6,nT _,nU _,oS,oQ,pz,oX⟩ Tryd.func75 rfl rfl ⟨(pT .u8).nb 0 _,trivial⟩ Tryd.ntmps75 Tryd.results75 (fun σ hs=>oZ (P:=Tryd.prog) (rs:=[.tmp 2]) (t:=oF) (σ:=σ) (r:=r) hs) (((NM n).2 a0).trans h)
noncomputable def vp (n:Nat):Mach (List Str) where
 body:=(Tryd.f76.body).getD .skip
 P:=Tryd.prog
 cl:=oJ []
 cd:=oN []
 qR:=oO []
 cut:=oP []
 n:=n
 out:=pS Tryd.prog [.tmp 0] (VZ sD)
 q6:=nJ []
theorem TQ (n:Nat):(vp n).P=Tryd.prog∧(vp n).cl=oJ []∧(vp n).cd=oN []∧(vp n).qR=oO []∧(vp n).cut=oP []∧(vp n).n=n∧(vp n).out=pS Tryd.prog [.tmp 0] (VZ sD)∧(vp n).q6=nJ []:=⟨rfl,rfl,rfl,rfl,rfl,rfl,rfl,rfl⟩
theorem TR (n:Nat):(vp n).body=(Tryd.f76.body).getD .skip:=rfl
noncomputable def Iz (n:Nat):{B:Option (List Str) // run (vp n) [.at []] {slots:=([]:List AV)++iE (2-([]:List AV).length) qA,heap:=[]}=B}:=by
 apply iD
 simp (config:={maxSteps:=100000000}) only[go_sem,ij,iq,hO,hU,ir,iw,iz,iA,iB,ig,iy,iC,TQ,TR,Tryd.f76,ia,mixed]
 exact rfl
noncomputable def FD:Nat→Option (List Str)
 |0=>none
 |n+1=>(Iz n).1
theorem Sa: ∀ (n:Nat) (r:(List Str)),FD n=some r→xY Tryd.prog 76 [] (fun v=>v=(VZ sD).enc r)
 |0,_,h=>by cases h
 |n+1,r,h=>by
  exact pg (M:=vp n) ⟨m5,m6,nT _,nU _,oS,oQ,pz,oX⟩ Tryd.func76 rfl rfl trivial Tryd.ntmps76 Tryd.results76 (fun σ hs=>oZ (P:=Tryd.prog) (rs:=[.tmp 0]) (t:=(VZ sD)) (σ:=σ) (r:=r) hs) (((Iz n).2).trans h)
noncomputable def wj (n:Nat):Mach Bool where
 body:=(Tryd.f47.body).getD .skip
 P:=Tryd.prog
 cl:=oJ []
 cd:=oN []
 qR:=oO []
 cut:=oP []
 n:=n
 out:=pS Tryd.prog [.tmp 2] oF
 q6:=nJ []
theorem Wc (n:Nat):(wj n).P=Tryd.prog∧(wj n).cl=oJ []∧(wj n).cd=oN []∧(wj n).qR=oO []∧(wj n).cut=oP []∧(wj n).n=n∧(wj n).out=pS Tryd.prog [.tmp 2] oF∧(wj n).q6=nJ []:=⟨rfl,rfl,rfl,rfl,rfl,rfl,rfl,rfl⟩
theorem Wd (n:Nat):(wj n).body=(Tryd.f47.body).getD .skip:=rfl
noncomputable def JU (n:Nat):{B:Notation→Option Bool // ∀ (a0:Notation),run (wj n) [.at []] {slots:=[(nG Notation.cel).enc a0]++iE (8-[(nG Notation.cel).enc a0].length) qA,heap:=[]}=B a0}:=by
 apply iD
 intro a0
 simp (config:={maxSteps:=100000000}) only[go_sem,ij,iq,hO,hU,ir,iw,iz,iA,iB,ig,iy,iC,Wc,Wd,Tryd.f47,ia,mixed]
 exact rfl
noncomputable def ug:Nat→Notation→Option Bool
 |0,_=>none
 |n+1,a0=>(JU n).1 a0
theorem zF: ∀ (n:Nat) (a0:Notation) (r:Bool),ug n a0=some r→xY Tryd.prog 47 [(nG Notation.cel).enc a0] (fun v=>v=oF.enc r)
 |0,_,_,h=>by cases h
 |n+1,a0,r,h=>by
  exact pg (M:=wj n) ⟨m5,m6,nT _,nU _,oS,oQ,pz,oX⟩ Tryd.func47 rfl rfl ⟨(nG Notation.cel).nb 0 _,trivial⟩ Tryd.ntmps47 Tryd.results47 (fun σ hs=>oZ (P:=Tryd.prog) (rs:=[.tmp 2]) (t:=oF) (σ:=σ) (r:=r) hs) (((JU n).2 a0).trans h)
noncomputable def vq (n:Nat):Mach Bool where
 body:=(Tryd.f48.body).getD .skip
 P:=Tryd.prog
 cl:=oJ []
 cd:=oN []
 qR:=oO []
 cut:=oP []
 n:=n
 out:=pS Tryd.prog [.tmp 2] oF
 q6:=nJ []
theorem TS (n:Nat):(vq n).P=Tryd.prog∧(vq n).cl=oJ []∧(vq n).cd=oN []∧(vq n).qR=oO []∧(vq n).cut=oP []∧(vq n).n=n∧(vq n).out=pS Tryd.prog [.tmp 2] oF∧(vq n).q6=nJ []:=⟨rfl,rfl,rfl,rfl,rfl,rfl,rfl,rfl⟩
theorem TT (n:Nat):(vq n).body=(Tryd.f48.body).getD .skip:=rfl
noncomputable def IA (n:Nat):{B:Notation→Option Bool // ∀ (a0:Notation),run (vq n) [.at []] {slots:=[(nG Notation.cel).enc a0]++iE (12-[(nG Notation.cel).enc a0].length) qA,heap:=[]}=B a0}:=by
 apply iD
 intro a0
 simp (config:={maxSteps:=100000000}) only[go_sem,ij,iq,hO,hU,ir,iw,iz,iA,iB,ig,iy,iC,TS,TT,Tryd.f48,ia,mixed]
 exact rfl
noncomputable def xp:Nat→Notation→Option Bool
 |0,_=>none
 |n+1,a0=>(IA n).1 a0
theorem DJ: ∀ (n:Nat) (a0:Notation) (r:Bool),xp n a0=some r→xY Tryd.prog 48 [(nG Notation.cel).enc a0] (fun v=>v=oF.enc r)
 |0,_,_,h=>by cases h
 |n+1,a0,r,h=>by
  exact pg (M:=vq n) ⟨m5,m6,nT _,nU _,oS,oQ,pz,oX⟩ Tryd.func48 rfl rfl ⟨(nG Notation.cel).nb 0 _,trivial⟩ Tryd.ntmps48 Tryd.results48 (fun σ hs=>oZ (P:=Tryd.prog) (rs:=[.tmp 2]) (t:=oF) (σ:=σ) (r:=r) hs) (((IA n).2 a0).trans h)
noncomputable def uO (n:Nat):Mach Bool where
 body:=(Tryd.f77.body).getD .skip
 P:=Tryd.prog
 cl:=oJ []
 cd:=oN []
 qR:=oO []
 cut:=oP []
 n:=n
 out:=pS Tryd.prog [.tmp 2] oF
 q6:=nJ []
theorem Sb (n:Nat):(uO n).P=Tryd.prog∧(uO n).cl=oJ []∧(uO n).cd=oN []∧(uO n).qR=oO []∧(uO n).cut=oP []∧(uO n).n=n∧(uO n).out=pS Tryd.prog [.tmp 2] oF∧(uO n).q6=nJ []:=⟨rfl,rfl,rfl,rfl,rfl,rfl,rfl,rfl⟩
theorem Sc (n:Nat):(uO n).body=(Tryd.f77.body).getD .skip:=rfl
noncomputable def GM (n:Nat):{B:Int→Option Bool // ∀ (a0:Int),run (uO n) [.at []] {slots:=[(pT .u8).enc a0]++iE (21-[(pT .u8).enc a0].length) qA,heap:=[]}=B a0}:=by
 apply iD
 intro a0
 simp (config:={maxSteps:=100000000}) only[go_sem,ij,iq,hO,hU,ir,iw,iz,iA,iB,ig,iy,iC,Sb,Sc,Tryd.f77,ia,mixed]
 exact rfl
noncomputable def DK:Nat→Int→Option Bool
 |0,_=>none
 |n+1,a0=>(GM n).1 a0
theorem Qp: ∀ (n:Nat) (a0:Int) (r:Bool),DK n a0=some r→xY Tryd.prog 77 [(pT .u8).enc a0] (fun v=>v=oF.enc r)
 |0,_,_,h=>by cases h
 |n+1,a0,r,h=>by
  exact pg (M:=uO n) ⟨m5,m6,nT _,nU _,oS,oQ,pz,oX⟩ Tryd.func77 rfl rfl ⟨(pT .u8).nb 0 _,trivial⟩ Tryd.ntmps77 Tryd.results77 (fun σ hs=>oZ (P:=Tryd.prog) (rs:=[.tmp 2]) (t:=oF) (σ:=σ) (r:=r) hs) (((GM n).2 a0).trans h)
noncomputable def yx:Nrm:=⟨[],[],[zT (tyL Notation.row),zA,zA,zA,zK,zA,zA,zT (tyL Syntax.row),zK,zK,zK,zA,zA,zA,zA,zA,zA,zA,zA,zA,zA,zA,zA,zA,zA,zA,zA,zA,zA,zA,zA,zA,zA,zA,zA,zA,zA,zA,zA,zA,zA,zA,zA,zA,zA,zA,zA,zA,zA,zA,zA,zA,zA,zA,zA,zA,zA,zA,zA,zA,zA,zA,zA,zA,zA,zA,zA,zA,zA,zA,zA,zA,zA,zA,zA,zA,zA,zA,zA,zA,zA,zA,zA,zA,zA,zA,zA,zA,zA,zA,zA],[oD,oK],none,none⟩
noncomputable def yy:Nrm:=⟨[],[],[zT (tyL Notation.row),zA,zA,zK,zK,zA,zA,zT (tyL Syntax.row),zK,zA,zA,zA,zA,zA,zA,zA,zA,zA,zA,zA,zA,zA,zA,zA,zA,zA,zA,zA,zA,zA,zA,zA,zA,zA,zA,zA,zA,zA,zA,zA,zA,zA,zA,zA,zA,zA,zA,zA,zA,zA,zA,zA,zA,zA,zA,zA,zA,zA,zA,zA,zA,zA,zA,zA,zA,zA,zA,zA,zA,zA,zA,zA,zA,zA,zA,zA,zA,zA,zA,zA,zA,zA,zA,zA,zA,zA,zA,zA,zA,zA,zA],[oT Syntax.cel,oK],none,none⟩
noncomputable def yz:Nrm:=⟨[],[],[zT (tyL Notation.row),zA,zA,zK,zK,zA,zA,zT (tyL Syntax.row),zA,zA,zA,zA,zA,zA,zA,zA,zA,zA,zA,zA,zA,zA,zA,zA,zA,zA,zA,zA,zA,zA,zA,zA,zA,zA,zA,zA,zA,zA,zA,zA,zA,zA,zA,zA,zA,zA,zA,zA,zA,zA,zA,zA,zA,zA,zA,zA,zA,zA,zA,zA,zA,zA,zA,zA,zA,zA,zA,zA,zA,zA,zA,zA,zA,zA,zA,zA,zA,zA,zA,zA,zA,zA,zA,zA,zA,zA,zA,zA,zA,zA,zA],[oT Syntax.cel,oK],none,none⟩
noncomputable def pG (n:Nat):Mach Tb where
 body:=(Tryd.f91.body).getD .skip
 P:=Tryd.prog
 cl:=oJ []
 cd:=oN []
 qR:=oO [([0,1,0,1,1,0,0,1,0,0,1,0,1,1,1,1],yx),([0,1,0,1,1,1,1],yy),([0,0,1,1],yz)]
 cut:=oP []
 n:=n
 out:=pS Tryd.prog [.cell 4 24,.tmp 5,.tmp 6] (Py (nG Notation.cel) (tyL Syntax.row) oF)
 q6:=nJ []
 B1:=nJ []
 B0:=nJ []
theorem CN (n:Nat):(pG n).P=Tryd.prog∧(pG n).cl=oJ []∧(pG n).cd=oN []∧(pG n).qR=oO [([0,1,0,1,1,0,0,1,0,0,1,0,1,1,1,1],yx),([0,1,0,1,1,1,1],yy),([0,0,1,1],yz)]∧(pG n).cut=oP []∧(pG n).n=n∧(pG n).out=pS Tryd.prog [.cell 4 24,.tmp 5,.tmp 6] (Py (nG Notation.cel) (tyL Syntax.row) oF)∧(pG n).q6=nJ []∧(pG n).B1=nJ []∧(pG n).B0=nJ []:=⟨rfl,rfl,rfl,rfl,rfl,rfl,rfl,rfl,rfl,rfl⟩
theorem CP (n:Nat):(pG n).body=(Tryd.f91.body).getD .skip:=rfl
theorem CQ (n:Nat):wH (pG n) [0,0,0,0,1,0,0,1,0,1,1,1,1]=true:=by kernel_rfl
noncomputable def B8 (n:Nat):{B:Tu→((List Notation)→(List Syntax)→Int→Int→Int→Option Tb)→(List Notation)→(List Syntax)→Int→Int→Int→Option Tb // ∀m2 X2 m X0,(∀ (v0:List Notation) (v1:List Syntax) (v2:Int) (o0:Syntax),run (pG n) [.lq m2 [0,1,0,1,1,1,1],.q9 2,.cut [1,1,1,1,1],.at [1,1,1,1,1]] ⟨[.nY false 4 (mp Notation.cells v0),qA,qA,.ptr 0 0,.ptr 1 0,qA,qA,.nY false 8 (mp Syntax.cells v1),.int .i64 v2,qA,qA,qA,qA,qA,qA,qA,qA,qA,qA,qA,qA,qA,qA,qA,qA,qA,qA,qA,qA,qA,qA,qA,qA,qA,qA,qA,qA,qA,qA,qA,qA,qA,qA,qA,qA,qA,qA,qA,qA,qA,qA,qA,qA,qA,qA,qA,qA,qA,qA,qA,qA,qA,qA,qA,qA,qA,qA,qA,qA,qA,qA,qA,qA,qA,qA,qA,qA,qA,qA,qA,qA,qA,qA,qA,qA,qA,qA,qA,qA,qA,qA],[.cells (Syntax.cells o0),.cells [.nY true 0 [],.int .i64 0,.int .i64 0,.str (sb [])]],0,[]⟩=X2 v0 v1 v2 o0)→(∀ (v0:List Notation) (v1:List Syntax) (v2:Int) (v3:Int) (v4:Int),run (pG n) [.lq m [0,1,0,1,1,0,0,1,0,0,1,0,1,1,1,1],.q9 4,.cut [1,1,1,0,0,1,0,0,1,0,1,1,1,1],.at [1,1,1,0,0,1,0,0,1,0,1,1,1,1],.q9 3,.cut [1,1,0,0,1,0,1,1,1,1],.at [1,1,0,0,1,0,1,1,1,1],.lp m2 [0,1,0,1,1,1,1],.q9 2,.cut [1,1,1,1,1],.at [1,1,1,1,1]] ⟨[.nY false 4 (mp Notation.cells v0),qA,qA,qA,.ptr 1 0,qA,qA,.nY false 8 (mp Syntax.cells v1),.int .i64 v2,.int .i64 v3,.int .i64 v4,qA,qA,qA,qA,qA,qA,qA,qA,qA,qA,qA,qA,qA,qA,qA,qA,qA,qA,qA,qA,qA,qA,qA,qA,qA,qA,qA,qA,qA,qA,qA,qA,qA,qA,qA,qA,qA,qA,qA,qA,qA,qA,qA,qA,qA,qA,qA,qA,qA,qA,qA,qA,qA,qA,qA,qA,qA,qA,qA,qA,qA,qA,qA,qA,qA,qA,qA,qA,qA,qA,qA,qA,qA,qA,qA,qA,qA,qA,qA,qA],[.dead,.cells [.nY true 0 [],.int .i64 0,.int .i64 0,.str (sb [])]],0,[]⟩=X0 v0 v1 v2 v3 v4)→ ∀ (v0:List Notation) (v1:List Syntax) (v2:Int) (v3:Int) (v4:Int),run (pG n) [.at [0,0,1,0,1,1,0,0,1,0,0,1,0,1,1,1,1],.lp m [0,1,0,1,1,0,0,1,0,0,1,0,1,1,1,1],.q9 4,.cut [1,1,1,0,0,1,0,0,1,0,1,1,1,1],.at [1,1,1,0,0,1,0,0,1,0,1,1,1,1],.q9 3,.cut [1,1,0,0,1,0,1,1,1,1],.at [1,1,0,0,1,0,1,1,1,1],.lp m2 [0,1,0,1,1,1,1],.q9 2,.cut [1,1,1,1,1],.at [1,1,1,1,1]] ⟨[.nY false 4 (mp Notation.cells v0),qA,qA,qA,.ptr 1 0,qA,qA,.nY false 8 (mp Syntax.cells v1),.int .i64 v2,.int .i64 v3,.int .i64 v4,qA,qA,qA,qA,qA,qA,qA,qA,qA,qA,qA,qA,qA,qA,qA,qA,qA,qA,qA,qA,qA,qA,qA,qA,qA,qA,qA,qA,qA,qA,qA,qA,qA,qA,qA,qA,qA,qA,qA,qA,qA,qA,qA,qA,qA,qA,qA,qA,qA,qA,qA,qA,qA,qA,qA,qA,qA,qA,qA,qA,qA,qA,qA,qA,qA,qA,qA,qA,qA,qA,qA,qA,qA,qA,qA,qA,qA,qA,qA,qA],[.dead,.cells [.nY true 0 [],.int .i64 0,.int .i64 0,.str (sb [])]],0,[]⟩=B X2 X0 v0 v1 v2 v3 v4}:=by
 apply iD
 intro m2 X2 m X0 h2 ih v0 v1 v2 v3 v4
 simp (config:={maxSteps:=100000000}) only[go_sem,ij,iq,hO,hU,ir,iw,iz,iA,iB,ig,iy,iC,CN,CP,Tryd.f91,ia,mixed,CQ,yx,yy,yz,h2,ih]
 exact rfl
noncomputable def Ah (n:Nat) (X2:(List Notation)→(List Syntax)→Int→Syntax→Option Tb):Nat→(List Notation)→(List Syntax)→Int→Int→Int→Option Tb
 |0,_,_,_,_,_=>none
 |m+1,v0,v1,v2,v3,v4=>(B8 n).1 X2 (Ah n X2 m) v0 v1 v2 v3 v4
theorem Gf (n:Nat) (m2:Nat) (X2:(List Notation)→(List Syntax)→Int→Syntax→Option Tb) (h2:(∀ (v0:List Notation) (v1:List Syntax) (v2:Int) (o0:Syntax),run (pG n) [.lq m2 [0,1,0,1,1,1,1],.q9 2,.cut [1,1,1,1,1],.at [1,1,1,1,1]] ⟨[.nY false 4 (mp Notation.cells v0),qA,qA,.ptr 0 0,.ptr 1 0,qA,qA,.nY false 8 (mp Syntax.cells v1),.int .i64 v2,qA,qA,qA,qA,qA,qA,qA,qA,qA,qA,qA,qA,qA,qA,qA,qA,qA,qA,qA,qA,qA,qA,qA,qA,qA,qA,qA,qA,qA,qA,qA,qA,qA,qA,qA,qA,qA,qA,qA,qA,qA,qA,qA,qA,qA,qA,qA,qA,qA,qA,qA,qA,qA,qA,qA,qA,qA,qA,qA,qA,qA,qA,qA,qA,qA,qA,qA,qA,qA,qA,qA,qA,qA,qA,qA,qA,qA,qA,qA,qA,qA,qA],[.cells (Syntax.cells o0),.cells [.nY true 0 [],.int .i64 0,.int .i64 0,.str (sb [])]],0,[]⟩=X2 v0 v1 v2 o0)): ∀ (m:Nat),(∀ (v0:List Notation) (v1:List Syntax) (v2:Int) (v3:Int) (v4:Int),run (pG n) [.lq m [0,1,0,1,1,0,0,1,0,0,1,0,1,1,1,1],.q9 4,.cut [1,1,1,0,0,1,0,0,1,0,1,1,1,1],.at [1,1,1,0,0,1,0,0,1,0,1,1,1,1],.q9 3,.cut [1,1,0,0,1,0,1,1,1,1],.at [1,1,0,0,1,0,1,1,1,1],.lp m2 [0,1,0,1,1,1,1],.q9 2,.cut [1,1,1,1,1],.at [1,1,1,1,1]] ⟨[.nY false 4 (mp Notation.cells v0),qA,qA,qA,.ptr 1 0,qA,qA,.nY false 8 (mp Syntax.cells v1),.int .i64 v2,.int .i64 v3,.int .i64 v4,qA,qA,qA,qA,qA,qA,qA,qA,qA,qA,qA,qA,qA,qA,qA,qA,qA,qA,qA,qA,qA,qA,qA,qA,qA,qA,qA,qA,qA,qA,qA,qA,qA,qA,qA,qA,qA,qA,qA,qA,qA,qA,qA,qA,qA,qA,qA,qA,qA,qA,qA,qA,qA,qA,qA,qA,qA,qA,qA,qA,qA,qA,qA,qA,qA,qA,qA,qA,qA,qA,qA,qA,qA,qA,qA,qA,qA,qA,qA,qA],[.dead,.cells [.nY true 0 [],.int .i64 0,.int .i64 0,.str (sb [])]],0,[]⟩=Ah n X2 m v0 v1 v2 v3 v4)
 |0=>by intros;exact nK
 |m+1=>by
  have ih:=Gf n m2 X2 h2 m
  intro v0 v1 v2 v3 v4
  rw[nL]
  exact (B8 n).2 m2 X2 m _ h2 ih v0 v1 v2 v3 v4
noncomputable def B9 (n:Nat):{B:Tu→(List Notation)→(List Syntax)→Int→Syntax→Option Tb // ∀m X0,(∀ (v0:List Notation) (v1:List Syntax) (v2:Int) (o0:Syntax),run (pG n) [.lq m [0,1,0,1,1,1,1],.q9 2,.cut [1,1,1,1,1],.at [1,1,1,1,1]] ⟨[.nY false 4 (mp Notation.cells v0),qA,qA,.ptr 0 0,.ptr 1 0,qA,qA,.nY false 8 (mp Syntax.cells v1),.int .i64 v2,qA,qA,qA,qA,qA,qA,qA,qA,qA,qA,qA,qA,qA,qA,qA,qA,qA,qA,qA,qA,qA,qA,qA,qA,qA,qA,qA,qA,qA,qA,qA,qA,qA,qA,qA,qA,qA,qA,qA,qA,qA,qA,qA,qA,qA,qA,qA,qA,qA,qA,qA,qA,qA,qA,qA,qA,qA,qA,qA,qA,qA,qA,qA,qA,qA,qA,qA,qA,qA,qA,qA,qA,qA,qA,qA,qA,qA,qA,qA,qA,qA,qA],[.cells (Syntax.cells o0),.cells [.nY true 0 [],.int .i64 0,.int .i64 0,.str (sb [])]],0,[]⟩=X0 v0 v1 v2 o0)→ ∀ (v0:List Notation) (v1:List Syntax) (v2:Int) (o0:Syntax),run (pG n) [.at [0,0,1,0,1,1,1,1],.lp m [0,1,0,1,1,1,1],.q9 2,.cut [1,1,1,1,1],.at [1,1,1,1,1]] ⟨[.nY false 4 (mp Notation.cells v0),qA,qA,.ptr 0 0,.ptr 1 0,qA,qA,.nY false 8 (mp Syntax.cells v1),.int .i64 v2,qA,qA,qA,qA,qA,qA,qA,qA,qA,qA,qA,qA,qA,qA,qA,qA,qA,qA,qA,qA,qA,qA,qA,qA,qA,qA,qA,qA,qA,qA,qA,qA,qA,qA,qA,qA,qA,qA,qA,qA,qA,qA,qA,qA,qA,qA,qA,qA,qA,qA,qA,qA,qA,qA,qA,qA,qA,qA,qA,qA,qA,qA,qA,qA,qA,qA,qA,qA,qA,qA,qA,qA,qA,qA,qA,qA,qA,qA,qA,qA,qA,qA],[.cells (Syntax.cells o0),.cells [.nY true 0 [],.int .i64 0,.int .i64 0,.str (sb [])]],0,[]⟩=B X0 v0 v1 v2 o0}:=by
 apply iD
 intro m X0 ih v0 v1 v2 o0
 simp (config:={maxSteps:=100000000}) only[go_sem,ij,iq,hO,hU,ir,iw,iz,iA,iB,ig,iy,iC,CN,CP,Tryd.f91,ia,mixed,CQ,yx,yy,yz,Gf n m X0 ih,ih]
 exact rfl
noncomputable def wP (n:Nat):Nat→(List Notation)→(List Syntax)→Int→Syntax→Option Tb
 |0,_,_,_,_=>none
 |m+1,v0,v1,v2,o0=>(B9 n).1 (wP n m) v0 v1 v2 o0
theorem Cp (n:Nat): ∀ (m:Nat),(∀ (v0:List Notation) (v1:List Syntax) (v2:Int) (o0:Syntax),run (pG n) [.lq m [0,1,0,1,1,1,1],.q9 2,.cut [1,1,1,1,1],.at [1,1,1,1,1]] ⟨[.nY false 4 (mp Notation.cells v0),qA,qA,.ptr 0 0,.ptr 1 0,qA,qA,.nY false 8 (mp Syntax.cells v1),.int .i64 v2,qA,qA,qA,qA,qA,qA,qA,qA,qA,qA,qA,qA,qA,qA,qA,qA,qA,qA,qA,qA,qA,qA,qA,qA,qA,qA,qA,qA,qA,qA,qA,qA,qA,qA,qA,qA,qA,qA,qA,qA,qA,qA,qA,qA,qA,qA,qA,qA,qA,qA,qA,qA,qA,qA,qA,qA,qA,qA,qA,qA,qA,qA,qA,qA,qA,qA,qA,qA,qA,qA,qA,qA,qA,qA,qA,qA,qA,qA,qA,qA,qA,qA],[.cells (Syntax.cells o0),.cells [.nY true 0 [],.int .i64 0,.int .i64 0,.str (sb [])]],0,[]⟩=wP n m v0 v1 v2 o0)
 |0=>by intros;exact nK
 |m+1=>by
  have ih:=Cp n m
  intro v0 v1 v2 o0
  rw[nL]
  exact (B9 n).2 m _ ih v0 v1 v2 o0
noncomputable def EL (n:Nat):{B:((List Notation)→(List Syntax)→Syntax→Option Tb)→(List Notation)→(List Syntax)→Syntax→Option Tb // ∀m X0,(∀ (v0:List Notation) (v1:List Syntax) (o0:Syntax),run (pG n) [.lq m [0,0,1,1],.q9 0,.cut [1,1,1],.at [1,1,1]] ⟨[.nY false 4 (mp Notation.cells v0),qA,qA,.ptr 0 0,.ptr 1 0,qA,qA,.nY false 8 (mp Syntax.cells v1),qA,qA,qA,qA,qA,qA,qA,qA,qA,qA,qA,qA,qA,qA,qA,qA,qA,qA,qA,qA,qA,qA,qA,qA,qA,qA,qA,qA,qA,qA,qA,qA,qA,qA,qA,qA,qA,qA,qA,qA,qA,qA,qA,qA,qA,qA,qA,qA,qA,qA,qA,qA,qA,qA,qA,qA,qA,qA,qA,qA,qA,qA,qA,qA,qA,qA,qA,qA,qA,qA,qA,qA,qA,qA,qA,qA,qA,qA,qA,qA,qA,qA,qA],[.cells (Syntax.cells o0),.cells [.nY true 0 [],.int .i64 0,.int .i64 0,.str (sb [])]],0,[]⟩=X0 v0 v1 o0)→ ∀ (v0:List Notation) (v1:List Syntax) (o0:Syntax),run (pG n) [.at [0,0,0,1,1],.lp m [0,0,1,1],.q9 0,.cut [1,1,1],.at [1,1,1]] ⟨[.nY false 4 (mp Notation.cells v0),qA,qA,.ptr 0 0,.ptr 1 0,qA,qA,.nY false 8 (mp Syntax.cells v1),qA,qA,qA,qA,qA,qA,qA,qA,qA,qA,qA,qA,qA,qA,qA,qA,qA,qA,qA,qA,qA,qA,qA,qA,qA,qA,qA,qA,qA,qA,qA,qA,qA,qA,qA,qA,qA,qA,qA,qA,qA,qA,qA,qA,qA,qA,qA,qA,qA,qA,qA,qA,qA,qA,qA,qA,qA,qA,qA,qA,qA,qA,qA,qA,qA,qA,qA,qA,qA,qA,qA,qA,qA,qA,qA,qA,qA,qA,qA,qA,qA,qA,qA],[.cells (Syntax.cells o0),.cells [.nY true 0 [],.int .i64 0,.int .i64 0,.str (sb [])]],0,[]⟩=B X0 v0 v1 o0}:=by
 apply iD
 intro m X0 ih v0 v1 o0
 simp (config:={maxSteps:=100000000}) only[go_sem,ij,iq,hO,hU,ir,iw,iz,iA,iB,ig,iy,iC,CN,CP,Tryd.f91,ia,mixed,CQ,yx,yy,yz,Cp n,ih]
 exact rfl
noncomputable def Ai (n:Nat):Nat→(List Notation)→(List Syntax)→Syntax→Option Tb
 |0,_,_,_=>none
 |m+1,v0,v1,o0=>(EL n).1 (Ai n m) v0 v1 o0
theorem Gg (n:Nat): ∀ (m:Nat),(∀ (v0:List Notation) (v1:List Syntax) (o0:Syntax),run (pG n) [.lq m [0,0,1,1],.q9 0,.cut [1,1,1],.at [1,1,1]] ⟨[.nY false 4 (mp Notation.cells v0),qA,qA,.ptr 0 0,.ptr 1 0,qA,qA,.nY false 8 (mp Syntax.cells v1),qA,qA,qA,qA,qA,qA,qA,qA,qA,qA,qA,qA,qA,qA,qA,qA,qA,qA,qA,qA,qA,qA,qA,qA,qA,qA,qA,qA,qA,qA,qA,qA,qA,qA,qA,qA,qA,qA,qA,qA,qA,qA,qA,qA,qA,qA,qA,qA,qA,qA,qA,qA,qA,qA,qA,qA,qA,qA,qA,qA,qA,qA,qA,qA,qA,qA,qA,qA,qA,qA,qA,qA,qA,qA,qA,qA,qA,qA,qA,qA,qA,qA,qA],[.cells (Syntax.cells o0),.cells [.nY true 0 [],.int .i64 0,.int .i64 0,.str (sb [])]],0,[]⟩=Ai n m v0 v1 o0)
 |0=>by intros;exact nK
 |m+1=>by
  have ih:=Gg n m
  intro v0 v1 o0
  rw[nL]
  exact (EL n).2 m _ ih v0 v1 o0
noncomputable def F1 (n:Nat):{B:(List Notation)→Syntax→Option Tb // ∀ (a0:(List Notation)) (a1:Syntax),run (pG n) [.at []] {slots:=[(tyL Notation.row).enc a0,(nG Syntax.cel).enc a1]++iE (91-[(tyL Notation.row).enc a0,(nG Syntax.cel).enc a1].length) qA,heap:=[]}=B a0 a1}:=by
 apply iD
 intro a0 a1
 simp (config:={maxSteps:=100000000}) only[go_sem,ij,iq,hO,hU,ir,iw,iz,iA,iB,ig,iy,iC,CN,CP,Tryd.f91,ia,mixed,CQ,yx,yy,yz,Cp n,Gg n]
 exact rfl
noncomputable def xg:Nat→(List Notation)→Syntax→Option Tb
 |0,_,_=>none
 |n+1,a0,a1=>(F1 n).1 a0 a1
theorem EM: ∀ (n:Nat) (a0:(List Notation)) (a1:Syntax) (r:Tb),xg n a0 a1=some r→xY Tryd.prog 91 [(tyL Notation.row).enc a0,(nG Syntax.cel).enc a1] (fun v=>v=(Py (nG Notation.cel) (tyL Syntax.row) oF).enc r)
 |0,_,_,_,h=>by cases h
 |n+1,a0,a1,r,h=>by
  exact pg (M:=pG n) ⟨m5,m6,nT _,nU _,oS,oQ,pz,oX⟩ Tryd.func91 rfl rfl ⟨(tyL Notation.row).nb 0 _,(nG Syntax.cel).nb 0 _,trivial⟩ Tryd.ntmps91 Tryd.results91 (fun σ hs=>oZ (P:=Tryd.prog) (rs:=[.cell 4 24,.tmp 5,.tmp 6]) (t:=(Py (nG Notation.cel) (tyL Syntax.row) oF)) (σ:=σ) (r:=r) hs) (((F1 n).2 a0 a1).trans h)
end Go.Abs
namespace Go.Abs
open Go.Proofs
set_option maxRecDepth 100000
set_option maxHeartbeats 4000000
noncomputable def pI (n:Nat):Mach (Td×Unit) where
 body:=(Tryd.f24.body).getD .skip
 P:=Tryd.prog
 cl:=oJ []
 cd:=oN []
 qR:=oO []
 cut:=oP []
 n:=n
 out:=outM Tryd.prog [.tmp 2] 0 Syntax.row (rsA 0 (fun (b:Td)=>b.1.length) rsN)
 q6:=nJ []
theorem Aj (n:Nat):(pI n).P=Tryd.prog∧(pI n).cl=oJ []∧(pI n).cd=oN []∧(pI n).qR=oO []∧(pI n).cut=oP []∧(pI n).n=n∧(pI n).out=outM Tryd.prog [.tmp 2] 0 Syntax.row (rsA 0 (fun (b:Td)=>b.1.length) rsN)∧(pI n).q6=nJ []:=⟨rfl,rfl,rfl,rfl,rfl,rfl,rfl,rfl⟩
theorem Ak (n:Nat):(pI n).body=(Tryd.f24.body).getD .skip:=rfl
noncomputable def Dn (n:Nat):{B:Syntax→List Syntax→Option (Td×Unit) // ∀x xs,run (pI n) [.at []] {slots:=[(tyL Syntax.row).enc (x::xs)]++iE 7 qA,heap:=[],low:=0}=B x xs}:=by
 apply iD
 intro x xs
 simp (config:={maxSteps:=100000000}) only[go_sem,ij,iq,hO,hU,ir,iw,iz,iA,iB,ig,iy,iC,Aj,Ak,Tryd.f24,ia,mixed]
 exact rfl
theorem IB (n:Nat) (c:Nat):run (pI n) [.at []] {slots:=[.raw (.slice none 0 c)]++iE 7 qA,heap:=[],low:=0}=some (([],()),()):=by simp (config:={maxSteps:=100000000}) only[go_sem,ij,iq,hO,hU,ir,iw,iz,iA,iB,ig,iy,iC,Aj,Ak,Tryd.f24,ia,mixed]
theorem IC (n:Nat) (a:Addr) (c:Nat):run (pI n) [.at []] {slots:=[.raw (.slice (some a) 0 c)]++iE 7 qA,heap:=[],low:=0}=some (([],()),()):=by simp (config:={maxSteps:=100000000}) only[go_sem,ij,iq,hO,hU,ir,iw,iz,iA,iB,ig,iy,iC,Aj,Ak,Tryd.f24,ia,mixed]
noncomputable def yT:Nat→(List Syntax)→Option (Td×Unit)
 |0,_=>none
 |_+1,[]=>some (([],()),())
 |n+1,x::xs=>(Dn n).1 x xs
theorem ID: ∀ (n:Nat) (a0:(List Syntax)) (r:(Td×Unit)),yT n a0=some r→QF Tryd.prog 24 (((asT (tyL Syntax.row) asN):El Unit _).enc () (a0,())) (Ov.enc ()) (fun o H'=>o= .ret (vX ((rsA 0 (fun (b:Td)=>b.1.length) rsN).enc r.1 r.2))∧H'=(RD (P8 false Syntax.row) Ov).enc r.1)
 |0,_,_,h=>by cases h
 |n+1,[],r,h=>by
  cases h
  exact fnG_raw0 fun base c=>by
   cases base with
   |none=>exact B3 (M:=pI n) ⟨m5,m6,nT _,nU _,oS,oQ,pz,oX⟩ Tryd.func24 rfl rfl ⟨trivial,trivial⟩ (fun _ h=>by cases h) Tryd.ntmps24 Tryd.results24 (fun σ hs=>V7 hs) (IB n c)
   |some a=>exact B3 (M:=pI n) ⟨m5,m6,nT _,nU _,oS,oQ,pz,oX⟩ Tryd.func24 rfl rfl ⟨trivial,trivial⟩ (fun _ h=>by cases h) Tryd.ntmps24 Tryd.results24 (fun σ hs=>V7 hs) (IC n a c)
 |n+1,x::xs,r,h=>by
  exact B3 (M:=pI n) ⟨m5,m6,nT _,nU _,oS,oQ,pz,oX⟩ Tryd.func24 rfl rfl ⟨(tyL Syntax.row).nb 0 _,trivial⟩ (Ov.nb _ _) Tryd.ntmps24 Tryd.results24 (fun σ hs=>V7 hs) (((Dn n).2 x xs).trans h)
end Go.Abs
