/- A part of the proof: what the functions compute. -/
import Derived.Test.YtfilfimjoeapgaaDoorDataA
set_option linter.all false
open Nat renaming reduceLeDiff → iq,reduceEqDiff → ir,reduceAdd → iz,reduceSub → iA,reduceBEq → iB,reduceMul → iC,reduceLT → iE,le_trans → iK,le_of_eq → iL
open Option renaming getD_some → iw
open Int renaming reduceToNat → iy,reduceBEq → iD,reduceLE → iF,reduceLT → iG,reduceEq → iH
open List renaming replicate → iI
open Subtype renaming mk → iJ
open Go.Abs.AV renaming any → qA
namespace Go.Abs
open Go.Proofs
set_option maxRecDepth 100000
set_option maxHeartbeats 4000000
noncomputable def tJ (n:Nat):pO Bool where
 body:=(Tryd.f39.body).getD .skip
 P:=Tryd.prog
 cl:=om []
 cd:=oo []
 qT:=ot []
 cut:=ou []
 n:=n
 out:=pW Tryd.prog [.tmp 2] pe
 qZ:=nj []
theorem Q2 (n:Nat):(tJ n).P=Tryd.prog∧(tJ n).cl=om []∧(tJ n).cd=oo []∧(tJ n).qT=ot []∧(tJ n).cut=ou []∧(tJ n).n=n∧(tJ n).out=pW Tryd.prog [.tmp 2] pe∧(tJ n).qZ=nj []:=⟨rfl,rfl,rfl,rfl,rfl,rfl,rfl,rfl⟩
theorem Q3 (n:Nat):(tJ n).body=(Tryd.f39.body).getD .skip:=rfl
noncomputable def Ge (n:Nat):{B:Str→Option Bool // ∀ (a0:Str),run (tJ n) [.at []] {slots:=[sD.enc a0]++iI (6-[sD.enc a0].length) qA,heap:=[]}=B a0}:=by
 apply iJ
 intro a0
 simp (config:={maxSteps:=100000000}) only[go_sem,iz,iA,iq,ir,iB,iC,iE,iF,iG,iy,iD,iH,Q2,Q3,Tryd.f39,iw,mixed]
 exact rfl
noncomputable def Fo:Nat→Str→Option Bool
 |0,_=>none
 |n+1,a0=>(Ge n).1 a0
theorem PB: ∀ (n:Nat) (a0:Str) (r:Bool),Fo n a0=some r→xS Tryd.prog 39 [sD.enc a0] (fun v=>v=pe.enc r)
 |0,_,_,h=>by cases h
 |n+1,a0,r,h=>by
  exact pL (M:=tJ n) ⟨mY,mZ,nH _,nI _,oh,oH,oV,oG⟩ Tryd.func39 rfl rfl ⟨sD.nb 0 _,trivial⟩ Tryd.ntmps39 Tryd.results39 (fun σ hs=>pz (P:=Tryd.prog) (rs:=[.tmp 2]) (t:=pe) (σ:=σ) (r:=r) hs) (((Ge n).2 a0).trans h)
noncomputable def vH (n:Nat):pO Syntax where
 body:=(Tryd.f27.body).getD .skip
 P:=Tryd.prog
 cl:=om []
 cd:=oo []
 qT:=ot []
 cut:=ou []
 n:=n
 out:=pW Tryd.prog [.cell 2 36] (nF Syntax.cel)
 qZ:=nj []
theorem WV (n:Nat):(vH n).P=Tryd.prog∧(vH n).cl=om []∧(vH n).cd=oo []∧(vH n).qT=ot []∧(vH n).cut=ou []∧(vH n).n=n∧(vH n).out=pW Tryd.prog [.cell 2 36] (nF Syntax.cel)∧(vH n).qZ=nj []:=⟨rfl,rfl,rfl,rfl,rfl,rfl,rfl,rfl⟩
theorem WW (n:Nat):(vH n).body=(Tryd.f27.body).getD .skip:=rfl
noncomputable def Kn (n:Nat):{B:Str→Option Syntax // ∀ (a0:Str),run (vH n) [.at []] {slots:=[sD.enc a0]++iI (5-[sD.enc a0].length) qA,heap:=[]}=B a0}:=by
 apply iJ
 intro a0
 simp (config:={maxSteps:=100000000}) only[go_sem,iz,iA,iq,ir,iB,iC,iE,iF,iG,iy,iD,iH,WV,WW,Tryd.f27,iw,mixed]
 exact rfl
noncomputable def x9:Nat→Str→Option Syntax
 |0,_=>none
 |n+1,a0=>(Kn n).1 a0
theorem Fp: ∀ (n:Nat) (a0:Str) (r:Syntax),x9 n a0=some r→xS Tryd.prog 27 [sD.enc a0] (fun v=>v=(nF Syntax.cel).enc r)
 |0,_,_,h=>by cases h
 |n+1,a0,r,h=>by
  exact pL (M:=vH n) ⟨mY,mZ,nH _,nI _,oh,oH,oV,oG⟩ Tryd.func27 rfl rfl ⟨sD.nb 0 _,trivial⟩ Tryd.ntmps27 Tryd.results27 (fun σ hs=>pz (P:=Tryd.prog) (rs:=[.cell 2 36]) (t:=(nF Syntax.cel)) (σ:=σ) (r:=r) hs) (((Kn n).2 a0).trans h)
noncomputable def xp:Nrm:=⟨[],[],[zT (oa mP.row),zT (oa mP.row),zA,zA,zA,zK,zK,zA,zA,zA,zA,zA,zA,zA,zA,zA,zA,zA,zA,zA,zA,zA,zA,zA,zA,zA,zA,zA,zA,zA,zA,zA,zA,zA,zA,zA,zA,zA,zA,zA,zA,zA,zA,zA,zA,zA,zA,zA,zA,zA,zA,zA,zA,zA,zA,zA,zA,zA,zA,zA,zA,zA,zA,zA,zA,zA,zA,zA,zA,zA,zA],[],none,none⟩
noncomputable def xq:Nrm:=⟨[],[],[zT (oa mP.row),zT (oa mP.row),zA,zA,zA,zK,zA,zA,zA,zA,zA,zA,zA,zA,zA,zA,zA,zA,zA,zA,zA,zA,zA,zA,zA,zA,zA,zA,zA,zA,zA,zA,zA,zA,zA,zA,zA,zA,zA,zA,zA,zA,zA,zA,zA,zA,zA,zA,zA,zA,zA,zA,zA,zA,zA,zA,zA,zA,zA,zA,zA,zA,zA,zA,zA,zA,zA,zA,zA,zA,zA],[],none,none⟩
noncomputable def oc (n:Nat):pO Bool where
 body:=(Tryd.f55.body).getD .skip
 P:=Tryd.prog
 cl:=om []
 cd:=oo []
 qT:=ot [([0,1,1,0,0,1,0,0,1,0,1,1],xp),([0,1,0,1,1],xq)]
 cut:=ou []
 n:=n
 out:=pW Tryd.prog [.tmp 4] pe
 qZ:=nj []
 Ay:=nj []
 Ax:=nj []
theorem C7 (n:Nat):(oc n).P=Tryd.prog∧(oc n).cl=om []∧(oc n).cd=oo []∧(oc n).qT=ot [([0,1,1,0,0,1,0,0,1,0,1,1],xp),([0,1,0,1,1],xq)]∧(oc n).cut=ou []∧(oc n).n=n∧(oc n).out=pW Tryd.prog [.tmp 4] pe∧(oc n).qZ=nj []∧(oc n).Ay=nj []∧(oc n).Ax=nj []:=⟨rfl,rfl,rfl,rfl,rfl,rfl,rfl,rfl,rfl,rfl⟩
theorem C8 (n:Nat):(oc n).body=(Tryd.f55.body).getD .skip:=rfl
theorem C9 (n:Nat):tY (oc n) [0,0,0,0,1,0,0,1,0,1,1]=true∧tY (oc n) [0,0,0,1,0,0,1,1,0,0,1,0,0,1,0,1,1]=true:=⟨by kernel_rfl,by kernel_rfl⟩
noncomputable def zG (n:Nat):{B:(Tg→Tg→Int→Option Bool)→(Tg→Tg→Int→Int→Option Bool)→Tg→Tg→Int→Int→Option Bool // ∀m2 X2 m X0,(∀ (v0:List mP) (v1:List mP) (v2:Int),run (oc n) [.lq m2 [0,1,0,1,1],.qC 0,.cut [1,1,1],.at [1,1,1]] ⟨[.nE false 2 (mp mP.cells v0),.nE false 2 (mp mP.cells v1),qA,qA,qA,.int .i64 v2,qA,qA,qA,qA,qA,qA,qA,qA,qA,qA,qA,qA,qA,qA,qA,qA,qA,qA,qA,qA,qA,qA,qA,qA,qA,qA,qA,qA,qA,qA,qA,qA,qA,qA,qA,qA,qA,qA,qA,qA,qA,qA,qA,qA,qA,qA,qA,qA,qA,qA,qA,qA,qA,qA,qA,qA,qA,qA,qA,qA,qA,qA,qA,qA,qA],[],0,[]⟩=X2 v0 v1 v2)→(∀ (v0:List mP) (v1:List mP) (v2:Int) (v3:Int),run (oc n) [.lq m [0,1,1,0,0,1,0,0,1,0,1,1],.qC 2,.qC 1,.cut [1,1,0,0,1,0,1,1],.at [1,1,0,0,1,0,1,1],.lp m2 [0,1,0,1,1],.qC 0,.cut [1,1,1],.at [1,1,1]] ⟨[.nE false 2 (mp mP.cells v0),.nE false 2 (mp mP.cells v1),qA,qA,qA,.int .i64 v2,.int .i64 v3,qA,qA,qA,qA,qA,qA,qA,qA,qA,qA,qA,qA,qA,qA,qA,qA,qA,qA,qA,qA,qA,qA,qA,qA,qA,qA,qA,qA,qA,qA,qA,qA,qA,qA,qA,qA,qA,qA,qA,qA,qA,qA,qA,qA,qA,qA,qA,qA,qA,qA,qA,qA,qA,qA,qA,qA,qA,qA,qA,qA,qA,qA,qA,qA],[],0,[]⟩=X0 v0 v1 v2 v3)→ ∀ (v0:List mP) (v1:List mP) (v2:Int) (v3:Int),run (oc n) [.at [0,0,1,1,0,0,1,0,0,1,0,1,1],.lp m [0,1,1,0,0,1,0,0,1,0,1,1],.qC 2,.qC 1,.cut [1,1,0,0,1,0,1,1],.at [1,1,0,0,1,0,1,1],.lp m2 [0,1,0,1,1],.qC 0,.cut [1,1,1],.at [1,1,1]] ⟨[.nE false 2 (mp mP.cells v0),.nE false 2 (mp mP.cells v1),qA,qA,qA,.int .i64 v2,.int .i64 v3,qA,qA,qA,qA,qA,qA,qA,qA,qA,qA,qA,qA,qA,qA,qA,qA,qA,qA,qA,qA,qA,qA,qA,qA,qA,qA,qA,qA,qA,qA,qA,qA,qA,qA,qA,qA,qA,qA,qA,qA,qA,qA,qA,qA,qA,qA,qA,qA,qA,qA,qA,qA,qA,qA,qA,qA,qA,qA,qA,qA,qA,qA,qA,qA],[],0,[]⟩=B X2 X0 v0 v1 v2 v3}:=by
 apply iJ
 intro m2 X2 m X0 h2 ih v0 v1 v2 v3
 simp (config:={maxSteps:=100000000}) only[go_sem,iz,iA,iq,ir,iB,iC,iE,iF,iG,iy,iD,iH,C7,C8,Tryd.f55,iw,mixed,C9,xp,xq,h2,ih]
 exact rfl
noncomputable def xu (n:Nat) (X2:Tg→Tg→Int→Option Bool):Nat→Tg→Tg→Int→Int→Option Bool
 |0,_,_,_,_=>none
 |m+1,v0,v1,v2,v3=>(zG n).1 X2 (xu n X2 m) v0 v1 v2 v3
theorem DN (n:Nat) (m2:Nat) (X2:Tg→Tg→Int→Option Bool) (h2:(∀ (v0:List mP) (v1:List mP) (v2:Int),run (oc n) [.lq m2 [0,1,0,1,1],.qC 0,.cut [1,1,1],.at [1,1,1]] ⟨[.nE false 2 (mp mP.cells v0),.nE false 2 (mp mP.cells v1),qA,qA,qA,.int .i64 v2,qA,qA,qA,qA,qA,qA,qA,qA,qA,qA,qA,qA,qA,qA,qA,qA,qA,qA,qA,qA,qA,qA,qA,qA,qA,qA,qA,qA,qA,qA,qA,qA,qA,qA,qA,qA,qA,qA,qA,qA,qA,qA,qA,qA,qA,qA,qA,qA,qA,qA,qA,qA,qA,qA,qA,qA,qA,qA,qA,qA,qA,qA,qA,qA,qA],[],0,[]⟩=X2 v0 v1 v2)): ∀ (m:Nat),(∀ (v0:List mP) (v1:List mP) (v2:Int) (v3:Int),run (oc n) [.lq m [0,1,1,0,0,1,0,0,1,0,1,1],.qC 2,.qC 1,.cut [1,1,0,0,1,0,1,1],.at [1,1,0,0,1,0,1,1],.lp m2 [0,1,0,1,1],.qC 0,.cut [1,1,1],.at [1,1,1]] ⟨[.nE false 2 (mp mP.cells v0),.nE false 2 (mp mP.cells v1),qA,qA,qA,.int .i64 v2,.int .i64 v3,qA,qA,qA,qA,qA,qA,qA,qA,qA,qA,qA,qA,qA,qA,qA,qA,qA,qA,qA,qA,qA,qA,qA,qA,qA,qA,qA,qA,qA,qA,qA,qA,qA,qA,qA,qA,qA,qA,qA,qA,qA,qA,qA,qA,qA,qA,qA,qA,qA,qA,qA,qA,qA,qA,qA,qA,qA,qA,qA,qA,qA,qA,qA,qA],[],0,[]⟩=xu n X2 m v0 v1 v2 v3)
 |0=>by intros;exact nk
 |m+1=>by
  have ih:=DN n m2 X2 h2 m
  intro v0 v1 v2 v3
  rw[nq]
  exact (zG n).2 m2 X2 m _ h2 ih v0 v1 v2 v3
noncomputable def zH (n:Nat):{B:(Tg→Tg→Int→Option Bool)→Tg→Tg→Int→Option Bool // ∀m X0,(∀ (v0:List mP) (v1:List mP) (v2:Int),run (oc n) [.lq m [0,1,0,1,1],.qC 0,.cut [1,1,1],.at [1,1,1]] ⟨[.nE false 2 (mp mP.cells v0),.nE false 2 (mp mP.cells v1),qA,qA,qA,.int .i64 v2,qA,qA,qA,qA,qA,qA,qA,qA,qA,qA,qA,qA,qA,qA,qA,qA,qA,qA,qA,qA,qA,qA,qA,qA,qA,qA,qA,qA,qA,qA,qA,qA,qA,qA,qA,qA,qA,qA,qA,qA,qA,qA,qA,qA,qA,qA,qA,qA,qA,qA,qA,qA,qA,qA,qA,qA,qA,qA,qA,qA,qA,qA,qA,qA,qA],[],0,[]⟩=X0 v0 v1 v2)→ ∀ (v0:List mP) (v1:List mP) (v2:Int),run (oc n) [.at [0,0,1,0,1,1],.lp m [0,1,0,1,1],.qC 0,.cut [1,1,1],.at [1,1,1]] ⟨[.nE false 2 (mp mP.cells v0),.nE false 2 (mp mP.cells v1),qA,qA,qA,.int .i64 v2,qA,qA,qA,qA,qA,qA,qA,qA,qA,qA,qA,qA,qA,qA,qA,qA,qA,qA,qA,qA,qA,qA,qA,qA,qA,qA,qA,qA,qA,qA,qA,qA,qA,qA,qA,qA,qA,qA,qA,qA,qA,qA,qA,qA,qA,qA,qA,qA,qA,qA,qA,qA,qA,qA,qA,qA,qA,qA,qA,qA,qA,qA,qA,qA,qA],[],0,[]⟩=B X0 v0 v1 v2}:=by
 apply iJ
 intro m X0 ih v0 v1 v2
 simp (config:={maxSteps:=100000000}) only[go_sem,iz,iA,iq,ir,iB,iC,iE,iF,iG,iy,iD,iH,C7,C8,Tryd.f55,iw,mixed,C9,xp,xq,DN n m X0 ih,ih]
 exact rfl
noncomputable def vW (n:Nat):Nat→Tg→Tg→Int→Option Bool
 |0,_,_,_=>none
 |m+1,v0,v1,v2=>(zH n).1 (vW n m) v0 v1 v2
theorem DO (n:Nat): ∀ (m:Nat),(∀ (v0:List mP) (v1:List mP) (v2:Int),run (oc n) [.lq m [0,1,0,1,1],.qC 0,.cut [1,1,1],.at [1,1,1]] ⟨[.nE false 2 (mp mP.cells v0),.nE false 2 (mp mP.cells v1),qA,qA,qA,.int .i64 v2,qA,qA,qA,qA,qA,qA,qA,qA,qA,qA,qA,qA,qA,qA,qA,qA,qA,qA,qA,qA,qA,qA,qA,qA,qA,qA,qA,qA,qA,qA,qA,qA,qA,qA,qA,qA,qA,qA,qA,qA,qA,qA,qA,qA,qA,qA,qA,qA,qA,qA,qA,qA,qA,qA,qA,qA,qA,qA,qA,qA,qA,qA,qA,qA,qA],[],0,[]⟩=vW n m v0 v1 v2)
 |0=>by intros;exact nk
 |m+1=>by
  have ih:=DO n m
  intro v0 v1 v2
  rw[nq]
  exact (zH n).2 m _ ih v0 v1 v2
noncomputable def Da (n:Nat):{B:Tg→Tg→Option Bool // ∀ (a0:Tg) (a1:Tg),run (oc n) [.at []] {slots:=[(oa mP.row).enc a0,(oa mP.row).enc a1]++iI (71-[(oa mP.row).enc a0,(oa mP.row).enc a1].length) qA,heap:=[]}=B a0 a1}:=by
 apply iJ
 intro a0 a1
 simp (config:={maxSteps:=100000000}) only[go_sem,iz,iA,iq,ir,iB,iC,iE,iF,iG,iy,iD,iH,C7,C8,Tryd.f55,iw,mixed,C9,xp,xq,DO n]
 exact rfl
noncomputable def zY:Nat→Tg→Tg→Option Bool
 |0,_,_=>none
 |n+1,a0,a1=>(Da n).1 a0 a1
theorem MG: ∀ (n:Nat) (a0:Tg) (a1:Tg) (r:Bool),zY n a0 a1=some r→xS Tryd.prog 55 [(oa mP.row).enc a0,(oa mP.row).enc a1] (fun v=>v=pe.enc r)
 |0,_,_,_,h=>by cases h
 |n+1,a0,a1,r,h=>by
  exact pL (M:=oc n) ⟨mY,mZ,nH _,nI _,oh,oH,oV,oG⟩ Tryd.func55 rfl rfl ⟨(oa mP.row).nb 0 _,(oa mP.row).nb 0 _,trivial⟩ Tryd.ntmps55 Tryd.results55 (fun σ hs=>pz (P:=Tryd.prog) (rs:=[.tmp 4]) (t:=pe) (σ:=σ) (r:=r) hs) (((Da n).2 a0 a1).trans h)
noncomputable def u6 (n:Nat):pO (List Notation) where
 body:=(Tryd.f41.body).getD .skip
 P:=Tryd.prog
 cl:=om []
 cd:=oo []
 qT:=ot []
 cut:=ou []
 n:=n
 out:=pW Tryd.prog [.tmp 0] (oa Notation.row)
 qZ:=nj []
theorem UD (n:Nat):(u6 n).P=Tryd.prog∧(u6 n).cl=om []∧(u6 n).cd=oo []∧(u6 n).qT=ot []∧(u6 n).cut=ou []∧(u6 n).n=n∧(u6 n).out=pW Tryd.prog [.tmp 0] (oa Notation.row)∧(u6 n).qZ=nj []:=⟨rfl,rfl,rfl,rfl,rfl,rfl,rfl,rfl⟩
theorem UE (n:Nat):(u6 n).body=(Tryd.f41.body).getD .skip:=rfl
noncomputable def MY (n:Nat):{B:Option (List Notation) // run (u6 n) [.at []] {slots:=([]:List AV)++iI (10-([]:List AV).length) qA,heap:=[]}=B}:=by
 apply iJ
 simp (config:={maxSteps:=100000000}) only[go_sem,iz,iA,iq,ir,iB,iC,iE,iF,iG,iy,iD,iH,UD,UE,Tryd.f41,iw,mixed]
 exact rfl
noncomputable def FK:Nat→Option (List Notation)
 |0=>none
 |n+1=>(MY n).1
theorem LC: ∀ (n:Nat) (r:(List Notation)),FK n=some r→xS Tryd.prog 41 [] (fun v=>v=(oa Notation.row).enc r)
 |0,_,h=>by cases h
 |n+1,r,h=>by
  exact pL (M:=u6 n) ⟨mY,mZ,nH _,nI _,oh,oH,oV,oG⟩ Tryd.func41 rfl rfl trivial Tryd.ntmps41 Tryd.results41 (fun σ hs=>pz (P:=Tryd.prog) (rs:=[.tmp 0]) (t:=(oa Notation.row)) (σ:=σ) (r:=r) hs) (((MY n).2).trans h)
noncomputable def uz (n:Nat):pO Syntax where
 body:=(Tryd.f28.body).getD .skip
 P:=Tryd.prog
 cl:=om []
 cd:=oo []
 qT:=ot []
 cut:=ou []
 n:=n
 out:=pW Tryd.prog [.cell 2 36] (nF Syntax.cel)
 qZ:=nj []
theorem SF (n:Nat):(uz n).P=Tryd.prog∧(uz n).cl=om []∧(uz n).cd=oo []∧(uz n).qT=ot []∧(uz n).cut=ou []∧(uz n).n=n∧(uz n).out=pW Tryd.prog [.cell 2 36] (nF Syntax.cel)∧(uz n).qZ=nj []:=⟨rfl,rfl,rfl,rfl,rfl,rfl,rfl,rfl⟩
theorem SG (n:Nat):(uz n).body=(Tryd.f28.body).getD .skip:=rfl
noncomputable def G3 (n:Nat):{B:Str→Option Syntax // ∀ (a0:Str),run (uz n) [.at []] {slots:=[sD.enc a0]++iI (5-[sD.enc a0].length) qA,heap:=[]}=B a0}:=by
 apply iJ
 intro a0
 simp (config:={maxSteps:=100000000}) only[go_sem,iz,iA,iq,ir,iB,iC,iE,iF,iG,iy,iD,iH,SF,SG,Tryd.f28,iw,mixed]
 exact rfl
noncomputable def AB:Nat→Str→Option Syntax
 |0,_=>none
 |n+1,a0=>(G3 n).1 a0
theorem K3: ∀ (n:Nat) (a0:Str) (r:Syntax),AB n a0=some r→xS Tryd.prog 28 [sD.enc a0] (fun v=>v=(nF Syntax.cel).enc r)
 |0,_,_,h=>by cases h
 |n+1,a0,r,h=>by
  exact pL (M:=uz n) ⟨mY,mZ,nH _,nI _,oh,oH,oV,oG⟩ Tryd.func28 rfl rfl ⟨sD.nb 0 _,trivial⟩ Tryd.ntmps28 Tryd.results28 (fun σ hs=>pz (P:=Tryd.prog) (rs:=[.cell 2 36]) (t:=(nF Syntax.cel)) (σ:=σ) (r:=r) hs) (((G3 n).2 a0).trans h)
noncomputable def nS:OL Ta:=(sZ (BF (tI 4 pP)) (sZ (BF (Y4 Syntax.cel 8 pP)) (sZ (BF (Y4 (cI .i64) 1 pP)) (sZ (BF (Y4 (cI .i64) 1 pP)) (sZ (BF (tI 5 (qy (oa Syntax.row) (qy (o9 .i64) pP)))) (sZ (BF (xg 6 (xg 7 (xg 8 (qy (o9 .i64) pP))))) (sZ (wh (nF Notation.cel)) (sZ (wh (nF Notation.cel)) (sZ K1 wX)))))))))
noncomputable def qF:OL Ta:=(sZ (BF (tI 4 pP)) (sZ (BF (Y4 Syntax.cel 8 pP)) (sZ (BF (Y4 (cI .i64) 1 pP)) (sZ (BF (Y4 (cI .i64) 1 pP)) (sZ (BF (tI 5 (qy (oa Syntax.row) (qy (o9 .i64) pP)))) (sZ (BF (xg 6 (xg 7 (xg 8 (qy (o9 .i64) pP))))) (sZ (wh (nF Notation.cel)) (sZ (wh (nF Notation.cel)) (sZ K1 wX)))))))))
noncomputable def qc (n:Nat):pO (Ta×Unit) where
 body:=(Tryd.f52.body).getD .skip
 P:=Tryd.prog
 cl:=om []
 cd:=oo []
 qT:=ot []
 cut:=ou []
 n:=n
 out:=Ca Tryd.prog [] [] [0,1,2,3,4,5,6,7,8] 9 qF pP
 qZ:=nj []
theorem Lb (n:Nat):(qc n).P=Tryd.prog∧(qc n).cl=om []∧(qc n).cd=oo []∧(qc n).qT=ot []∧(qc n).cut=ou []∧(qc n).n=n∧(qc n).out=Ca Tryd.prog [] [] [0,1,2,3,4,5,6,7,8] 9 qF pP∧(qc n).qZ=nj []:=⟨rfl,rfl,rfl,rfl,rfl,rfl,rfl,rfl⟩
theorem Lc (n:Nat):(qc n).body=(Tryd.f52.body).getD .skip:=rfl
noncomputable def Bb (n:Nat):{B:Syntax→Int→Int→(List Syntax)→Int→Int→T3→T3→T4→Option (Ta×Unit) // ∀ (o0:Syntax) (o1:Int) (o2:Int) (o3:(List Syntax)) (o4:Int) (o5:Int) (o6:T3) (o7:T3) (o8:T4),run (qc n) [.ops (tD (qc n) [0]) ((tD (qc n) [0]).toList.drop 1),.cut [1],.at [1]] (AState.put {slots:=((tI 0 (tI 1 (tI 2 (tI 3 pP)))).enc (nS.lens ((),(o0,()),(o1,()),(o2,()),(o3,o4,()),(o5,()),o6,o7,o8,())) ())++iI (23-((tI 0 (tI 1 (tI 2 (tI 3 pP)))).enc (nS.lens ((),(o0,()),(o1,()),(o2,()),(o3,o4,()),(o5,()),o6,o7,o8,())) ()).length) qA,heap:=(nS.enc (nS.lens ((),(o0,()),(o1,()),(o2,()),(o3,o4,()),(o5,()),o6,o7,o8,())) ((),(o0,()),(o1,()),(o2,()),(o3,o4,()),(o5,()),o6,o7,o8,())),low:=(nS.enc (nS.lens ((),(o0,()),(o1,()),(o2,()),(o3,o4,()),(o5,()),o6,o7,o8,())) ((),(o0,()),(o1,()),(o2,()),(o3,o4,()),(o5,()),o6,o7,o8,())).length} (some 7) (.raw .nilIface))=B o0 o1 o2 o3 o4 o5 o6 o7 o8}:=by
 apply iJ
 intro o0 o1 o2 o3 o4 o5 o6 o7 o8
 simp (config:={maxSteps:=100000000}) only[go_sem,iz,iA,iq,ir,iB,iC,iE,iF,iG,iy,iD,iH,Lb,Lc,Tryd.f52,iw,mixed,nS,qF]
 exact rfl
noncomputable def uP:Nat→Syntax→Int→Int→(List Syntax)→Int→Int→T3→T3→T4→Option (Ta×Unit)
 |0,_,_,_,_,_,_,_,_,_=>none
 |n+1,o0,o1,o2,o3,o4,o5,o6,o7,o8=>(Bb n).1 o0 o1 o2 o3 o4 o5 o6 o7 o8
theorem Ko: ∀ (n:Nat) (o0:Syntax) (o1:Int) (o2:Int) (o3:(List Syntax)) (o4:Int) (o5:Int) (o6:T3) (o7:T3) (o8:T4) (r:(Ta×Unit)),uP n o0 o1 o2 o3 o4 o5 o6 o7 o8=some r→XY Tryd.prog (X3 Tryd.prog 52) ((tI 0 (tI 1 (tI 2 (tI 3 pP)))).enc (nS.lens ((),(o0,()),(o1,()),(o2,()),(o3,o4,()),(o5,()),o6,o7,o8,())) ()) (nS.enc (nS.lens ((),(o0,()),(o1,()),(o2,()),(o3,o4,()),(o5,()),o6,o7,o8,())) ((),(o0,()),(o1,()),(o2,()),(o3,o4,()),(o5,()),o6,o7,o8,())) (fun o H'=>o=(Zk qF pP r).1∧H'=(Zk qF pP r).2)
 |0,_,_,_,_,_,_,_,_,_,_,h=>by cases h
 |n+1,o0,o1,o2,o3,o4,o5,o6,o7,o8,r,h=>by
  exact WU (M:=qc n) (p1:=[]) (b1:=[0,1,2,3,4,5,6,7,8]) (args:=((tI 0 (tI 1 (tI 2 (tI 3 pP)))).enc (nS.lens ((),(o0,()),(o1,()),(o2,()),(o3,o4,()),(o5,()),o6,o7,o8,())) ())) ⟨mY,mZ,nH _,nI _,oh,oH,oV,oG⟩ Tryd.func52 rfl (by kernel_rfl) (sE (iK (of_decide_eq_true (by kernel_rfl)) (iL (nS.sz _ _).symm)) _ ((tI 0 (tI 1 (tI 2 (tI 3 pP)))).nb (nS.lens ((),(o0,()),(o1,()),(o2,()),(o3,o4,()),(o5,()),o6,o7,o8,())) ())) (fun x hx=>tN (iK (of_decide_eq_true (by kernel_rfl)) (iL (nS.sz _ _).symm)) _ (nS.nb _ _ x hx)) Tryd.ntmps52 Tryd.results52 (low:=9) (by rfl) rfl (((Bb n).2 o0 o1 o2 o3 o4 o5 o6 o7 o8).trans h)
end Go.Abs
namespace Go.Abs
open Go.Proofs
set_option maxRecDepth 100000
set_option maxHeartbeats 4000000
noncomputable def rI:AL (Unit×Unit):=(tI 0 (tI 1 (tI 2 (tI 3 (qy (FI 83 FJ) pP)))))
noncomputable def nT:OL Ta:=(sZ (BF (tI 4 pP)) (sZ (BF (Y4 Syntax.cel 8 pP)) (sZ (BF (Y4 (cI .i64) 1 pP)) (sZ (BF (Y4 (cI .i64) 1 pP)) (sZ (BF (tI 5 (qy (oa Syntax.row) (qy (o9 .i64) pP)))) (sZ (BF (xg 6 (xg 7 (xg 8 (qy (o9 .i64) pP))))) (sZ (wh (nF Notation.cel)) (sZ (wh (nF Notation.cel)) (sZ K1 wX)))))))))
noncomputable def qG:OL Ta:=(sZ (BF (tI 4 pP)) (sZ (BF (Y4 Syntax.cel 8 pP)) (sZ (BF (Y4 (cI .i64) 1 pP)) (sZ (BF (Y4 (cI .i64) 1 pP)) (sZ (BF (tI 5 (qy (oa Syntax.row) (qy (o9 .i64) pP)))) (sZ (BF (xg 6 (xg 7 (xg 8 (qy (o9 .i64) pP))))) (sZ (wh (nF Notation.cel)) (sZ (wh (nF Notation.cel)) (sZ K1 wX)))))))))
noncomputable def qd (n:Nat):pO (Ta×Unit) where
 body:=(Tryd.f52.body).getD .skip
 P:=Tryd.prog
 cl:=om []
 cd:=oo []
 qT:=ot []
 cut:=ou []
 n:=n
 out:=Ca Tryd.prog [] [] [0,1,2,3,4,5,6,7,8] 9 qG pP
 qZ:=nj []
theorem Ld (n:Nat):(qd n).P=Tryd.prog∧(qd n).cl=om []∧(qd n).cd=oo []∧(qd n).qT=ot []∧(qd n).cut=ou []∧(qd n).n=n∧(qd n).out=Ca Tryd.prog [] [] [0,1,2,3,4,5,6,7,8] 9 qG pP∧(qd n).qZ=nj []:=⟨rfl,rfl,rfl,rfl,rfl,rfl,rfl,rfl⟩
theorem Lf (n:Nat):(qd n).body=(Tryd.f52.body).getD .skip:=rfl
noncomputable def Bc (n:Nat):{B:Unit→Syntax→Int→Int→(List Syntax)→Int→Int→T3→T3→T4→Option (Ta×Unit) // ∀ (a0:Unit) (o0:Syntax) (o1:Int) (o2:Int) (o3:(List Syntax)) (o4:Int) (o5:Int) (o6:T3) (o7:T3) (o8:T4),run (qd n) [.ops (tD (qd n) [0]) ((tD (qd n) [0]).toList.drop 1),.cut [1],.at [1]] (AState.put {slots:=((tI 0 (tI 1 (tI 2 (tI 3 pP)))).enc (nT.lens ((),(o0,()),(o1,()),(o2,()),(o3,o4,()),(o5,()),o6,o7,o8,())) ())++iI (23-((tI 0 (tI 1 (tI 2 (tI 3 pP)))).enc (nT.lens ((),(o0,()),(o1,()),(o2,()),(o3,o4,()),(o5,()),o6,o7,o8,())) ()).length) qA,heap:=(nT.enc (nT.lens ((),(o0,()),(o1,()),(o2,()),(o3,o4,()),(o5,()),o6,o7,o8,())) ((),(o0,()),(o1,()),(o2,()),(o3,o4,()),(o5,()),o6,o7,o8,())),low:=(nT.enc (nT.lens ((),(o0,()),(o1,()),(o2,()),(o3,o4,()),(o5,()),o6,o7,o8,())) ((),(o0,()),(o1,()),(o2,()),(o3,o4,()),(o5,()),o6,o7,o8,())).length} (some 7) ((FI 83 FJ).enc a0))=B a0 o0 o1 o2 o3 o4 o5 o6 o7 o8}:=by
 apply iJ
 intro a0 o0 o1 o2 o3 o4 o5 o6 o7 o8
 simp (config:={maxSteps:=100000000}) only[go_sem,iz,iA,iq,ir,iB,iC,iE,iF,iG,iy,iD,iH,Ld,Lf,Tryd.f52,iw,mixed,rI,nT,qG]
 exact rfl
noncomputable def tP:Nat→Unit→Syntax→Int→Int→(List Syntax)→Int→Int→T3→T3→T4→Option (Ta×Unit)
 |0,_,_,_,_,_,_,_,_,_,_=>none
 |n+1,a0,o0,o1,o2,o3,o4,o5,o6,o7,o8=>(Bc n).1 a0 o0 o1 o2 o3 o4 o5 o6 o7 o8
theorem Kp: ∀ (n:Nat) (a0:Unit) (o0:Syntax) (o1:Int) (o2:Int) (o3:(List Syntax)) (o4:Int) (o5:Int) (o6:T3) (o7:T3) (o8:T4) (r:(Ta×Unit)),tP n a0 o0 o1 o2 o3 o4 o5 o6 o7 o8=some r→XY Tryd.prog (X4 Tryd.prog 52) (rI.enc (nT.lens ((),(o0,()),(o1,()),(o2,()),(o3,o4,()),(o5,()),o6,o7,o8,())) (a0,())) (nT.enc (nT.lens ((),(o0,()),(o1,()),(o2,()),(o3,o4,()),(o5,()),o6,o7,o8,())) ((),(o0,()),(o1,()),(o2,()),(o3,o4,()),(o5,()),o6,o7,o8,())) (fun o H'=>o=(Zk qG pP r).1∧H'=(Zk qG pP r).2)
 |0,_,_,_,_,_,_,_,_,_,_,_,h=>by cases h
 |n+1,a0,o0,o1,o2,o3,o4,o5,o6,o7,o8,r,h=>by
  exact WT (M:=qd n) (p1:=[]) (b1:=[0,1,2,3,4,5,6,7,8]) (args:=((tI 0 (tI 1 (tI 2 (tI 3 pP)))).enc (nT.lens ((),(o0,()),(o1,()),(o2,()),(o3,o4,()),(o5,()),o6,o7,o8,())) ())) (x:=(FI 83 FJ).enc a0) ⟨mY,mZ,nH _,nI _,oh,oH,oV,oG⟩ Tryd.func52 rfl (by kernel_rfl) (sE (iK (of_decide_eq_true (by kernel_rfl)) (iL (nT.sz _ _).symm)) _ (rI.nb (nT.lens ((),(o0,()),(o1,()),(o2,()),(o3,o4,()),(o5,()),o6,o7,o8,())) (a0,()))) (fun x hx=>tN (iK (of_decide_eq_true (by kernel_rfl)) (iL (nT.sz _ _).symm)) _ (nT.nb _ _ x hx)) Tryd.ntmps52 Tryd.results52 (low:=9) (by rfl) rfl (((Bc n).2 a0 o0 o1 o2 o3 o4 o5 o6 o7 o8).trans h)
noncomputable def q4:OL T8:=(sZ (BF (xg 1 (xg 2 (xg 3 (qy (o9 .i64) pP))))) (sZ (wh (nF Notation.cel)) (sZ (wh (nF Notation.cel)) (sZ K1 wX))))
noncomputable def rD (n:Nat):pO (T8×Unit) where
 body:=(Tryd.f78.body).getD .skip
 P:=Tryd.prog
 cl:=om []
 cd:=oo []
 qT:=ot []
 cut:=ou []
 n:=n
 out:=Ca Tryd.prog [.tmp 0] [.arg 0 [],.obj 0 0 [],.obj 0 1 [],.obj 0 2 []] [] 0 q4 (tI 0 pP)
 qZ:=nj []
theorem MH (n:Nat):(rD n).P=Tryd.prog∧(rD n).cl=om []∧(rD n).cd=oo []∧(rD n).qT=ot []∧(rD n).cut=ou []∧(rD n).n=n∧(rD n).out=Ca Tryd.prog [.tmp 0] [.arg 0 [],.obj 0 0 [],.obj 0 1 [],.obj 0 2 []] [] 0 q4 (tI 0 pP)∧(rD n).qZ=nj []:=⟨rfl,rfl,rfl,rfl,rfl,rfl,rfl,rfl⟩
theorem MI (n:Nat):(rD n).body=(Tryd.f78.body).getD .skip:=rfl
noncomputable def Cw (n:Nat):{B:Option (T8×Unit) // run (rD n) [.at []] {slots:=(pP.enc (wX.lens ()) ())++iI (6-(pP.enc (wX.lens ()) ()).length) qA,heap:=(wX.enc (wX.lens ()) ()),low:=(wX.enc (wX.lens ()) ()).length}=B}:=by
 apply iJ
 simp (config:={maxSteps:=100000000}) only[go_sem,iz,iA,iq,ir,iB,iC,iE,iF,iG,iy,iD,iH,MH,MI,Tryd.f78,iw,mixed,q4]
 exact rfl
noncomputable def yW:Nat→Option (T8×Unit)
 |0=>none
 |n+1=>(Cw n).1
theorem LD: ∀ (n:Nat) (r:(T8×Unit)),yW n=some r→Ob Tryd.prog 78 (pP.enc (wX.lens ()) ()) (wX.enc (wX.lens ()) ()) (fun o H'=>o= .ret (uR ((tI 0 pP).enc (q4.lens r.1) r.2))∧H'=q4.enc (q4.lens r.1) r.1)
 |0,_,h=>by cases h
 |n+1,r,h=>by
  exact wW (M:=rD n) ⟨mY,mZ,nH _,nI _,oh,oH,oV,oG⟩ Tryd.func78 rfl rfl (sE (iK (of_decide_eq_true (by kernel_rfl)) (iL (wX.sz _ _).symm)) _ (pP.nb _ _)) (fun x hx=>tN (iK (of_decide_eq_true (by kernel_rfl)) (iL (wX.sz _ _).symm)) _ (wX.nb _ _ x hx)) Tryd.ntmps78 Tryd.results78 (fun σ hs=>AA (P:=Tryd.prog) (rs:=[.tmp 0]) (pos:=[.arg 0 [],.obj 0 0 [],.obj 0 1 [],.obj 0 2 []]) (base:=[]) (low:=0) (os:=q4) (s:=(tI 0 pP)) (σ:=σ) (r:=r) (by rfl) hs) (((Cw n).2).trans h)
noncomputable def tK (n:Nat):pO Bool where
 body:=(Tryd.f43.body).getD .skip
 P:=Tryd.prog
 cl:=om []
 cd:=oo []
 qT:=ot []
 cut:=ou []
 n:=n
 out:=pW Tryd.prog [.tmp 2] pe
 qZ:=nj []
theorem Q4 (n:Nat):(tK n).P=Tryd.prog∧(tK n).cl=om []∧(tK n).cd=oo []∧(tK n).qT=ot []∧(tK n).cut=ou []∧(tK n).n=n∧(tK n).out=pW Tryd.prog [.tmp 2] pe∧(tK n).qZ=nj []:=⟨rfl,rfl,rfl,rfl,rfl,rfl,rfl,rfl⟩
theorem Q5 (n:Nat):(tK n).body=(Tryd.f43.body).getD .skip:=rfl
noncomputable def Gf (n:Nat):{B:Notation→Option Bool // ∀ (a0:Notation),run (tK n) [.at []] {slots:=[(nF Notation.cel).enc a0]++iI (8-[(nF Notation.cel).enc a0].length) qA,heap:=[]}=B a0}:=by
 apply iJ
 intro a0
 simp (config:={maxSteps:=100000000}) only[go_sem,iz,iA,iq,ir,iB,iC,iE,iF,iG,iy,iD,iH,Q4,Q5,Tryd.f43,iw,mixed]
 exact rfl
noncomputable def tO:Nat→Notation→Option Bool
 |0,_=>none
 |n+1,a0=>(Gf n).1 a0
theorem zZ: ∀ (n:Nat) (a0:Notation) (r:Bool),tO n a0=some r→xS Tryd.prog 43 [(nF Notation.cel).enc a0] (fun v=>v=pe.enc r)
 |0,_,_,h=>by cases h
 |n+1,a0,r,h=>by
  exact pL (M:=tK n) ⟨mY,mZ,nH _,nI _,oh,oH,oV,oG⟩ Tryd.func43 rfl rfl ⟨(nF Notation.cel).nb 0 _,trivial⟩ Tryd.ntmps43 Tryd.results43 (fun σ hs=>pz (P:=Tryd.prog) (rs:=[.tmp 2]) (t:=pe) (σ:=σ) (r:=r) hs) (((Gf n).2 a0).trans h)
noncomputable def u7 (n:Nat):pO Int where
 body:=(Tryd.f66.body).getD .skip
 P:=Tryd.prog
 cl:=om []
 cd:=oo []
 qT:=ot []
 cut:=ou []
 n:=n
 out:=pW Tryd.prog [.tmp 2] (o9 .i64)
 qZ:=nj []
theorem UF (n:Nat):(u7 n).P=Tryd.prog∧(u7 n).cl=om []∧(u7 n).cd=oo []∧(u7 n).qT=ot []∧(u7 n).cut=ou []∧(u7 n).n=n∧(u7 n).out=pW Tryd.prog [.tmp 2] (o9 .i64)∧(u7 n).qZ=nj []:=⟨rfl,rfl,rfl,rfl,rfl,rfl,rfl,rfl⟩
theorem UG (n:Nat):(u7 n).body=(Tryd.f66.body).getD .skip:=rfl
noncomputable def II (n:Nat):{B:Int→Option Int // ∀ (a0:Int),run (u7 n) [.at []] {slots:=[(o9 .u8).enc a0]++iI (28-[(o9 .u8).enc a0].length) qA,heap:=[]}=B a0}:=by
 apply iJ
 intro a0
 simp (config:={maxSteps:=100000000}) only[go_sem,iz,iA,iq,ir,iB,iC,iE,iF,iG,iy,iD,iH,UF,UG,Tryd.f66,iw,mixed]
 exact rfl
noncomputable def BH:Nat→Int→Option Int
 |0,_=>none
 |n+1,a0=>(II n).1 a0
theorem LF: ∀ (n:Nat) (a0:Int) (r:Int),BH n a0=some r→xS Tryd.prog 66 [(o9 .u8).enc a0] (fun v=>v=(o9 .i64).enc r)
 |0,_,_,h=>by cases h
 |n+1,a0,r,h=>by
  exact pL (M:=u7 n) ⟨mY,mZ,nH _,nI _,oh,oH,oV,oG⟩ Tryd.func66 rfl rfl ⟨(o9 .u8).nb 0 _,trivial⟩ Tryd.ntmps66 Tryd.results66 (fun σ hs=>pz (P:=Tryd.prog) (rs:=[.tmp 2]) (t:=(o9 .i64)) (σ:=σ) (r:=r) hs) (((II n).2 a0).trans h)
noncomputable def rE (n:Nat):pO Str where
 body:=(Tryd.f108.body).getD .skip
 P:=Tryd.prog
 cl:=om []
 cd:=oo []
 qT:=ot []
 cut:=ou [([1,1],[0])]
 n:=n
 out:=pW Tryd.prog [.tmp 2] (YJ 112 (tyP cS))
 qZ:=nj []
theorem MJ (n:Nat):(rE n).P=Tryd.prog∧(rE n).cl=om []∧(rE n).cd=oo []∧(rE n).qT=ot []∧(rE n).cut=ou [([1,1],[0])]∧(rE n).n=n∧(rE n).out=pW Tryd.prog [.tmp 2] (YJ 112 (tyP cS))∧(rE n).qZ=nj []:=⟨rfl,rfl,rfl,rfl,rfl,rfl,rfl,rfl⟩
theorem MK (n:Nat):(rE n).body=(Tryd.f108.body).getD .skip:=rfl
noncomputable def Gv (n:Nat):{B:Str→Option Str // ∀ (a0:Str),run (rE n) [.at []] {slots:=[sD.enc a0]++iI (4-[sD.enc a0].length) qA,heap:=[]}=B a0}:=by
 apply iJ
 intro a0
 simp (config:={maxSteps:=100000000}) only[go_sem,iz,iA,iq,ir,iB,iC,iE,iF,iG,iy,iD,iH,MJ,MK,Tryd.f108,iw,mixed]
 exact rfl
noncomputable def DP:Nat→Str→Option Str
 |0,_=>none
 |n+1,a0=>(Gv n).1 a0
theorem LG: ∀ (n:Nat) (a0:Str) (r:Str),DP n a0=some r→xS Tryd.prog 108 [sD.enc a0] (fun v=>v=(YJ 112 (tyP cS)).enc r)
 |0,_,_,h=>by cases h
 |n+1,a0,r,h=>by
  exact pL (M:=rE n) ⟨mY,mZ,nH _,nI _,oh,oH,oV,oG⟩ Tryd.func108 rfl rfl ⟨sD.nb 0 _,trivial⟩ Tryd.ntmps108 Tryd.results108 (fun σ hs=>pz (P:=Tryd.prog) (rs:=[.tmp 2]) (t:=(YJ 112 (tyP cS))) (σ:=σ) (r:=r) hs) (((Gv n).2 a0).trans h)
noncomputable def n8:xl:=(lkAt [] (sub [0,1,0,1,1] ((Tryd.f97.body).getD .skip)))
theorem vA:n8.ps.size=1∧ ∀j:Int,sH n8.js j=none:=⟨by kernel_rfl,fun j=>(by show sH [] j=none;unfold sH lookJ;cases (j==0)<;>rfl)⟩
noncomputable def nA:OL Ts:=(sZ (ogL0 n8 (alZ (tI 1 (Y5 7 pP)))) (sZ (BF (xg 2 pP)) (sZ K1 wX)))
noncomputable def pG:OL Tf:=(sZ (ogL n8 (alZ (tI 1 (Y5 7 pP)))) (sZ (BF (xg 2 pP)) (sZ K1 wX)))
noncomputable def oX (n:Nat):pO TD where
 body:= .seq (asgnC (sub [0,1,0,1,1] ((Tryd.f97.body).getD .skip))) (bdyC (sub [0,1,0,1,1] ((Tryd.f97.body).getD .skip)))
 P:=Tryd.prog
 cl:=om []
 cd:=oo []
 qT:=ot []
 cut:=ou []
 n:=n
 out:=(fun _=>none)
 pW:=outRd [] [] [0,1,2] 3 pG
 qZ:=nj []
theorem FL (n:Nat):(oX n).P=Tryd.prog∧(oX n).cl=om []∧(oX n).cd=oo []∧(oX n).qT=ot []∧(oX n).cut=ou []∧(oX n).n=n∧(oX n).out=(fun _=>none)∧(oX n).pW=outRd [] [] [0,1,2] 3 pG∧(oX n).qZ=nj []:=⟨rfl,rfl,rfl,rfl,rfl,rfl,rfl,rfl,rfl⟩
theorem FM (n:Nat):(oX n).body= .seq (asgnC (sub [0,1,0,1,1] ((Tryd.f97.body).getD .skip))) (bdyC (sub [0,1,0,1,1] ((Tryd.f97.body).getD .skip))):=rfl
theorem FN:Code.seq (asgnC (sub [0,1,0,1,1] ((Tryd.f97.body).getD .skip))) (bdyC (sub [0,1,0,1,1] ((Tryd.f97.body).getD .skip)))=Code.seq n8.assign n8.body:=by kernel_rfl
noncomputable def Ar (n:Nat):{B:Str→T4→Option TD // ∀ (a0:Str) (o0:T4),run (oX n) [.at [0],.rb,.at [1],.rd] {slots:=KZ ((alZ (tI 1 (Y5 7 pP))).enc (nA.lens ((),(),o0,())) ()) [5] ((qy sD pP).enc (nA.lens ((),(),o0,())) (a0,())),heap:=(nA.enc (nA.lens ((),(),o0,())) ((),(),o0,())),low:=(nA.enc (nA.lens ((),(),o0,())) ((),(),o0,())).length}=B a0 o0}:=by
 apply iJ
 intro a0 o0
 simp (config:={maxSteps:=100000000}) only[go_sem,iz,iA,iq,ir,iB,iC,iE,iF,iG,iy,iD,iH,FL,FM,Tryd.f97,iw,mixed,nA,pG,vA]
 exact rfl
noncomputable def xG:Nat→Str→T4→Option TD
 |0,_,_=>none
 |n+1,a0,o0=>(Ar n).1 a0 o0
theorem E0: ∀ (n:Nat) (a0:Str) (o0:T4) (r:TD),xG n a0 o0=some r→XY Tryd.prog (Nx Tryd.prog) ((qy sD pP).enc (nA.lens ((),(),o0,())) (a0,())) (nA.enc (nA.lens ((),(),o0,())) ((),(),o0,())) (fun o H'=>o= .ret (uR ((qy pe pP).enc (pG.lens r.1) r.2))∧H'=pG.enc (pG.lens r.1) r.1)
 |0,_,_,_,h=>by cases h
 |n+1,a0,o0,r,h=>by
  exact fnT_run (M:=oX n) (lk:=n8) (slots:=((alZ (tI 1 (Y5 7 pP))).enc (nA.lens ((),(),o0,())) ())) ⟨mY,mZ,nH _,nI _,oh,oH,oV,oG⟩ FN (by kernel_rfl) ⟨by kernel_rfl,by kernel_rfl⟩ rfl (sE (iK (of_decide_eq_true (by kernel_rfl)) (iL (nA.sz _ _).symm)) _ ((qy sD pP).nb _ _)) (fun x hx=>tN (iK (of_decide_eq_true (by kernel_rfl)) (iL (nA.sz _ _).symm)) _ (nA.nb _ _ x hx)) (fun e σ hs=>outRd_ok (js:=[]) (pos:=[]) (base:=[0,1,2]) (low:=3) (os:=pG) (e:=e) (σ:=σ) (r:=r) (by rfl) hs) (((Ar n).2 a0 o0).trans h)
end Go.Abs
namespace Go.Abs
open Go.Proofs
set_option maxRecDepth 100000
set_option maxHeartbeats 4000000
noncomputable def vI:Nrm:=⟨[],[],[zK,zA,zA,zA,zA,zA,zA,zA,zA,zK,zK,zA,zK,zA,zA,zA,zA,zA,zA,zA,zA,zA,zA,zA,zA,zA,zA,zA,zA,zA,zA,zA,zA,zA,zA,zA,zA,zA,zA,zA,zA,zA,zA,zA,zA,zA,zA,zA,zA,zA,zA,zA,zA,zA,zA,zA,zA,zA,zA,zA,zA,zA,zA,zA,zA,zA,zA,zA,zA,zA,zA,zA,zA,zA,zA,zA,zA,zA,zA,zA,zA,zA,zA,zA,zA,zA,zA,zA,zA,zA,zA,zA,zA,zA,zA,zA,zA,zA,zA,zA,zA,zA,zA,zA,zA,zA],[oA p8],none,none⟩
noncomputable def vJ:Nrm:=⟨[],[],[zK,zA,zA,zA,zA,zA,zA,zA,zA,zK,zK,zK,zK,zA,zA,zA,zA,zA,zA,zA,zA,zA,zA,zA,zA,zA,zA,zA,zA,zA,zA,zA,zA,zA,zA,zA,zA,zA,zA,zA,zA,zA,zA,zA,zA,zA,zA,zA,zA,zA,zA,zA,zA,zA,zA,zA,zA,zA,zA,zA,zA,zA,zA,zA,zA,zA,zA,zA,zA,zA,zA,zA,zA,zA,zA,zA,zA,zA,zA,zA,zA,zA,zA,zA,zA,zA,zA,zA,zA,zA,zA,zA,zA,zA,zA,zA,zA,zA,zA,zA,zA,zA,zA,zA,zA,zA],[oA p8],none,none⟩
noncomputable def vK:Nrm:=⟨[],[],[zK,zA,zA,zA,zA,zA,zA,zA,zA,zK,zK,zA,zK,zA,zA,zA,zA,zA,zA,zA,zA,zA,zA,zA,zA,zA,zA,zA,zA,zA,zA,zA,zA,zA,zA,zA,zA,zA,zA,zA,zA,zA,zA,zA,zA,zA,zA,zA,zA,zA,zA,zA,zA,zA,zA,zA,zA,zA,zA,zA,zA,zA,zA,zA,zA,zA,zA,zA,zA,zA,zA,zA,zA,zA,zA,zA,zA,zA,zA,zA,zA,zA,zA,zA,zA,zA,zA,zA,zA,zA,zA,zA,zA,zA,zA,zA,zA,zA,zA,zA,zA,zA,zA,zA,zA,zA],[oA p8],none,none⟩
noncomputable def vL:Nrm:=⟨[],[],[zK,zA,zA,zK,zK,zK,zK,zA,zA,zA,zA,zA,zA,zA,zA,zA,zA,zA,zA,zA,zA,zA,zA,zA,zA,zA,zA,zA,zA,zA,zA,zA,zA,zA,zA,zA,zA,zA,zA,zA,zA,zA,zA,zA,zA,zA,zA,zA,zA,zA,zA,zA,zA,zA,zA,zA,zA,zA,zA,zA,zA,zA,zA,zA,zA,zA,zA,zA,zA,zA,zA,zA,zA,zA,zA,zA,zA,zA,zA,zA,zA,zA,zA,zA,zA,zA,zA,zA,zA,zA,zA,zA,zA,zA,zA,zA,zA,zA,zA,zA,zA,zA,zA,zA,zA,zA],[],none,none⟩
noncomputable def oP (n:Nat):pO (List Str) where
 body:=(Tryd.f99.body).getD .skip
 P:=Tryd.prog
 cl:=om []
 cd:=oo []
 qT:=ot [([0,0,1,1,1,1,0,1,0,0,0,1,1,1,1,1,1,1,1,1,1,1,1],vI),([0,0,1,1,1,1,1,1,1,1,1,1,1,1],vJ),([0,0,1,1,1,1,1,1,1,1,1,1],vK),([0,1,0,1,1,1,1],vL)]
 cut:=ou []
 n:=n
 out:=pW Tryd.prog [.tmp 2] (oa p8)
 qZ:=nj []
theorem z1 (n:Nat):(oP n).P=Tryd.prog∧(oP n).cl=om []∧(oP n).cd=oo []∧(oP n).qT=ot [([0,0,1,1,1,1,0,1,0,0,0,1,1,1,1,1,1,1,1,1,1,1,1],vI),([0,0,1,1,1,1,1,1,1,1,1,1,1,1],vJ),([0,0,1,1,1,1,1,1,1,1,1,1],vK),([0,1,0,1,1,1,1],vL)]∧(oP n).cut=ou []∧(oP n).n=n∧(oP n).out=pW Tryd.prog [.tmp 2] (oa p8)∧(oP n).qZ=nj []:=⟨rfl,rfl,rfl,rfl,rfl,rfl,rfl,rfl⟩
theorem z6 (n:Nat):(oP n).body=(Tryd.f99.body).getD .skip:=rfl
noncomputable def HT (n:Nat):{B:TA→TF→Str→Int→Int→(List Str)→Option (List Str) // ∀m2 X2 m X0,(∀ (v0:Str) (v1:Int) (v2:Int) (v3:Int) (r0:List Str) (c0:Nat),c0=r0.length→run (oP n) [.lq m2 [0,0,1,1,1,1,1,1,1,1,1,1,1,1],.qC 4,.cut [1,1,1,1,1,1,1,1,1,1,1,1,1],.at [1,1,1,1,1,1,1,1,1,1,1,1,1]] ⟨[.str (sb v0),qA,qA,qA,qA,qA,qA,qA,qA,.acc 0 c0,.int .i64 v1,.int .i64 v2,.int .i64 v3,qA,qA,qA,qA,qA,qA,qA,qA,qA,qA,qA,qA,qA,qA,qA,qA,qA,qA,qA,qA,qA,qA,qA,qA,qA,qA,qA,qA,qA,qA,qA,qA,qA,qA,qA,qA,qA,qA,qA,qA,qA,qA,qA,qA,qA,qA,qA,qA,qA,qA,qA,qA,qA,qA,qA,qA,qA,qA,qA,qA,qA,qA,qA,qA,qA,qA,qA,qA,qA,qA,qA,qA,qA,qA,qA,qA,qA,qA,qA,qA,qA,qA,qA,qA,qA,qA,qA,qA,qA,qA,qA,qA,qA],[.acc false 1 (mp n4 r0)],0,[]⟩=X2 v0 v1 v2 v3 r0)→(∀ (v0:Str) (v1:Int) (v2:Int) (r0:List Str) (c0:Nat),c0=r0.length→run (oP n) [.lq m [0,0,1,1,1,1,0,1,0,0,0,1,1,1,1,1,1,1,1,1,1,1,1],.qC 6,.cut [1,1,1,1,1,0,1,0,0,0,1,1,1,1,1,1,1,1,1,1,1,1],.at [1,1,1,1,1,0,1,0,0,0,1,1,1,1,1,1,1,1,1,1,1,1],.qC 5,.lp m2 [0,0,1,1,1,1,1,1,1,1,1,1,1,1],.qC 4,.cut [1,1,1,1,1,1,1,1,1,1,1,1,1],.at [1,1,1,1,1,1,1,1,1,1,1,1,1]] ⟨[.str (sb v0),qA,qA,qA,qA,qA,qA,qA,qA,.acc 0 c0,.int .i64 v1,qA,.int .i64 v2,qA,qA,qA,qA,qA,qA,qA,qA,qA,qA,qA,qA,qA,qA,qA,qA,qA,qA,qA,qA,qA,qA,qA,qA,qA,qA,qA,qA,qA,qA,qA,qA,qA,qA,qA,qA,qA,qA,qA,qA,qA,qA,qA,qA,qA,qA,qA,qA,qA,qA,qA,qA,qA,qA,qA,qA,qA,qA,qA,qA,qA,qA,qA,qA,qA,qA,qA,qA,qA,qA,qA,qA,qA,qA,qA,qA,qA,qA,qA,qA,qA,qA,qA,qA,qA,qA,qA,qA,qA,qA,qA,qA,qA],[.acc false 1 (mp n4 r0)],0,[]⟩=X0 v0 v1 v2 r0)→ ∀ (v0:Str) (v1:Int) (v2:Int) (r0:List Str),run (oP n) [.at [0,0,0,1,1,1,1,0,1,0,0,0,1,1,1,1,1,1,1,1,1,1,1,1],.lp m [0,0,1,1,1,1,0,1,0,0,0,1,1,1,1,1,1,1,1,1,1,1,1],.qC 6,.cut [1,1,1,1,1,0,1,0,0,0,1,1,1,1,1,1,1,1,1,1,1,1],.at [1,1,1,1,1,0,1,0,0,0,1,1,1,1,1,1,1,1,1,1,1,1],.qC 5,.lp m2 [0,0,1,1,1,1,1,1,1,1,1,1,1,1],.qC 4,.cut [1,1,1,1,1,1,1,1,1,1,1,1,1],.at [1,1,1,1,1,1,1,1,1,1,1,1,1]] ⟨[.str (sb v0),qA,qA,qA,qA,qA,qA,qA,qA,.acc 0 r0.length,.int .i64 v1,qA,.int .i64 v2,qA,qA,qA,qA,qA,qA,qA,qA,qA,qA,qA,qA,qA,qA,qA,qA,qA,qA,qA,qA,qA,qA,qA,qA,qA,qA,qA,qA,qA,qA,qA,qA,qA,qA,qA,qA,qA,qA,qA,qA,qA,qA,qA,qA,qA,qA,qA,qA,qA,qA,qA,qA,qA,qA,qA,qA,qA,qA,qA,qA,qA,qA,qA,qA,qA,qA,qA,qA,qA,qA,qA,qA,qA,qA,qA,qA,qA,qA,qA,qA,qA,qA,qA,qA,qA,qA,qA,qA,qA,qA,qA,qA,qA],[.acc false 1 (mp n4 r0)],0,[]⟩=B X2 X0 v0 v1 v2 r0}:=by
 apply iJ
 intro m2 X2 m X0 h2 ih v0 v1 v2 r0
 simp (config:={maxSteps:=100000000}) only[go_sem,iz,iA,iq,ir,iB,iC,iE,iF,iG,iy,iD,iH,z1,z6,Tryd.f99,iw,mixed,vI,vJ,vK,vL,h2,ih]
 exact rfl
noncomputable def HU (n:Nat) (X2:Str→Int→Int→Int→(List Str)→Option (List Str)):Nat→Str→Int→Int→(List Str)→Option (List Str)
 |0,_,_,_,_=>none
 |m+1,v0,v1,v2,r0=>(HT n).1 X2 (HU n X2 m) v0 v1 v2 r0
theorem FO (n:Nat) (m2:Nat) (X2:Str→Int→Int→Int→(List Str)→Option (List Str)) (h2:(∀ (v0:Str) (v1:Int) (v2:Int) (v3:Int) (r0:List Str) (c0:Nat),c0=r0.length→run (oP n) [.lq m2 [0,0,1,1,1,1,1,1,1,1,1,1,1,1],.qC 4,.cut [1,1,1,1,1,1,1,1,1,1,1,1,1],.at [1,1,1,1,1,1,1,1,1,1,1,1,1]] ⟨[.str (sb v0),qA,qA,qA,qA,qA,qA,qA,qA,.acc 0 c0,.int .i64 v1,.int .i64 v2,.int .i64 v3,qA,qA,qA,qA,qA,qA,qA,qA,qA,qA,qA,qA,qA,qA,qA,qA,qA,qA,qA,qA,qA,qA,qA,qA,qA,qA,qA,qA,qA,qA,qA,qA,qA,qA,qA,qA,qA,qA,qA,qA,qA,qA,qA,qA,qA,qA,qA,qA,qA,qA,qA,qA,qA,qA,qA,qA,qA,qA,qA,qA,qA,qA,qA,qA,qA,qA,qA,qA,qA,qA,qA,qA,qA,qA,qA,qA,qA,qA,qA,qA,qA,qA,qA,qA,qA,qA,qA,qA,qA,qA,qA,qA,qA],[.acc false 1 (mp n4 r0)],0,[]⟩=X2 v0 v1 v2 v3 r0)): ∀ (m:Nat),(∀ (v0:Str) (v1:Int) (v2:Int) (r0:List Str) (c0:Nat),c0=r0.length→run (oP n) [.lq m [0,0,1,1,1,1,0,1,0,0,0,1,1,1,1,1,1,1,1,1,1,1,1],.qC 6,.cut [1,1,1,1,1,0,1,0,0,0,1,1,1,1,1,1,1,1,1,1,1,1],.at [1,1,1,1,1,0,1,0,0,0,1,1,1,1,1,1,1,1,1,1,1,1],.qC 5,.lp m2 [0,0,1,1,1,1,1,1,1,1,1,1,1,1],.qC 4,.cut [1,1,1,1,1,1,1,1,1,1,1,1,1],.at [1,1,1,1,1,1,1,1,1,1,1,1,1]] ⟨[.str (sb v0),qA,qA,qA,qA,qA,qA,qA,qA,.acc 0 c0,.int .i64 v1,qA,.int .i64 v2,qA,qA,qA,qA,qA,qA,qA,qA,qA,qA,qA,qA,qA,qA,qA,qA,qA,qA,qA,qA,qA,qA,qA,qA,qA,qA,qA,qA,qA,qA,qA,qA,qA,qA,qA,qA,qA,qA,qA,qA,qA,qA,qA,qA,qA,qA,qA,qA,qA,qA,qA,qA,qA,qA,qA,qA,qA,qA,qA,qA,qA,qA,qA,qA,qA,qA,qA,qA,qA,qA,qA,qA,qA,qA,qA,qA,qA,qA,qA,qA,qA,qA,qA,qA,qA,qA,qA,qA,qA,qA,qA,qA,qA],[.acc false 1 (mp n4 r0)],0,[]⟩=HU n X2 m v0 v1 v2 r0)
 |0=>by intros;exact nk
 |m+1=>by
  have ih:=FO n m2 X2 h2 m
  intro v0 v1 v2 r0 c0 ec0
  subst ec0
  rw[nq]
  exact (HT n).2 m2 X2 m _ h2 ih v0 v1 v2 r0
noncomputable def HV (n:Nat):{B:TA→Str→Int→Int→Int→(List Str)→Option (List Str) // ∀m X0,(∀ (v0:Str) (v1:Int) (v2:Int) (v3:Int) (r0:List Str) (c0:Nat),c0=r0.length→run (oP n) [.lq m [0,0,1,1,1,1,1,1,1,1,1,1,1,1],.qC 4,.cut [1,1,1,1,1,1,1,1,1,1,1,1,1],.at [1,1,1,1,1,1,1,1,1,1,1,1,1]] ⟨[.str (sb v0),qA,qA,qA,qA,qA,qA,qA,qA,.acc 0 c0,.int .i64 v1,.int .i64 v2,.int .i64 v3,qA,qA,qA,qA,qA,qA,qA,qA,qA,qA,qA,qA,qA,qA,qA,qA,qA,qA,qA,qA,qA,qA,qA,qA,qA,qA,qA,qA,qA,qA,qA,qA,qA,qA,qA,qA,qA,qA,qA,qA,qA,qA,qA,qA,qA,qA,qA,qA,qA,qA,qA,qA,qA,qA,qA,qA,qA,qA,qA,qA,qA,qA,qA,qA,qA,qA,qA,qA,qA,qA,qA,qA,qA,qA,qA,qA,qA,qA,qA,qA,qA,qA,qA,qA,qA,qA,qA,qA,qA,qA,qA,qA,qA],[.acc false 1 (mp n4 r0)],0,[]⟩=X0 v0 v1 v2 v3 r0)→ ∀ (v0:Str) (v1:Int) (v2:Int) (v3:Int) (r0:List Str),run (oP n) [.at [0,0,0,1,1,1,1,1,1,1,1,1,1,1,1],.lp m [0,0,1,1,1,1,1,1,1,1,1,1,1,1],.qC 4,.cut [1,1,1,1,1,1,1,1,1,1,1,1,1],.at [1,1,1,1,1,1,1,1,1,1,1,1,1]] ⟨[.str (sb v0),qA,qA,qA,qA,qA,qA,qA,qA,.acc 0 r0.length,.int .i64 v1,.int .i64 v2,.int .i64 v3,qA,qA,qA,qA,qA,qA,qA,qA,qA,qA,qA,qA,qA,qA,qA,qA,qA,qA,qA,qA,qA,qA,qA,qA,qA,qA,qA,qA,qA,qA,qA,qA,qA,qA,qA,qA,qA,qA,qA,qA,qA,qA,qA,qA,qA,qA,qA,qA,qA,qA,qA,qA,qA,qA,qA,qA,qA,qA,qA,qA,qA,qA,qA,qA,qA,qA,qA,qA,qA,qA,qA,qA,qA,qA,qA,qA,qA,qA,qA,qA,qA,qA,qA,qA,qA,qA,qA,qA,qA,qA,qA,qA,qA],[.acc false 1 (mp n4 r0)],0,[]⟩=B X0 v0 v1 v2 v3 r0}:=by
 apply iJ
 intro m X0 ih v0 v1 v2 v3 r0
 simp (config:={maxSteps:=100000000}) only[go_sem,iz,iA,iq,ir,iB,iC,iE,iF,iG,iy,iD,iH,z1,z6,Tryd.f99,iw,mixed,vI,vJ,vK,vL,FO n m X0 ih,ih]
 exact rfl
noncomputable def HW (n:Nat):Nat→Str→Int→Int→Int→(List Str)→Option (List Str)
 |0,_,_,_,_,_=>none
 |m+1,v0,v1,v2,v3,r0=>(HV n).1 (HW n m) v0 v1 v2 v3 r0
theorem yX (n:Nat): ∀ (m:Nat),(∀ (v0:Str) (v1:Int) (v2:Int) (v3:Int) (r0:List Str) (c0:Nat),c0=r0.length→run (oP n) [.lq m [0,0,1,1,1,1,1,1,1,1,1,1,1,1],.qC 4,.cut [1,1,1,1,1,1,1,1,1,1,1,1,1],.at [1,1,1,1,1,1,1,1,1,1,1,1,1]] ⟨[.str (sb v0),qA,qA,qA,qA,qA,qA,qA,qA,.acc 0 c0,.int .i64 v1,.int .i64 v2,.int .i64 v3,qA,qA,qA,qA,qA,qA,qA,qA,qA,qA,qA,qA,qA,qA,qA,qA,qA,qA,qA,qA,qA,qA,qA,qA,qA,qA,qA,qA,qA,qA,qA,qA,qA,qA,qA,qA,qA,qA,qA,qA,qA,qA,qA,qA,qA,qA,qA,qA,qA,qA,qA,qA,qA,qA,qA,qA,qA,qA,qA,qA,qA,qA,qA,qA,qA,qA,qA,qA,qA,qA,qA,qA,qA,qA,qA,qA,qA,qA,qA,qA,qA,qA,qA,qA,qA,qA,qA,qA,qA,qA,qA,qA,qA],[.acc false 1 (mp n4 r0)],0,[]⟩=HW n m v0 v1 v2 v3 r0)
 |0=>by intros;exact nk
 |m+1=>by
  have ih:=yX n m
  intro v0 v1 v2 v3 r0 c0 ec0
  subst ec0
  rw[nq]
  exact (HV n).2 m _ ih v0 v1 v2 v3 r0
noncomputable def HX (n:Nat):{B:TF→Str→Int→Int→(List Str)→Option (List Str) // ∀m X0,(∀ (v0:Str) (v1:Int) (v2:Int) (r0:List Str) (c0:Nat),c0=r0.length→run (oP n) [.lq m [0,0,1,1,1,1,1,1,1,1,1,1],.qC 2,.cut [1,1,1,1,1,1,1,1,1,1,1],.at [1,1,1,1,1,1,1,1,1,1,1]] ⟨[.str (sb v0),qA,qA,qA,qA,qA,qA,qA,qA,.acc 0 c0,.int .i64 v1,qA,.int .i64 v2,qA,qA,qA,qA,qA,qA,qA,qA,qA,qA,qA,qA,qA,qA,qA,qA,qA,qA,qA,qA,qA,qA,qA,qA,qA,qA,qA,qA,qA,qA,qA,qA,qA,qA,qA,qA,qA,qA,qA,qA,qA,qA,qA,qA,qA,qA,qA,qA,qA,qA,qA,qA,qA,qA,qA,qA,qA,qA,qA,qA,qA,qA,qA,qA,qA,qA,qA,qA,qA,qA,qA,qA,qA,qA,qA,qA,qA,qA,qA,qA,qA,qA,qA,qA,qA,qA,qA,qA,qA,qA,qA,qA,qA],[.acc false 1 (mp n4 r0)],0,[]⟩=X0 v0 v1 v2 r0)→ ∀ (v0:Str) (v1:Int) (v2:Int) (r0:List Str),run (oP n) [.at [0,0,0,1,1,1,1,1,1,1,1,1,1],.lp m [0,0,1,1,1,1,1,1,1,1,1,1],.qC 2,.cut [1,1,1,1,1,1,1,1,1,1,1],.at [1,1,1,1,1,1,1,1,1,1,1]] ⟨[.str (sb v0),qA,qA,qA,qA,qA,qA,qA,qA,.acc 0 r0.length,.int .i64 v1,qA,.int .i64 v2,qA,qA,qA,qA,qA,qA,qA,qA,qA,qA,qA,qA,qA,qA,qA,qA,qA,qA,qA,qA,qA,qA,qA,qA,qA,qA,qA,qA,qA,qA,qA,qA,qA,qA,qA,qA,qA,qA,qA,qA,qA,qA,qA,qA,qA,qA,qA,qA,qA,qA,qA,qA,qA,qA,qA,qA,qA,qA,qA,qA,qA,qA,qA,qA,qA,qA,qA,qA,qA,qA,qA,qA,qA,qA,qA,qA,qA,qA,qA,qA,qA,qA,qA,qA,qA,qA,qA,qA,qA,qA,qA,qA,qA],[.acc false 1 (mp n4 r0)],0,[]⟩=B X0 v0 v1 v2 r0}:=by
 apply iJ
 intro m X0 ih v0 v1 v2 r0
 simp (config:={maxSteps:=100000000}) only[go_sem,iz,iA,iq,ir,iB,iC,iE,iF,iG,iy,iD,iH,z1,z6,Tryd.f99,iw,mixed,vI,vJ,vK,vL,yX n,ih]
 exact rfl
noncomputable def HY (n:Nat):Nat→Str→Int→Int→(List Str)→Option (List Str)
 |0,_,_,_,_=>none
 |m+1,v0,v1,v2,r0=>(HX n).1 (HY n m) v0 v1 v2 r0
theorem BI (n:Nat): ∀ (m:Nat),(∀ (v0:Str) (v1:Int) (v2:Int) (r0:List Str) (c0:Nat),c0=r0.length→run (oP n) [.lq m [0,0,1,1,1,1,1,1,1,1,1,1],.qC 2,.cut [1,1,1,1,1,1,1,1,1,1,1],.at [1,1,1,1,1,1,1,1,1,1,1]] ⟨[.str (sb v0),qA,qA,qA,qA,qA,qA,qA,qA,.acc 0 c0,.int .i64 v1,qA,.int .i64 v2,qA,qA,qA,qA,qA,qA,qA,qA,qA,qA,qA,qA,qA,qA,qA,qA,qA,qA,qA,qA,qA,qA,qA,qA,qA,qA,qA,qA,qA,qA,qA,qA,qA,qA,qA,qA,qA,qA,qA,qA,qA,qA,qA,qA,qA,qA,qA,qA,qA,qA,qA,qA,qA,qA,qA,qA,qA,qA,qA,qA,qA,qA,qA,qA,qA,qA,qA,qA,qA,qA,qA,qA,qA,qA,qA,qA,qA,qA,qA,qA,qA,qA,qA,qA,qA,qA,qA,qA,qA,qA,qA,qA,qA],[.acc false 1 (mp n4 r0)],0,[]⟩=HY n m v0 v1 v2 r0)
 |0=>by intros;exact nk
 |m+1=>by
  have ih:=BI n m
  intro v0 v1 v2 r0 c0 ec0
  subst ec0
  rw[nq]
  exact (HX n).2 m _ ih v0 v1 v2 r0
noncomputable def HZ (n:Nat):{B:(Str→Int→Int→Int→Int→Option (List Str))→Str→Int→Int→Int→Int→Option (List Str) // ∀m X0,(∀ (v0:Str) (v1:Int) (v2:Int) (v3:Int) (v4:Int),run (oP n) [.lq m [0,1,0,1,1,1,1],.qC 0,.cut [1,1,1,1,1],.at [1,1,1,1,1]] ⟨[.str (sb v0),qA,qA,.int .i64 v1,.int .i64 v2,.int .u8 v3,.int .i64 v4,qA,qA,qA,qA,qA,qA,qA,qA,qA,qA,qA,qA,qA,qA,qA,qA,qA,qA,qA,qA,qA,qA,qA,qA,qA,qA,qA,qA,qA,qA,qA,qA,qA,qA,qA,qA,qA,qA,qA,qA,qA,qA,qA,qA,qA,qA,qA,qA,qA,qA,qA,qA,qA,qA,qA,qA,qA,qA,qA,qA,qA,qA,qA,qA,qA,qA,qA,qA,qA,qA,qA,qA,qA,qA,qA,qA,qA,qA,qA,qA,qA,qA,qA,qA,qA,qA,qA,qA,qA,qA,qA,qA,qA,qA,qA,qA,qA,qA,qA],[],0,[]⟩=X0 v0 v1 v2 v3 v4)→ ∀ (v0:Str) (v1:Int) (v2:Int) (v3:Int) (v4:Int),run (oP n) [.at [0,0,1,0,1,1,1,1],.lp m [0,1,0,1,1,1,1],.qC 0,.cut [1,1,1,1,1],.at [1,1,1,1,1]] ⟨[.str (sb v0),qA,qA,.int .i64 v1,.int .i64 v2,.int .u8 v3,.int .i64 v4,qA,qA,qA,qA,qA,qA,qA,qA,qA,qA,qA,qA,qA,qA,qA,qA,qA,qA,qA,qA,qA,qA,qA,qA,qA,qA,qA,qA,qA,qA,qA,qA,qA,qA,qA,qA,qA,qA,qA,qA,qA,qA,qA,qA,qA,qA,qA,qA,qA,qA,qA,qA,qA,qA,qA,qA,qA,qA,qA,qA,qA,qA,qA,qA,qA,qA,qA,qA,qA,qA,qA,qA,qA,qA,qA,qA,qA,qA,qA,qA,qA,qA,qA,qA,qA,qA,qA,qA,qA,qA,qA,qA,qA,qA,qA,qA,qA,qA,qA],[],0,[]⟩=B X0 v0 v1 v2 v3 v4}:=by
 apply iJ
 intro m X0 ih v0 v1 v2 v3 v4
 simp (config:={maxSteps:=100000000}) only[go_sem,iz,iA,iq,ir,iB,iC,iE,iF,iG,iy,iD,iH,z1,z6,Tryd.f99,iw,mixed,vI,vJ,vK,vL,yX n,BI n,ih]
 exact rfl
noncomputable def H6 (n:Nat):Nat→Str→Int→Int→Int→Int→Option (List Str)
 |0,_,_,_,_,_=>none
 |m+1,v0,v1,v2,v3,v4=>(HZ n).1 (H6 n m) v0 v1 v2 v3 v4
theorem FP (n:Nat): ∀ (m:Nat),(∀ (v0:Str) (v1:Int) (v2:Int) (v3:Int) (v4:Int),run (oP n) [.lq m [0,1,0,1,1,1,1],.qC 0,.cut [1,1,1,1,1],.at [1,1,1,1,1]] ⟨[.str (sb v0),qA,qA,.int .i64 v1,.int .i64 v2,.int .u8 v3,.int .i64 v4,qA,qA,qA,qA,qA,qA,qA,qA,qA,qA,qA,qA,qA,qA,qA,qA,qA,qA,qA,qA,qA,qA,qA,qA,qA,qA,qA,qA,qA,qA,qA,qA,qA,qA,qA,qA,qA,qA,qA,qA,qA,qA,qA,qA,qA,qA,qA,qA,qA,qA,qA,qA,qA,qA,qA,qA,qA,qA,qA,qA,qA,qA,qA,qA,qA,qA,qA,qA,qA,qA,qA,qA,qA,qA,qA,qA,qA,qA,qA,qA,qA,qA,qA,qA,qA,qA,qA,qA,qA,qA,qA,qA,qA,qA,qA,qA,qA,qA,qA],[],0,[]⟩=H6 n m v0 v1 v2 v3 v4)
 |0=>by intros;exact nk
 |m+1=>by
  have ih:=FP n m
  intro v0 v1 v2 v3 v4
  rw[nq]
  exact (HZ n).2 m _ ih v0 v1 v2 v3 v4
noncomputable def JC (n:Nat):{B:Str→Option (List Str) // ∀ (a0:Str),run (oP n) [.at []] {slots:=[sD.enc a0]++iI (106-[sD.enc a0].length) qA,heap:=[]}=B a0}:=by
 apply iJ
 intro a0
 simp (config:={maxSteps:=100000000}) only[go_sem,iz,iA,iq,ir,iB,iC,iE,iF,iG,iy,iD,iH,z1,z6,Tryd.f99,iw,mixed,vI,vJ,vK,vL,yX n,BI n,FP n]
 exact rfl
noncomputable def G4:Nat→Str→Option (List Str)
 |0,_=>none
 |n+1,a0=>(JC n).1 a0
theorem OA: ∀ (n:Nat) (a0:Str) (r:(List Str)),G4 n a0=some r→xS Tryd.prog 99 [sD.enc a0] (fun v=>v=(oa p8).enc r)
 |0,_,_,h=>by cases h
 |n+1,a0,r,h=>by
  exact pL (M:=oP n) ⟨mY,mZ,nH _,nI _,oh,oH,oV,oG⟩ Tryd.func99 rfl rfl ⟨sD.nb 0 _,trivial⟩ Tryd.ntmps99 Tryd.results99 (fun σ hs=>pz (P:=Tryd.prog) (rs:=[.tmp 2]) (t:=(oa p8)) (σ:=σ) (r:=r) hs) (((JC n).2 a0).trans h)
noncomputable def sM (n:Nat):pO Bool where
 body:=(Tryd.f44.body).getD .skip
 P:=Tryd.prog
 cl:=om []
 cd:=oo []
 qT:=ot []
 cut:=ou []
 n:=n
 out:=pW Tryd.prog [.tmp 2] pe
 qZ:=nj []
theorem PC (n:Nat):(sM n).P=Tryd.prog∧(sM n).cl=om []∧(sM n).cd=oo []∧(sM n).qT=ot []∧(sM n).cut=ou []∧(sM n).n=n∧(sM n).out=pW Tryd.prog [.tmp 2] pe∧(sM n).qZ=nj []:=⟨rfl,rfl,rfl,rfl,rfl,rfl,rfl,rfl⟩
theorem PD (n:Nat):(sM n).body=(Tryd.f44.body).getD .skip:=rfl
noncomputable def E3 (n:Nat):{B:Notation→Option Bool // ∀ (a0:Notation),run (sM n) [.at []] {slots:=[(nF Notation.cel).enc a0]++iI (12-[(nF Notation.cel).enc a0].length) qA,heap:=[]}=B a0}:=by
 apply iJ
 intro a0
 simp (config:={maxSteps:=100000000}) only[go_sem,iz,iA,iq,ir,iB,iC,iE,iF,iG,iy,iD,iH,PC,PD,Tryd.f44,iw,mixed]
 exact rfl
noncomputable def sN:Nat→Notation→Option Bool
 |0,_=>none
 |n+1,a0=>(E3 n).1 a0
theorem yY: ∀ (n:Nat) (a0:Notation) (r:Bool),sN n a0=some r→xS Tryd.prog 44 [(nF Notation.cel).enc a0] (fun v=>v=pe.enc r)
 |0,_,_,h=>by cases h
 |n+1,a0,r,h=>by
  exact pL (M:=sM n) ⟨mY,mZ,nH _,nI _,oh,oH,oV,oG⟩ Tryd.func44 rfl rfl ⟨(nF Notation.cel).nb 0 _,trivial⟩ Tryd.ntmps44 Tryd.results44 (fun σ hs=>pz (P:=Tryd.prog) (rs:=[.tmp 2]) (t:=pe) (σ:=σ) (r:=r) hs) (((E3 n).2 a0).trans h)
noncomputable def u9 (n:Nat):pO Bool where
 body:=(Tryd.f71.body).getD .skip
 P:=Tryd.prog
 cl:=om []
 cd:=oo []
 qT:=ot []
 cut:=ou []
 n:=n
 out:=pW Tryd.prog [.tmp 2] pe
 qZ:=nj []
theorem UH (n:Nat):(u9 n).P=Tryd.prog∧(u9 n).cl=om []∧(u9 n).cd=oo []∧(u9 n).qT=ot []∧(u9 n).cut=ou []∧(u9 n).n=n∧(u9 n).out=pW Tryd.prog [.tmp 2] pe∧(u9 n).qZ=nj []:=⟨rfl,rfl,rfl,rfl,rfl,rfl,rfl,rfl⟩
theorem UI (n:Nat):(u9 n).body=(Tryd.f71.body).getD .skip:=rfl
noncomputable def IJ (n:Nat):{B:Int→Option Bool // ∀ (a0:Int),run (u9 n) [.at []] {slots:=[(o9 .u8).enc a0]++iI (21-[(o9 .u8).enc a0].length) qA,heap:=[]}=B a0}:=by
 apply iJ
 intro a0
 simp (config:={maxSteps:=100000000}) only[go_sem,iz,iA,iq,ir,iB,iC,iE,iF,iG,iy,iD,iH,UH,UI,Tryd.f71,iw,mixed]
 exact rfl
noncomputable def FQ:Nat→Int→Option Bool
 |0,_=>none
 |n+1,a0=>(IJ n).1 a0
theorem SH: ∀ (n:Nat) (a0:Int) (r:Bool),FQ n a0=some r→xS Tryd.prog 71 [(o9 .u8).enc a0] (fun v=>v=pe.enc r)
 |0,_,_,h=>by cases h
 |n+1,a0,r,h=>by
  exact pL (M:=u9 n) ⟨mY,mZ,nH _,nI _,oh,oH,oV,oG⟩ Tryd.func71 rfl rfl ⟨(o9 .u8).nb 0 _,trivial⟩ Tryd.ntmps71 Tryd.results71 (fun σ hs=>pz (P:=Tryd.prog) (rs:=[.tmp 2]) (t:=pe) (σ:=σ) (r:=r) hs) (((IJ n).2 a0).trans h)
noncomputable def xH:Nrm:=⟨[],[],[zT (oa p8),zK,zA,zA,zA,zA,zA,zK,zK,zA,zA,zA,zA,zA,zA,zA,zA,zA,zA],[],none,none⟩
noncomputable def p5 (n:Nat):pO Int where
 body:=(Tryd.f107.body).getD .skip
 P:=Tryd.prog
 cl:=om []
 cd:=oo []
 qT:=ot [([0,1,0,1],xH)]
 cut:=ou []
 n:=n
 out:=pW Tryd.prog [.tmp 4] (o9 .i64)
 qZ:=nj []
theorem EB (n:Nat):(p5 n).P=Tryd.prog∧(p5 n).cl=om []∧(p5 n).cd=oo []∧(p5 n).qT=ot [([0,1,0,1],xH)]∧(p5 n).cut=ou []∧(p5 n).n=n∧(p5 n).out=pW Tryd.prog [.tmp 4] (o9 .i64)∧(p5 n).qZ=nj []:=⟨rfl,rfl,rfl,rfl,rfl,rfl,rfl,rfl⟩
theorem EC (n:Nat):(p5 n).body=(Tryd.f107.body).getD .skip:=rfl
noncomputable def xI (n:Nat):{B:((List Str)→Str→Int→Int→Option Int)→(List Str)→Str→Int→Int→Option Int // ∀m X0,(∀ (v0:List Str) (v1:Str) (v2:Int) (v3:Int),run (p5 n) [.lq m [0,1,0,1],.qC 0,.cut [1,1],.at [1,1]] ⟨[.nE false 1 (mp n4 v0),.str (sb v1),qA,qA,qA,qA,qA,.int .i64 v2,.int .i64 v3,qA,qA,qA,qA,qA,qA,qA,qA,qA,qA],[],0,[]⟩=X0 v0 v1 v2 v3)→ ∀ (v0:List Str) (v1:Str) (v2:Int) (v3:Int),run (p5 n) [.at [0,0,1,0,1],.lp m [0,1,0,1],.qC 0,.cut [1,1],.at [1,1]] ⟨[.nE false 1 (mp n4 v0),.str (sb v1),qA,qA,qA,qA,qA,.int .i64 v2,.int .i64 v3,qA,qA,qA,qA,qA,qA,qA,qA,qA,qA],[],0,[]⟩=B X0 v0 v1 v2 v3}:=by
 apply iJ
 intro m X0 ih v0 v1 v2 v3
 simp (config:={maxSteps:=100000000}) only[go_sem,iz,iA,iq,ir,iB,iC,iE,iF,iG,iy,iD,iH,EB,EC,Tryd.f107,iw,mixed,xH,ih]
 exact rfl
noncomputable def uI (n:Nat):Nat→(List Str)→Str→Int→Int→Option Int
 |0,_,_,_,_=>none
 |m+1,v0,v1,v2,v3=>(xI n).1 (uI n m) v0 v1 v2 v3
theorem Cm (n:Nat): ∀ (m:Nat),(∀ (v0:List Str) (v1:Str) (v2:Int) (v3:Int),run (p5 n) [.lq m [0,1,0,1],.qC 0,.cut [1,1],.at [1,1]] ⟨[.nE false 1 (mp n4 v0),.str (sb v1),qA,qA,qA,qA,qA,.int .i64 v2,.int .i64 v3,qA,qA,qA,qA,qA,qA,qA,qA,qA,qA],[],0,[]⟩=uI n m v0 v1 v2 v3)
 |0=>by intros;exact nk
 |m+1=>by
  have ih:=Cm n m
  intro v0 v1 v2 v3
  rw[nq]
  exact (xI n).2 m _ ih v0 v1 v2 v3
noncomputable def Bd (n:Nat):{B:(List Str)→Str→Option Int // ∀ (a0:(List Str)) (a1:Str),run (p5 n) [.at []] {slots:=[(oa p8).enc a0,sD.enc a1]++iI (19-[(oa p8).enc a0,sD.enc a1].length) qA,heap:=[]}=B a0 a1}:=by
 apply iJ
 intro a0 a1
 simp (config:={maxSteps:=100000000}) only[go_sem,iz,iA,iq,ir,iB,iC,iE,iF,iG,iy,iD,iH,EB,EC,Tryd.f107,iw,mixed,xH,Cm n]
 exact rfl
noncomputable def xw:Nat→(List Str)→Str→Option Int
 |0,_,_=>none
 |n+1,a0,a1=>(Bd n).1 a0 a1
theorem Kq: ∀ (n:Nat) (a0:(List Str)) (a1:Str) (r:Int),xw n a0 a1=some r→xS Tryd.prog 107 [(oa p8).enc a0,sD.enc a1] (fun v=>v=(o9 .i64).enc r)
 |0,_,_,_,h=>by cases h
 |n+1,a0,a1,r,h=>by
  exact pL (M:=p5 n) ⟨mY,mZ,nH _,nI _,oh,oH,oV,oG⟩ Tryd.func107 rfl rfl ⟨(oa p8).nb 0 _,sD.nb 0 _,trivial⟩ Tryd.ntmps107 Tryd.results107 (fun σ hs=>pz (P:=Tryd.prog) (rs:=[.tmp 4]) (t:=(o9 .i64)) (σ:=σ) (r:=r) hs) (((Bd n).2 a0 a1).trans h)
noncomputable def ni:OL T0:=(sZ (BF (tI 1 (qy (oa Syntax.row) (qy (o9 .i64) pP)))) (sZ (BF (xg 2 (xg 3 (xg 4 (qy (o9 .i64) pP))))) (sZ (wh (nF Notation.cel)) (sZ (wh (nF Notation.cel)) (sZ K1 wX)))))
noncomputable def nU:OL T0:=(sZ (BF (tI 1 (qy (oa Syntax.row) (qy (o9 .i64) pP)))) (sZ (BF (xg 2 (xg 3 (xg 4 (qy (o9 .i64) pP))))) (sZ (wh (nF Notation.cel)) (sZ (wh (nF Notation.cel)) (sZ K1 wX)))))
noncomputable def oW (n:Nat):pO (T0×Tt) where
 body:=(Tryd.f80.body).getD .skip
 P:=Tryd.prog
 cl:=om []
 cd:=oo []
 qT:=ot []
 cut:=ou []
 n:=n
 out:=Ca Tryd.prog [.tmp 2,.tmp 3] [] [0,1,2,3,4] 5 nU (qy sD (qy pe pP))
 qZ:=nj []
 Ay:=nj []
 Ax:=nj []
theorem IK (n:Nat):(oW n).P=Tryd.prog∧(oW n).cl=om []∧(oW n).cd=oo []∧(oW n).qT=ot []∧(oW n).cut=ou []∧(oW n).n=n∧(oW n).out=Ca Tryd.prog [.tmp 2,.tmp 3] [] [0,1,2,3,4] 5 nU (qy sD (qy pe pP))∧(oW n).qZ=nj []∧(oW n).Ay=nj []∧(oW n).Ax=nj []:=⟨rfl,rfl,rfl,rfl,rfl,rfl,rfl,rfl,rfl,rfl⟩
theorem IL (n:Nat):(oW n).body=(Tryd.f80.body).getD .skip:=rfl
theorem IM (n:Nat):tY (oW n) [0,0,1]=true∧tY (oW n) [0,1,1]=true:=⟨by kernel_rfl,by kernel_rfl⟩
noncomputable def zk (n:Nat):{B:(List Syntax)→Int→Int→T3→T3→T4→Option (T0×Tt) // ∀ (o0:(List Syntax)) (o1:Int) (o2:Int) (o3:T3) (o4:T3) (o5:T4),run (oW n) [.at []] {slots:=((tI 0 pP).enc (ni.lens ((o0,o1,()),(o2,()),o3,o4,o5,())) ())++iI (39-((tI 0 pP).enc (ni.lens ((o0,o1,()),(o2,()),o3,o4,o5,())) ()).length) qA,heap:=(ni.enc (ni.lens ((o0,o1,()),(o2,()),o3,o4,o5,())) ((o0,o1,()),(o2,()),o3,o4,o5,())),low:=(ni.enc (ni.lens ((o0,o1,()),(o2,()),o3,o4,o5,())) ((o0,o1,()),(o2,()),o3,o4,o5,())).length}=B o0 o1 o2 o3 o4 o5}:=by
 apply iJ
 intro o0 o1 o2 o3 o4 o5
 simp (config:={maxSteps:=100000000}) only[go_sem,iz,iA,iq,ir,iB,iC,iE,iF,iG,iy,iD,iH,IK,IL,Tryd.f80,iw,mixed,ni,nU,IM]
 exact rfl
noncomputable def tA:Nat→(List Syntax)→Int→Int→T3→T3→T4→Option (T0×Tt)
 |0,_,_,_,_,_,_=>none
 |n+1,o0,o1,o2,o3,o4,o5=>(zk n).1 o0 o1 o2 o3 o4 o5
theorem Cn: ∀ (n:Nat) (o0:(List Syntax)) (o1:Int) (o2:Int) (o3:T3) (o4:T3) (o5:T4) (r:(T0×Tt)),tA n o0 o1 o2 o3 o4 o5=some r→Ob Tryd.prog 80 ((tI 0 pP).enc (ni.lens ((o0,o1,()),(o2,()),o3,o4,o5,())) ()) (ni.enc (ni.lens ((o0,o1,()),(o2,()),o3,o4,o5,())) ((o0,o1,()),(o2,()),o3,o4,o5,())) (fun o H'=>o= .ret (uR ((qy sD (qy pe pP)).enc (nU.lens r.1) r.2))∧H'=nU.enc (nU.lens r.1) r.1)
 |0,_,_,_,_,_,_,_,h=>by cases h
 |n+1,o0,o1,o2,o3,o4,o5,r,h=>by
  exact wW (M:=oW n) ⟨mY,mZ,nH _,nI _,oh,oH,oV,oG⟩ Tryd.func80 rfl rfl (sE (iK (of_decide_eq_true (by kernel_rfl)) (iL (ni.sz _ _).symm)) _ ((tI 0 pP).nb _ _)) (fun x hx=>tN (iK (of_decide_eq_true (by kernel_rfl)) (iL (ni.sz _ _).symm)) _ (ni.nb _ _ x hx)) Tryd.ntmps80 Tryd.results80 (fun σ hs=>AA (P:=Tryd.prog) (rs:=[.tmp 2,.tmp 3]) (pos:=[]) (base:=[0,1,2,3,4]) (low:=5) (os:=nU) (s:=(qy sD (qy pe pP))) (σ:=σ) (r:=r) (by rfl) hs) (((zk n).2 o0 o1 o2 o3 o4 o5).trans h)
noncomputable def wI:Nrm:=⟨[],[],[zK,zA,zK,zK,zA,zA,zA,zA,zA,zA,zA,zA,zA,zA,zA,zA,zA,zA,zA,zA,zA,zA,zA,zA,zA,zA,zA,zA],[oA Syntax.row],none,none⟩
noncomputable def m6 (n:Nat):pO (Tm×Unit) where
 body:=(Tryd.f103.body).getD .skip
 P:=Tryd.prog
 cl:=om []
 cd:=oo []
 qT:=ot [([0,1],wI)]
 cut:=ou []
 n:=n
 out:=outG Tryd.prog [] (B9 (NQ false Syntax.row) Ba) Kf 1
 qZ:=nj []
 Ay:=nj []
 Ax:=nj []
theorem Dv (n:Nat):(m6 n).P=Tryd.prog∧(m6 n).cl=om []∧(m6 n).cd=oo []∧(m6 n).qT=ot [([0,1],wI)]∧(m6 n).cut=ou []∧(m6 n).n=n∧(m6 n).out=outG Tryd.prog [] (B9 (NQ false Syntax.row) Ba) Kf 1∧(m6 n).qZ=nj []∧(m6 n).Ay=nj []∧(m6 n).Ax=nj []:=⟨rfl,rfl,rfl,rfl,rfl,rfl,rfl,rfl,rfl,rfl⟩
theorem Dw (n:Nat):(m6 n).body=(Tryd.f103.body).getD .skip:=rfl
theorem Dx (n:Nat):tY (m6 n) [0,0,1,0,0,1]=true:=by kernel_rfl
theorem Dy (n:Nat):sX (m6 n) [0,0,1,0,0,1] 6 13=true∧sX (m6 n) [0,0,1,0,0,1] 7 13=true∧sX (m6 n) [0,0,1,0,0,1] 10 13=true∧sX (m6 n) [0,0,1,0,0,1] 11 13=true∧sX (m6 n) [0,0,1,0,0,1] 12 13=true∧sX (m6 n) [0,0,1,0,0,1] 13 14=true∧sX (m6 n) [0,0,1,0,0,1] 6 15=true∧sX (m6 n) [0,0,1,0,0,1] 7 15=true∧sX (m6 n) [0,0,1,0,0,1] 10 15=true∧sX (m6 n) [0,0,1,0,0,1] 11 15=true∧sX (m6 n) [0,0,1,0,0,1] 12 15=true∧sX (m6 n) [0,0,1,0,0,1] 13 15=true∧sX (m6 n) [0,0,1,0,0,1] 14 15=true:=⟨by kernel_rfl,by kernel_rfl,by kernel_rfl,by kernel_rfl,by kernel_rfl,by kernel_rfl,by kernel_rfl,by kernel_rfl,by kernel_rfl,by kernel_rfl,by kernel_rfl,by kernel_rfl,by kernel_rfl⟩
noncomputable def zl (n:Nat):{B:(Int→Int→(List Syntax)→Option (Tm×Unit))→Int→Int→(List Syntax)→Option (Tm×Unit) // ∀m X0,(∀ (v0:Int) (v1:Int) (r0:List Syntax) (c0:Nat),c0=r0.length→run (m6 n) [.lq m [0,1],.qC 0] ⟨[.acc 0 c0,qA,.int .i64 v0,.int .i64 v1,qA,qA,qA,qA,qA,qA,qA,qA,qA,qA,qA,qA,qA,qA,qA,qA,qA,qA,qA,qA,qA,qA,qA,qA],[.acc false 8 (mp Syntax.cells r0)],1,[]⟩=X0 v0 v1 r0)→ ∀ (v0:Int) (v1:Int) (r0:List Syntax),run (m6 n) [.at [0,0,1],.lp m [0,1],.qC 0] ⟨[.acc 0 r0.length,qA,.int .i64 v0,.int .i64 v1,qA,qA,qA,qA,qA,qA,qA,qA,qA,qA,qA,qA,qA,qA,qA,qA,qA,qA,qA,qA,qA,qA,qA,qA],[.acc false 8 (mp Syntax.cells r0)],1,[]⟩=B X0 v0 v1 r0}:=by
 apply iJ
 intro m X0 ih v0 v1 r0
 simp (config:={maxSteps:=100000000}) only[go_sem,iz,iA,iq,ir,iB,iC,iE,iF,iG,iy,iD,iH,Dv,Dw,Tryd.f103,iw,mixed,Dx,Dy,wI,ih]
 exact rfl
noncomputable def wJ (n:Nat):Nat→Int→Int→(List Syntax)→Option (Tm×Unit)
 |0,_,_,_=>none
 |m+1,v0,v1,r0=>(zl n).1 (wJ n m) v0 v1 r0
theorem Bp (n:Nat): ∀ (m:Nat),(∀ (v0:Int) (v1:Int) (r0:List Syntax) (c0:Nat),c0=r0.length→run (m6 n) [.lq m [0,1],.qC 0] ⟨[.acc 0 c0,qA,.int .i64 v0,.int .i64 v1,qA,qA,qA,qA,qA,qA,qA,qA,qA,qA,qA,qA,qA,qA,qA,qA,qA,qA,qA,qA,qA,qA,qA,qA],[.acc false 8 (mp Syntax.cells r0)],1,[]⟩=wJ n m v0 v1 r0)
 |0=>by intros;exact nk
 |m+1=>by
  have ih:=Bp n m
  intro v0 v1 r0 c0 ec0
  subst ec0
  rw[nq]
  exact (zl n).2 m _ ih v0 v1 r0
noncomputable def z7 (n:Nat):{B:(List Syntax)→Option (Tm×Unit) // ∀ (a0:(List Syntax)),run (m6 n) [.at []] {slots:=((asA 0 (fun (b:Tm)=>b.1.length) Mo).enc (a0,()) ())++iI (28-((asA 0 (fun (b:Tm)=>b.1.length) Mo).enc (a0,()) ()).length) qA,heap:=((B9 (NQ false Syntax.row) Ba).enc (a0,())),low:=((B9 (NQ false Syntax.row) Ba).enc (a0,())).length}=B a0}:=by
 apply iJ
 intro a0
 simp (config:={maxSteps:=100000000}) only[go_sem,iz,iA,iq,ir,iB,iC,iE,iF,iG,iy,iD,iH,Dv,Dw,Tryd.f103,iw,mixed,Dx,Dy,wI,Bp n]
 exact rfl
noncomputable def wj:Nat→(List Syntax)→Option (Tm×Unit)
 |0,_=>none
 |n+1,a0=>(z7 n).1 a0
theorem IN: ∀ (n:Nat) (a0:(List Syntax)) (r:(Tm×Unit)),wj n a0=some r→Ob Tryd.prog 103 ((asA 0 (fun (b:Tm)=>b.1.length) Mo).enc (a0,()) ()) ((B9 (NQ false Syntax.row) Ba).enc (a0,())) (fun o H'=>o= .ret (uR (Kf.enc r.1 r.2))∧H'=(B9 (NQ false Syntax.row) Ba).enc r.1)
 |0,_,_,h=>by cases h
 |n+1,a0,r,h=>by
  exact wW (M:=m6 n) ⟨mY,mZ,nH _,nI _,oh,oH,oV,oG⟩ Tryd.func103 rfl rfl (by simp only[go_sem,iz,iA,iq,ir,iB,iC,iE,iF,iG,iy,iD,iH]) ((B9 (NQ false Syntax.row) Ba).nb _ _) Tryd.ntmps103 Tryd.results103 (fun σ hs=>Ro hs) (((z7 n).2 a0).trans h)
end Go.Abs
namespace Go.Abs
open Go.Proofs
set_option maxRecDepth 100000
set_option maxHeartbeats 4000000
noncomputable def uA (n:Nat):pO Bool where
 body:=(Tryd.f100.body).getD .skip
 P:=Tryd.prog
 cl:=om []
 cd:=oo []
 qT:=ot []
 cut:=ou []
 n:=n
 out:=pW Tryd.prog [.tmp 2] pe
 qZ:=nj []
theorem SI (n:Nat):(uA n).P=Tryd.prog∧(uA n).cl=om []∧(uA n).cd=oo []∧(uA n).qT=ot []∧(uA n).cut=ou []∧(uA n).n=n∧(uA n).out=pW Tryd.prog [.tmp 2] pe∧(uA n).qZ=nj []:=⟨rfl,rfl,rfl,rfl,rfl,rfl,rfl,rfl⟩
theorem SJ (n:Nat):(uA n).body=(Tryd.f100.body).getD .skip:=rfl
noncomputable def G5 (n:Nat):{B:Int→Option Bool // ∀ (a0:Int),run (uA n) [.at []] {slots:=[(o9 .u8).enc a0]++iI (17-[(o9 .u8).enc a0].length) qA,heap:=[]}=B a0}:=by
 apply iJ
 intro a0
 simp (config:={maxSteps:=100000000}) only[go_sem,iz,iA,iq,ir,iB,iC,iE,iF,iG,iy,iD,iH,SI,SJ,Tryd.f100,iw,mixed]
 exact rfl
noncomputable def DQ:Nat→Int→Option Bool
 |0,_=>none
 |n+1,a0=>(G5 n).1 a0
theorem Q6: ∀ (n:Nat) (a0:Int) (r:Bool),DQ n a0=some r→xS Tryd.prog 100 [(o9 .u8).enc a0] (fun v=>v=pe.enc r)
 |0,_,_,h=>by cases h
 |n+1,a0,r,h=>by
  exact pL (M:=uA n) ⟨mY,mZ,nH _,nI _,oh,oH,oV,oG⟩ Tryd.func100 rfl rfl ⟨(o9 .u8).nb 0 _,trivial⟩ Tryd.ntmps100 Tryd.results100 (fun σ hs=>pz (P:=Tryd.prog) (rs:=[.tmp 2]) (t:=pe) (σ:=σ) (r:=r) hs) (((G5 n).2 a0).trans h)
noncomputable def va (n:Nat):pO Bool where
 body:=(Tryd.f101.body).getD .skip
 P:=Tryd.prog
 cl:=om []
 cd:=oo []
 qT:=ot []
 cut:=ou []
 n:=n
 out:=pW Tryd.prog [.tmp 2] pe
 qZ:=nj []
theorem UJ (n:Nat):(va n).P=Tryd.prog∧(va n).cl=om []∧(va n).cd=oo []∧(va n).qT=ot []∧(va n).cut=ou []∧(va n).n=n∧(va n).out=pW Tryd.prog [.tmp 2] pe∧(va n).qZ=nj []:=⟨rfl,rfl,rfl,rfl,rfl,rfl,rfl,rfl⟩
theorem UK (n:Nat):(va n).body=(Tryd.f101.body).getD .skip:=rfl
noncomputable def IP (n:Nat):{B:Int→Option Bool // ∀ (a0:Int),run (va n) [.at []] {slots:=[(o9 .u8).enc a0]++iI (9-[(o9 .u8).enc a0].length) qA,heap:=[]}=B a0}:=by
 apply iJ
 intro a0
 simp (config:={maxSteps:=100000000}) only[go_sem,iz,iA,iq,ir,iB,iC,iE,iF,iG,iy,iD,iH,UJ,UK,Tryd.f101,iw,mixed]
 exact rfl
noncomputable def FR:Nat→Int→Option Bool
 |0,_=>none
 |n+1,a0=>(IP n).1 a0
theorem SK: ∀ (n:Nat) (a0:Int) (r:Bool),FR n a0=some r→xS Tryd.prog 101 [(o9 .u8).enc a0] (fun v=>v=pe.enc r)
 |0,_,_,h=>by cases h
 |n+1,a0,r,h=>by
  exact pL (M:=va n) ⟨mY,mZ,nH _,nI _,oh,oH,oV,oG⟩ Tryd.func101 rfl rfl ⟨(o9 .u8).nb 0 _,trivial⟩ Tryd.ntmps101 Tryd.results101 (fun σ hs=>pz (P:=Tryd.prog) (rs:=[.tmp 2]) (t:=pe) (σ:=σ) (r:=r) hs) (((IP n).2 a0).trans h)
noncomputable def Cb:Nrm:=⟨[],[],[zK,zA,zA,zT (oa p8),zK,zA,zA,zA,zA,zA,zA,zA,zA,zA,zA,zA,zA,zA],[],none,none⟩
noncomputable def rO (n:Nat):pO Bool where
 body:=(Tryd.f74.body).getD .skip
 P:=Tryd.prog
 cl:=om []
 cd:=oo []
 qT:=ot [([0,1,0,1,1],Cb)]
 cut:=ou []
 n:=n
 out:=pW Tryd.prog [.tmp 2] pe
 qZ:=nj []
theorem K4 (n:Nat):(rO n).P=Tryd.prog∧(rO n).cl=om []∧(rO n).cd=oo []∧(rO n).qT=ot [([0,1,0,1,1],Cb)]∧(rO n).cut=ou []∧(rO n).n=n∧(rO n).out=pW Tryd.prog [.tmp 2] pe∧(rO n).qZ=nj []:=⟨rfl,rfl,rfl,rfl,rfl,rfl,rfl,rfl⟩
theorem K5 (n:Nat):(rO n).body=(Tryd.f74.body).getD .skip:=rfl
noncomputable def E4 (n:Nat):{B:(Str→(List Str)→Int→Option Bool)→Str→(List Str)→Int→Option Bool // ∀m X0,(∀ (v0:Str) (v1:List Str) (v2:Int),run (rO n) [.lq m [0,1,0,1,1],.qC 0,.cut [1,1,1],.at [1,1,1]] ⟨[.str (sb v0),qA,qA,.nE false 1 (mp n4 v1),.int .i64 v2,qA,qA,qA,qA,qA,qA,qA,qA,qA,qA,qA,qA,qA],[],0,[]⟩=X0 v0 v1 v2)→ ∀ (v0:Str) (v1:List Str) (v2:Int),run (rO n) [.at [0,0,1,0,1,1],.lp m [0,1,0,1,1],.qC 0,.cut [1,1,1],.at [1,1,1]] ⟨[.str (sb v0),qA,qA,.nE false 1 (mp n4 v1),.int .i64 v2,qA,qA,qA,qA,qA,qA,qA,qA,qA,qA,qA,qA,qA],[],0,[]⟩=B X0 v0 v1 v2}:=by
 apply iJ
 intro m X0 ih v0 v1 v2
 simp (config:={maxSteps:=100000000}) only[go_sem,iz,iA,iq,ir,iB,iC,iE,iF,iG,iy,iD,iH,K4,K5,Tryd.f74,iw,mixed,Cb,ih]
 exact rfl
noncomputable def Cc (n:Nat):Nat→Str→(List Str)→Int→Option Bool
 |0,_,_,_=>none
 |m+1,v0,v1,v2=>(E4 n).1 (Cc n m) v0 v1 v2
theorem Gw (n:Nat): ∀ (m:Nat),(∀ (v0:Str) (v1:List Str) (v2:Int),run (rO n) [.lq m [0,1,0,1,1],.qC 0,.cut [1,1,1],.at [1,1,1]] ⟨[.str (sb v0),qA,qA,.nE false 1 (mp n4 v1),.int .i64 v2,qA,qA,qA,qA,qA,qA,qA,qA,qA,qA,qA,qA,qA],[],0,[]⟩=Cc n m v0 v1 v2)
 |0=>by intros;exact nk
 |m+1=>by
  have ih:=Gw n m
  intro v0 v1 v2
  rw[nq]
  exact (E4 n).2 m _ ih v0 v1 v2
noncomputable def Gg (n:Nat):{B:Str→Option Bool // ∀ (a0:Str),run (rO n) [.at []] {slots:=[sD.enc a0]++iI (18-[sD.enc a0].length) qA,heap:=[]}=B a0}:=by
 apply iJ
 intro a0
 simp (config:={maxSteps:=100000000}) only[go_sem,iz,iA,iq,ir,iB,iC,iE,iF,iG,iy,iD,iH,K4,K5,Tryd.f74,iw,mixed,Cb,Gw n]
 exact rfl
noncomputable def CH:Nat→Str→Option Bool
 |0,_=>none
 |n+1,a0=>(Gg n).1 a0
theorem PF: ∀ (n:Nat) (a0:Str) (r:Bool),CH n a0=some r→xS Tryd.prog 74 [sD.enc a0] (fun v=>v=pe.enc r)
 |0,_,_,h=>by cases h
 |n+1,a0,r,h=>by
  exact pL (M:=rO n) ⟨mY,mZ,nH _,nI _,oh,oH,oV,oG⟩ Tryd.func74 rfl rfl ⟨sD.nb 0 _,trivial⟩ Tryd.ntmps74 Tryd.results74 (fun σ hs=>pz (P:=Tryd.prog) (rs:=[.tmp 2]) (t:=pe) (σ:=σ) (r:=r) hs) (((Gg n).2 a0).trans h)
noncomputable def Fq:Nrm:=⟨[],[],[zK,zA,zA,zK,zK,zA,zA,zA,zA,zA,zA,zA,zA,zA,zA,zA],[],none,none⟩
noncomputable def ug (n:Nat):pO Bool where
 body:=(Tryd.f75.body).getD .skip
 P:=Tryd.prog
 cl:=om []
 cd:=oo []
 qT:=ot [([0,1,0,1,1],Fq)]
 cut:=ou []
 n:=n
 out:=pW Tryd.prog [.tmp 2] pe
 qZ:=nj []
theorem OB (n:Nat):(ug n).P=Tryd.prog∧(ug n).cl=om []∧(ug n).cd=oo []∧(ug n).qT=ot [([0,1,0,1,1],Fq)]∧(ug n).cut=ou []∧(ug n).n=n∧(ug n).out=pW Tryd.prog [.tmp 2] pe∧(ug n).qZ=nj []:=⟨rfl,rfl,rfl,rfl,rfl,rfl,rfl,rfl⟩
theorem OC (n:Nat):(ug n).body=(Tryd.f75.body).getD .skip:=rfl
noncomputable def MZ (n:Nat):{B:(Int→Str→Int→Option Bool)→Int→Str→Int→Option Bool // ∀m X0,(∀ (v0:Int) (v1:Str) (v2:Int),run (ug n) [.lq m [0,1,0,1,1],.qC 0,.cut [1,1,1],.at [1,1,1]] ⟨[.int .u8 v0,qA,qA,.str (sb v1),.int .i64 v2,qA,qA,qA,qA,qA,qA,qA,qA,qA,qA,qA],[],0,[]⟩=X0 v0 v1 v2)→ ∀ (v0:Int) (v1:Str) (v2:Int),run (ug n) [.at [0,0,1,0,1,1],.lp m [0,1,0,1,1],.qC 0,.cut [1,1,1],.at [1,1,1]] ⟨[.int .u8 v0,qA,qA,.str (sb v1),.int .i64 v2,qA,qA,qA,qA,qA,qA,qA,qA,qA,qA,qA],[],0,[]⟩=B X0 v0 v1 v2}:=by
 apply iJ
 intro m X0 ih v0 v1 v2
 simp (config:={maxSteps:=100000000}) only[go_sem,iz,iA,iq,ir,iB,iC,iE,iF,iG,iy,iD,iH,OB,OC,Tryd.f75,iw,mixed,Fq,ih]
 exact rfl
noncomputable def M1 (n:Nat):Nat→Int→Str→Int→Option Bool
 |0,_,_,_=>none
 |m+1,v0,v1,v2=>(MZ n).1 (M1 n m) v0 v1 v2
theorem JD (n:Nat): ∀ (m:Nat),(∀ (v0:Int) (v1:Str) (v2:Int),run (ug n) [.lq m [0,1,0,1,1],.qC 0,.cut [1,1,1],.at [1,1,1]] ⟨[.int .u8 v0,qA,qA,.str (sb v1),.int .i64 v2,qA,qA,qA,qA,qA,qA,qA,qA,qA,qA,qA],[],0,[]⟩=M1 n m v0 v1 v2)
 |0=>by intros;exact nk
 |m+1=>by
  have ih:=JD n m
  intro v0 v1 v2
  rw[nq]
  exact (MZ n).2 m _ ih v0 v1 v2
noncomputable def OD (n:Nat):{B:Int→Option Bool // ∀ (a0:Int),run (ug n) [.at []] {slots:=[(o9 .u8).enc a0]++iI (16-[(o9 .u8).enc a0].length) qA,heap:=[]}=B a0}:=by
 apply iJ
 intro a0
 simp (config:={maxSteps:=100000000}) only[go_sem,iz,iA,iq,ir,iB,iC,iE,iF,iG,iy,iD,iH,OB,OC,Tryd.f75,iw,mixed,Fq,JD n]
 exact rfl
noncomputable def G6:Nat→Int→Option Bool
 |0,_=>none
 |n+1,a0=>(OD n).1 a0
theorem UL: ∀ (n:Nat) (a0:Int) (r:Bool),G6 n a0=some r→xS Tryd.prog 75 [(o9 .u8).enc a0] (fun v=>v=pe.enc r)
 |0,_,_,h=>by cases h
 |n+1,a0,r,h=>by
  exact pL (M:=ug n) ⟨mY,mZ,nH _,nI _,oh,oH,oV,oG⟩ Tryd.func75 rfl rfl ⟨(o9 .u8).nb 0 _,trivial⟩ Tryd.ntmps75 Tryd.results75 (fun σ hs=>pz (P:=Tryd.prog) (rs:=[.tmp 2]) (t:=pe) (σ:=σ) (r:=r) hs) (((OD n).2 a0).trans h)
noncomputable def vc (n:Nat):pO (List Str) where
 body:=(Tryd.f76.body).getD .skip
 P:=Tryd.prog
 cl:=om []
 cd:=oo []
 qT:=ot []
 cut:=ou []
 n:=n
 out:=pW Tryd.prog [.tmp 0] (UC p8)
 qZ:=nj []
theorem UM (n:Nat):(vc n).P=Tryd.prog∧(vc n).cl=om []∧(vc n).cd=oo []∧(vc n).qT=ot []∧(vc n).cut=ou []∧(vc n).n=n∧(vc n).out=pW Tryd.prog [.tmp 0] (UC p8)∧(vc n).qZ=nj []:=⟨rfl,rfl,rfl,rfl,rfl,rfl,rfl,rfl⟩
theorem UN (n:Nat):(vc n).body=(Tryd.f76.body).getD .skip:=rfl
noncomputable def IQ (n:Nat):{B:Option (List Str) // run (vc n) [.at []] {slots:=([]:List AV)++iI (2-([]:List AV).length) qA,heap:=[]}=B}:=by
 apply iJ
 simp (config:={maxSteps:=100000000}) only[go_sem,iz,iA,iq,ir,iB,iC,iE,iF,iG,iy,iD,iH,UM,UN,Tryd.f76,iw,mixed]
 exact rfl
noncomputable def FT:Nat→Option (List Str)
 |0=>none
 |n+1=>(IQ n).1
theorem SL: ∀ (n:Nat) (r:(List Str)),FT n=some r→xS Tryd.prog 76 [] (fun v=>v=(UC p8).enc r)
 |0,_,h=>by cases h
 |n+1,r,h=>by
  exact pL (M:=vc n) ⟨mY,mZ,nH _,nI _,oh,oH,oV,oG⟩ Tryd.func76 rfl rfl trivial Tryd.ntmps76 Tryd.results76 (fun σ hs=>pz (P:=Tryd.prog) (rs:=[.tmp 0]) (t:=(UC p8)) (σ:=σ) (r:=r) hs) (((IQ n).2).trans h)
noncomputable def vM (n:Nat):pO Bool where
 body:=(Tryd.f47.body).getD .skip
 P:=Tryd.prog
 cl:=om []
 cd:=oo []
 qT:=ot []
 cut:=ou []
 n:=n
 out:=pW Tryd.prog [.tmp 2] pe
 qZ:=nj []
theorem WX (n:Nat):(vM n).P=Tryd.prog∧(vM n).cl=om []∧(vM n).cd=oo []∧(vM n).qT=ot []∧(vM n).cut=ou []∧(vM n).n=n∧(vM n).out=pW Tryd.prog [.tmp 2] pe∧(vM n).qZ=nj []:=⟨rfl,rfl,rfl,rfl,rfl,rfl,rfl,rfl⟩
theorem WY (n:Nat):(vM n).body=(Tryd.f47.body).getD .skip:=rfl
noncomputable def Kr (n:Nat):{B:Notation→Option Bool // ∀ (a0:Notation),run (vM n) [.at []] {slots:=[(nF Notation.cel).enc a0]++iI (8-[(nF Notation.cel).enc a0].length) qA,heap:=[]}=B a0}:=by
 apply iJ
 intro a0
 simp (config:={maxSteps:=100000000}) only[go_sem,iz,iA,iq,ir,iB,iC,iE,iF,iG,iy,iD,iH,WX,WY,Tryd.f47,iw,mixed]
 exact rfl
noncomputable def tS:Nat→Notation→Option Bool
 |0,_=>none
 |n+1,a0=>(Kr n).1 a0
theorem zm: ∀ (n:Nat) (a0:Notation) (r:Bool),tS n a0=some r→xS Tryd.prog 47 [(nF Notation.cel).enc a0] (fun v=>v=pe.enc r)
 |0,_,_,h=>by cases h
 |n+1,a0,r,h=>by
  exact pL (M:=vM n) ⟨mY,mZ,nH _,nI _,oh,oH,oV,oG⟩ Tryd.func47 rfl rfl ⟨(nF Notation.cel).nb 0 _,trivial⟩ Tryd.ntmps47 Tryd.results47 (fun σ hs=>pz (P:=Tryd.prog) (rs:=[.tmp 2]) (t:=pe) (σ:=σ) (r:=r) hs) (((Kr n).2 a0).trans h)
end Go.Abs
namespace Go.Abs
open Go.Proofs
set_option maxRecDepth 100000
set_option maxHeartbeats 4000000
noncomputable def ve (n:Nat):pO Bool where
 body:=(Tryd.f48.body).getD .skip
 P:=Tryd.prog
 cl:=om []
 cd:=oo []
 qT:=ot []
 cut:=ou []
 n:=n
 out:=pW Tryd.prog [.tmp 2] pe
 qZ:=nj []
theorem UO (n:Nat):(ve n).P=Tryd.prog∧(ve n).cl=om []∧(ve n).cd=oo []∧(ve n).qT=ot []∧(ve n).cut=ou []∧(ve n).n=n∧(ve n).out=pW Tryd.prog [.tmp 2] pe∧(ve n).qZ=nj []:=⟨rfl,rfl,rfl,rfl,rfl,rfl,rfl,rfl⟩
theorem UP (n:Nat):(ve n).body=(Tryd.f48.body).getD .skip:=rfl
noncomputable def IS (n:Nat):{B:Notation→Option Bool // ∀ (a0:Notation),run (ve n) [.at []] {slots:=[(nF Notation.cel).enc a0]++iI (12-[(nF Notation.cel).enc a0].length) qA,heap:=[]}=B a0}:=by
 apply iJ
 intro a0
 simp (config:={maxSteps:=100000000}) only[go_sem,iz,iA,iq,ir,iB,iC,iE,iF,iG,iy,iD,iH,UO,UP,Tryd.f48,iw,mixed]
 exact rfl
noncomputable def yZ:Nat→Notation→Option Bool
 |0,_=>none
 |n+1,a0=>(IS n).1 a0
theorem G7: ∀ (n:Nat) (a0:Notation) (r:Bool),yZ n a0=some r→xS Tryd.prog 48 [(nF Notation.cel).enc a0] (fun v=>v=pe.enc r)
 |0,_,_,h=>by cases h
 |n+1,a0,r,h=>by
  exact pL (M:=ve n) ⟨mY,mZ,nH _,nI _,oh,oH,oV,oG⟩ Tryd.func48 rfl rfl ⟨(nF Notation.cel).nb 0 _,trivial⟩ Tryd.ntmps48 Tryd.results48 (fun σ hs=>pz (P:=Tryd.prog) (rs:=[.tmp 2]) (t:=pe) (σ:=σ) (r:=r) hs) (((IS n).2 a0).trans h)
noncomputable def uB (n:Nat):pO Bool where
 body:=(Tryd.f77.body).getD .skip
 P:=Tryd.prog
 cl:=om []
 cd:=oo []
 qT:=ot []
 cut:=ou []
 n:=n
 out:=pW Tryd.prog [.tmp 2] pe
 qZ:=nj []
theorem SM (n:Nat):(uB n).P=Tryd.prog∧(uB n).cl=om []∧(uB n).cd=oo []∧(uB n).qT=ot []∧(uB n).cut=ou []∧(uB n).n=n∧(uB n).out=pW Tryd.prog [.tmp 2] pe∧(uB n).qZ=nj []:=⟨rfl,rfl,rfl,rfl,rfl,rfl,rfl,rfl⟩
theorem SN (n:Nat):(uB n).body=(Tryd.f77.body).getD .skip:=rfl
noncomputable def G8 (n:Nat):{B:Int→Option Bool // ∀ (a0:Int),run (uB n) [.at []] {slots:=[(o9 .u8).enc a0]++iI (21-[(o9 .u8).enc a0].length) qA,heap:=[]}=B a0}:=by
 apply iJ
 intro a0
 simp (config:={maxSteps:=100000000}) only[go_sem,iz,iA,iq,ir,iB,iC,iE,iF,iG,iy,iD,iH,SM,SN,Tryd.f77,iw,mixed]
 exact rfl
noncomputable def DR:Nat→Int→Option Bool
 |0,_=>none
 |n+1,a0=>(G8 n).1 a0
theorem Q7: ∀ (n:Nat) (a0:Int) (r:Bool),DR n a0=some r→xS Tryd.prog 77 [(o9 .u8).enc a0] (fun v=>v=pe.enc r)
 |0,_,_,h=>by cases h
 |n+1,a0,r,h=>by
  exact pL (M:=uB n) ⟨mY,mZ,nH _,nI _,oh,oH,oV,oG⟩ Tryd.func77 rfl rfl ⟨(o9 .u8).nb 0 _,trivial⟩ Tryd.ntmps77 Tryd.results77 (fun σ hs=>pz (P:=Tryd.prog) (rs:=[.tmp 2]) (t:=pe) (σ:=σ) (r:=r) hs) (((G8 n).2 a0).trans h)
noncomputable def pH (n:Nat):pO (Tk×Unit) where
 body:=(Tryd.f62.body).getD .skip
 P:=Tryd.prog
 cl:=om []
 cd:=oo []
 qT:=ot []
 cut:=ou []
 n:=n
 out:=WD Tryd.prog [.tmp 2] 0 p8 (rsA 0 (fun (b:Tk)=>b.1.length) Kf)
 qZ:=nj []
theorem z8 (n:Nat):(pH n).P=Tryd.prog∧(pH n).cl=om []∧(pH n).cd=oo []∧(pH n).qT=ot []∧(pH n).cut=ou []∧(pH n).n=n∧(pH n).out=WD Tryd.prog [.tmp 2] 0 p8 (rsA 0 (fun (b:Tk)=>b.1.length) Kf)∧(pH n).qZ=nj []:=⟨rfl,rfl,rfl,rfl,rfl,rfl,rfl,rfl⟩
theorem Aa (n:Nat):(pH n).body=(Tryd.f62.body).getD .skip:=rfl
noncomputable def Dz (n:Nat):{B:Str→List Str→Option (Tk×Unit) // ∀x xs,run (pH n) [.at []] {slots:=[(oa p8).enc (x::xs)]++iI 7 qA,heap:=[],low:=0}=B x xs}:=by
 apply iJ
 intro x xs
 simp (config:={maxSteps:=100000000}) only[go_sem,iz,iA,iq,ir,iB,iC,iE,iF,iG,iy,iD,iH,z8,Aa,Tryd.f62,iw,mixed]
 exact rfl
theorem IT (n:Nat) (c:Nat):run (pH n) [.at []] {slots:=[.raw (.slice none 0 c)]++iI 7 qA,heap:=[],low:=0}=some (([],()),()):=by simp (config:={maxSteps:=100000000}) only[go_sem,iz,iA,iq,ir,iB,iC,iE,iF,iG,iy,iD,iH,z8,Aa,Tryd.f62,iw,mixed]
theorem IU (n:Nat) (a:Addr) (c:Nat):run (pH n) [.at []] {slots:=[.raw (.slice (some a) 0 c)]++iI 7 qA,heap:=[],low:=0}=some (([],()),()):=by simp (config:={maxSteps:=100000000}) only[go_sem,iz,iA,iq,ir,iB,iC,iE,iF,iG,iy,iD,iH,z8,Aa,Tryd.f62,iw,mixed]
noncomputable def yD:Nat→(List Str)→Option (Tk×Unit)
 |0,_=>none
 |_+1,[]=>some (([],()),())
 |n+1,x::xs=>(Dz n).1 x xs
theorem IV: ∀ (n:Nat) (a0:(List Str)) (r:(Tk×Unit)),yD n a0=some r→Ob Tryd.prog 62 (((Ue (oa p8) Mo):DM Unit _).enc () (a0,())) (Ba.enc ()) (fun o H'=>o= .ret (uR ((rsA 0 (fun (b:Tk)=>b.1.length) Kf).enc r.1 r.2))∧H'=(B9 (NQ true p8) Ba).enc r.1)
 |0,_,_,h=>by cases h
 |n+1,[],r,h=>by
  cases h
  exact Zs fun base c=>by
   cases base with
   |none=>exact wW (M:=pH n) ⟨mY,mZ,nH _,nI _,oh,oH,oV,oG⟩ Tryd.func62 rfl rfl ⟨trivial,trivial⟩ (fun _ h=>by cases h) Tryd.ntmps62 Tryd.results62 (fun σ hs=>Mp hs) (IT n c)
   |some a=>exact wW (M:=pH n) ⟨mY,mZ,nH _,nI _,oh,oH,oV,oG⟩ Tryd.func62 rfl rfl ⟨trivial,trivial⟩ (fun _ h=>by cases h) Tryd.ntmps62 Tryd.results62 (fun σ hs=>Mp hs) (IU n a c)
 |n+1,x::xs,r,h=>by
  exact wW (M:=pH n) ⟨mY,mZ,nH _,nI _,oh,oH,oV,oG⟩ Tryd.func62 rfl rfl ⟨(oa p8).nb 0 _,trivial⟩ (Ba.nb _ _) Tryd.ntmps62 Tryd.results62 (fun σ hs=>Mp hs) (((Dz n).2 x xs).trans h)
noncomputable def oN (n:Nat):pO (Ti×Unit) where
 body:=(Tryd.f30.body).getD .skip
 P:=Tryd.prog
 cl:=om []
 cd:=oo []
 qT:=ot []
 cut:=ou []
 n:=n
 out:=WD Tryd.prog [.tmp 2] 0 Notation.row (rsA 0 (fun (b:Ti)=>b.1.length) Kf)
 qZ:=nj []
theorem yK (n:Nat):(oN n).P=Tryd.prog∧(oN n).cl=om []∧(oN n).cd=oo []∧(oN n).qT=ot []∧(oN n).cut=ou []∧(oN n).n=n∧(oN n).out=WD Tryd.prog [.tmp 2] 0 Notation.row (rsA 0 (fun (b:Ti)=>b.1.length) Kf)∧(oN n).qZ=nj []:=⟨rfl,rfl,rfl,rfl,rfl,rfl,rfl,rfl⟩
theorem yL (n:Nat):(oN n).body=(Tryd.f30.body).getD .skip:=rfl
noncomputable def Cp (n:Nat):{B:Notation→List Notation→Option (Ti×Unit) // ∀x xs,run (oN n) [.at []] {slots:=[(oa Notation.row).enc (x::xs)]++iI 7 qA,heap:=[],low:=0}=B x xs}:=by
 apply iJ
 intro x xs
 simp (config:={maxSteps:=100000000}) only[go_sem,iz,iA,iq,ir,iB,iC,iE,iF,iG,iy,iD,iH,yK,yL,Tryd.f30,iw,mixed]
 exact rfl
theorem G9 (n:Nat) (c:Nat):run (oN n) [.at []] {slots:=[.raw (.slice none 0 c)]++iI 7 qA,heap:=[],low:=0}=some (([],()),()):=by simp (config:={maxSteps:=100000000}) only[go_sem,iz,iA,iq,ir,iB,iC,iE,iF,iG,iy,iD,iH,yK,yL,Tryd.f30,iw,mixed]
theorem He (n:Nat) (a:Addr) (c:Nat):run (oN n) [.at []] {slots:=[.raw (.slice (some a) 0 c)]++iI 7 qA,heap:=[],low:=0}=some (([],()),()):=by simp (config:={maxSteps:=100000000}) only[go_sem,iz,iA,iq,ir,iB,iC,iE,iF,iG,iy,iD,iH,yK,yL,Tryd.f30,iw,mixed]
noncomputable def uv:Nat→(List Notation)→Option (Ti×Unit)
 |0,_=>none
 |_+1,[]=>some (([],()),())
 |n+1,x::xs=>(Cp n).1 x xs
theorem BJ: ∀ (n:Nat) (a0:(List Notation)) (r:(Ti×Unit)),uv n a0=some r→Ob Tryd.prog 30 (((Ue (oa Notation.row) Mo):DM Unit _).enc () (a0,())) (Ba.enc ()) (fun o H'=>o= .ret (uR ((rsA 0 (fun (b:Ti)=>b.1.length) Kf).enc r.1 r.2))∧H'=(B9 (NQ true Notation.row) Ba).enc r.1)
 |0,_,_,h=>by cases h
 |n+1,[],r,h=>by
  cases h
  exact Zs fun base c=>by
   cases base with
   |none=>exact wW (M:=oN n) ⟨mY,mZ,nH _,nI _,oh,oH,oV,oG⟩ Tryd.func30 rfl rfl ⟨trivial,trivial⟩ (fun _ h=>by cases h) Tryd.ntmps30 Tryd.results30 (fun σ hs=>Mp hs) (G9 n c)
   |some a=>exact wW (M:=oN n) ⟨mY,mZ,nH _,nI _,oh,oH,oV,oG⟩ Tryd.func30 rfl rfl ⟨trivial,trivial⟩ (fun _ h=>by cases h) Tryd.ntmps30 Tryd.results30 (fun σ hs=>Mp hs) (He n a c)
 |n+1,x::xs,r,h=>by
  exact wW (M:=oN n) ⟨mY,mZ,nH _,nI _,oh,oH,oV,oG⟩ Tryd.func30 rfl rfl ⟨(oa Notation.row).nb 0 _,trivial⟩ (Ba.nb _ _) Tryd.ntmps30 Tryd.results30 (fun σ hs=>Mp hs) (((Cp n).2 x xs).trans h)
noncomputable def ya:Nrm:=⟨[],[],[zT (oa Notation.row),zT (oa Notation.row),zA,zA,zA,zK,zK,zK,zK,zA,zA,zA,zA,zA,zA,zA,zA,zA,zA,zA,zA,zA,zA,zA,zA,zA,zA,zA,zA,zA,zA,zA,zA,zA,zA,zA,zA,zA,zA,zA,zA,zA,zA,zA,zA,zA,zA,zA,zA,zA,zA,zA,zA,zA,zA,zA,zA,zA,zA,zA,zA,zA,zA,zA,zA,zA,zA,zA,zA,zA,zA,zA,zA,zA],[oT Notation.cel,oT Notation.cel],none,none⟩
noncomputable def yc:Nrm:=⟨[],[],[zT (oa Notation.row),zT (oa Notation.row),zA,zA,zA,zK,zA,zA,zA,zA,zA,zA,zA,zA,zA,zA,zA,zA,zA,zA,zA,zA,zA,zA,zA,zA,zA,zA,zA,zA,zA,zA,zA,zA,zA,zA,zA,zA,zA,zA,zA,zA,zA,zA,zA,zA,zA,zA,zA,zA,zA,zA,zA,zA,zA,zA,zA,zA,zA,zA,zA,zA,zA,zA,zA,zA,zA,zA,zA,zA,zA,zA,zA,zA],[],none,none⟩
noncomputable def ny (n:Nat):pO Bool where
 body:=(Tryd.f32.body).getD .skip
 P:=Tryd.prog
 cl:=om []
 cd:=oo []
 qT:=ot [([0,1,1,1,0,0,1,0,0,1,0,1,1],ya),([0,1,0,1,1],yc)]
 cut:=ou []
 n:=n
 out:=pW Tryd.prog [.tmp 4] pe
 qZ:=nj []
 Ay:=nj []
 Ax:=nj []
theorem DS (n:Nat):(ny n).P=Tryd.prog∧(ny n).cl=om []∧(ny n).cd=oo []∧(ny n).qT=ot [([0,1,1,1,0,0,1,0,0,1,0,1,1],ya),([0,1,0,1,1],yc)]∧(ny n).cut=ou []∧(ny n).n=n∧(ny n).out=pW Tryd.prog [.tmp 4] pe∧(ny n).qZ=nj []∧(ny n).Ay=nj []∧(ny n).Ax=nj []:=⟨rfl,rfl,rfl,rfl,rfl,rfl,rfl,rfl,rfl,rfl⟩
theorem DT (n:Nat):(ny n).body=(Tryd.f32.body).getD .skip:=rfl
theorem DU (n:Nat):tY (ny n) [0,0,0,1,0,0,1,0,1,1]=true∧tY (ny n) [0,0,0,1,0,0,1,1,1,0,0,1,0,0,1,0,1,1]=true:=⟨by kernel_rfl,by kernel_rfl⟩
theorem DV (n:Nat):sX (ny n) [0,0,0,1,0,0,1,0,1,1] 2 10=true∧sX (ny n) [0,0,0,1,0,0,1,0,1,1] 3 10=true∧sX (ny n) [0,0,0,1,0,0,1,0,1,1] 8 10=true∧sX (ny n) [0,0,0,1,0,0,1,0,1,1] 9 10=true∧sX (ny n) [0,0,0,1,0,0,1,0,1,1] 2 11=true∧sX (ny n) [0,0,0,1,0,0,1,0,1,1] 3 11=true∧sX (ny n) [0,0,0,1,0,0,1,0,1,1] 6 11=true∧sX (ny n) [0,0,0,1,0,0,1,0,1,1] 7 11=true∧sX (ny n) [0,0,0,1,0,0,1,0,1,1] 8 11=true∧sX (ny n) [0,0,0,1,0,0,1,0,1,1] 9 11=true∧sX (ny n) [0,0,0,1,0,0,1,0,1,1] 10 11=true∧sX (ny n) [0,0,0,1,0,0,1,0,1,1] 8 9=true:=⟨by kernel_rfl,by kernel_rfl,by kernel_rfl,by kernel_rfl,by kernel_rfl,by kernel_rfl,by kernel_rfl,by kernel_rfl,by kernel_rfl,by kernel_rfl,by kernel_rfl,by kernel_rfl⟩
noncomputable def AD (n:Nat):{B:TC→((List Notation)→(List Notation)→Int→Int→Notation→Notation→Option Bool)→(List Notation)→(List Notation)→Int→Int→Notation→Notation→Option Bool // ∀m2 X2 m X0,(∀ (v0:List Notation) (v1:List Notation) (v2:Int),run (ny n) [.lq m2 [0,1,0,1,1],.qC 0,.cut [1,1,1],.at [1,1,1]] ⟨[.nE false 4 (mp Notation.cells v0),.nE false 4 (mp Notation.cells v1),qA,qA,qA,.int .i64 v2,qA,qA,qA,qA,qA,qA,qA,qA,qA,qA,qA,qA,qA,qA,qA,qA,qA,qA,qA,qA,qA,qA,qA,qA,qA,qA,qA,qA,qA,qA,qA,qA,qA,qA,qA,qA,qA,qA,qA,qA,qA,qA,qA,qA,qA,qA,qA,qA,qA,qA,qA,qA,qA,qA,qA,qA,qA,qA,qA,qA,qA,qA,qA,qA,qA,qA,qA,qA],[],0,[]⟩=X2 v0 v1 v2)→(∀ (v0:List Notation) (v1:List Notation) (v2:Int) (v3:Int) (o0:Notation) (o1:Notation),run (ny n) [.lq m [0,1,1,1,0,0,1,0,0,1,0,1,1],.qC 2,.qC 1,.cut [1,1,0,0,1,0,1,1],.at [1,1,0,0,1,0,1,1],.lp m2 [0,1,0,1,1],.qC 0,.cut [1,1,1],.at [1,1,1]] ⟨[.nE false 4 (mp Notation.cells v0),.nE false 4 (mp Notation.cells v1),qA,qA,qA,.int .i64 v2,.ptr 0 0,.ptr 1 0,.int .i64 v3,qA,qA,qA,qA,qA,qA,qA,qA,qA,qA,qA,qA,qA,qA,qA,qA,qA,qA,qA,qA,qA,qA,qA,qA,qA,qA,qA,qA,qA,qA,qA,qA,qA,qA,qA,qA,qA,qA,qA,qA,qA,qA,qA,qA,qA,qA,qA,qA,qA,qA,qA,qA,qA,qA,qA,qA,qA,qA,qA,qA,qA,qA,qA,qA,qA],[.cells (Notation.cells o0),.cells (Notation.cells o1)],0,[]⟩=X0 v0 v1 v2 v3 o0 o1)→ ∀ (v0:List Notation) (v1:List Notation) (v2:Int) (v3:Int) (o0:Notation) (o1:Notation),run (ny n) [.at [0,0,1,1,1,0,0,1,0,0,1,0,1,1],.lp m [0,1,1,1,0,0,1,0,0,1,0,1,1],.qC 2,.qC 1,.cut [1,1,0,0,1,0,1,1],.at [1,1,0,0,1,0,1,1],.lp m2 [0,1,0,1,1],.qC 0,.cut [1,1,1],.at [1,1,1]] ⟨[.nE false 4 (mp Notation.cells v0),.nE false 4 (mp Notation.cells v1),qA,qA,qA,.int .i64 v2,.ptr 0 0,.ptr 1 0,.int .i64 v3,qA,qA,qA,qA,qA,qA,qA,qA,qA,qA,qA,qA,qA,qA,qA,qA,qA,qA,qA,qA,qA,qA,qA,qA,qA,qA,qA,qA,qA,qA,qA,qA,qA,qA,qA,qA,qA,qA,qA,qA,qA,qA,qA,qA,qA,qA,qA,qA,qA,qA,qA,qA,qA,qA,qA,qA,qA,qA,qA,qA,qA,qA,qA,qA,qA],[.cells (Notation.cells o0),.cells (Notation.cells o1)],0,[]⟩=B X2 X0 v0 v1 v2 v3 o0 o1}:=by
 apply iJ
 intro m2 X2 m X0 h2 ih v0 v1 v2 v3 o0 o1
 simp (config:={maxSteps:=100000000}) only[go_sem,iz,iA,iq,ir,iB,iC,iE,iF,iG,iy,iD,iH,DS,DT,Tryd.f32,iw,mixed,DU,DV,ya,yc,h2,ih]
 exact rfl
noncomputable def yd (n:Nat) (X2:(List Notation)→(List Notation)→Int→Option Bool):Nat→(List Notation)→(List Notation)→Int→Int→Notation→Notation→Option Bool
 |0,_,_,_,_,_,_=>none
 |m+1,v0,v1,v2,v3,o0,o1=>(AD n).1 X2 (yd n X2 m) v0 v1 v2 v3 o0 o1
theorem ED (n:Nat) (m2:Nat) (X2:(List Notation)→(List Notation)→Int→Option Bool) (h2:(∀ (v0:List Notation) (v1:List Notation) (v2:Int),run (ny n) [.lq m2 [0,1,0,1,1],.qC 0,.cut [1,1,1],.at [1,1,1]] ⟨[.nE false 4 (mp Notation.cells v0),.nE false 4 (mp Notation.cells v1),qA,qA,qA,.int .i64 v2,qA,qA,qA,qA,qA,qA,qA,qA,qA,qA,qA,qA,qA,qA,qA,qA,qA,qA,qA,qA,qA,qA,qA,qA,qA,qA,qA,qA,qA,qA,qA,qA,qA,qA,qA,qA,qA,qA,qA,qA,qA,qA,qA,qA,qA,qA,qA,qA,qA,qA,qA,qA,qA,qA,qA,qA,qA,qA,qA,qA,qA,qA,qA,qA,qA,qA,qA,qA],[],0,[]⟩=X2 v0 v1 v2)): ∀ (m:Nat),(∀ (v0:List Notation) (v1:List Notation) (v2:Int) (v3:Int) (o0:Notation) (o1:Notation),run (ny n) [.lq m [0,1,1,1,0,0,1,0,0,1,0,1,1],.qC 2,.qC 1,.cut [1,1,0,0,1,0,1,1],.at [1,1,0,0,1,0,1,1],.lp m2 [0,1,0,1,1],.qC 0,.cut [1,1,1],.at [1,1,1]] ⟨[.nE false 4 (mp Notation.cells v0),.nE false 4 (mp Notation.cells v1),qA,qA,qA,.int .i64 v2,.ptr 0 0,.ptr 1 0,.int .i64 v3,qA,qA,qA,qA,qA,qA,qA,qA,qA,qA,qA,qA,qA,qA,qA,qA,qA,qA,qA,qA,qA,qA,qA,qA,qA,qA,qA,qA,qA,qA,qA,qA,qA,qA,qA,qA,qA,qA,qA,qA,qA,qA,qA,qA,qA,qA,qA,qA,qA,qA,qA,qA,qA,qA,qA,qA,qA,qA,qA,qA,qA,qA,qA,qA,qA],[.cells (Notation.cells o0),.cells (Notation.cells o1)],0,[]⟩=yd n X2 m v0 v1 v2 v3 o0 o1)
 |0=>by intros;exact nk
 |m+1=>by
  have ih:=ED n m2 X2 h2 m
  intro v0 v1 v2 v3 o0 o1
  rw[nq]
  exact (AD n).2 m2 X2 m _ h2 ih v0 v1 v2 v3 o0 o1
noncomputable def AE (n:Nat):{B:TC→(List Notation)→(List Notation)→Int→Option Bool // ∀m X0,(∀ (v0:List Notation) (v1:List Notation) (v2:Int),run (ny n) [.lq m [0,1,0,1,1],.qC 0,.cut [1,1,1],.at [1,1,1]] ⟨[.nE false 4 (mp Notation.cells v0),.nE false 4 (mp Notation.cells v1),qA,qA,qA,.int .i64 v2,qA,qA,qA,qA,qA,qA,qA,qA,qA,qA,qA,qA,qA,qA,qA,qA,qA,qA,qA,qA,qA,qA,qA,qA,qA,qA,qA,qA,qA,qA,qA,qA,qA,qA,qA,qA,qA,qA,qA,qA,qA,qA,qA,qA,qA,qA,qA,qA,qA,qA,qA,qA,qA,qA,qA,qA,qA,qA,qA,qA,qA,qA,qA,qA,qA,qA,qA,qA],[],0,[]⟩=X0 v0 v1 v2)→ ∀ (v0:List Notation) (v1:List Notation) (v2:Int),run (ny n) [.at [0,0,1,0,1,1],.lp m [0,1,0,1,1],.qC 0,.cut [1,1,1],.at [1,1,1]] ⟨[.nE false 4 (mp Notation.cells v0),.nE false 4 (mp Notation.cells v1),qA,qA,qA,.int .i64 v2,qA,qA,qA,qA,qA,qA,qA,qA,qA,qA,qA,qA,qA,qA,qA,qA,qA,qA,qA,qA,qA,qA,qA,qA,qA,qA,qA,qA,qA,qA,qA,qA,qA,qA,qA,qA,qA,qA,qA,qA,qA,qA,qA,qA,qA,qA,qA,qA,qA,qA,qA,qA,qA,qA,qA,qA,qA,qA,qA,qA,qA,qA,qA,qA,qA,qA,qA,qA],[],0,[]⟩=B X0 v0 v1 v2}:=by
 apply iJ
 intro m X0 ih v0 v1 v2
 simp (config:={maxSteps:=100000000}) only[go_sem,iz,iA,iq,ir,iB,iC,iE,iF,iG,iy,iD,iH,DS,DT,Tryd.f32,iw,mixed,DU,DV,ya,yc,ED n m X0 ih,ih]
 exact rfl
noncomputable def wv (n:Nat):Nat→(List Notation)→(List Notation)→Int→Option Bool
 |0,_,_,_=>none
 |m+1,v0,v1,v2=>(AE n).1 (wv n m) v0 v1 v2
theorem EE (n:Nat): ∀ (m:Nat),(∀ (v0:List Notation) (v1:List Notation) (v2:Int),run (ny n) [.lq m [0,1,0,1,1],.qC 0,.cut [1,1,1],.at [1,1,1]] ⟨[.nE false 4 (mp Notation.cells v0),.nE false 4 (mp Notation.cells v1),qA,qA,qA,.int .i64 v2,qA,qA,qA,qA,qA,qA,qA,qA,qA,qA,qA,qA,qA,qA,qA,qA,qA,qA,qA,qA,qA,qA,qA,qA,qA,qA,qA,qA,qA,qA,qA,qA,qA,qA,qA,qA,qA,qA,qA,qA,qA,qA,qA,qA,qA,qA,qA,qA,qA,qA,qA,qA,qA,qA,qA,qA,qA,qA,qA,qA,qA,qA,qA,qA,qA,qA,qA,qA],[],0,[]⟩=wv n m v0 v1 v2)
 |0=>by intros;exact nk
 |m+1=>by
  have ih:=EE n m
  intro v0 v1 v2
  rw[nq]
  exact (AE n).2 m _ ih v0 v1 v2
noncomputable def DW (n:Nat):{B:(List Notation)→(List Notation)→Option Bool // ∀ (a0:(List Notation)) (a1:(List Notation)),run (ny n) [.at []] {slots:=[(oa Notation.row).enc a0,(oa Notation.row).enc a1]++iI (74-[(oa Notation.row).enc a0,(oa Notation.row).enc a1].length) qA,heap:=[]}=B a0 a1}:=by
 apply iJ
 intro a0 a1
 simp (config:={maxSteps:=100000000}) only[go_sem,iz,iA,iq,ir,iB,iC,iE,iF,iG,iy,iD,iH,DS,DT,Tryd.f32,iw,mixed,DU,DV,ya,yc,EE n]
 exact rfl
noncomputable def yN:Nat→(List Notation)→(List Notation)→Option Bool
 |0,_,_=>none
 |n+1,a0,a1=>(DW n).1 a0 a1
theorem NM: ∀ (n:Nat) (a0:(List Notation)) (a1:(List Notation)) (r:Bool),yN n a0 a1=some r→xS Tryd.prog 32 [(oa Notation.row).enc a0,(oa Notation.row).enc a1] (fun v=>v=pe.enc r)
 |0,_,_,_,h=>by cases h
 |n+1,a0,a1,r,h=>by
  exact pL (M:=ny n) ⟨mY,mZ,nH _,nI _,oh,oH,oV,oG⟩ Tryd.func32 rfl rfl ⟨(oa Notation.row).nb 0 _,(oa Notation.row).nb 0 _,trivial⟩ Tryd.ntmps32 Tryd.results32 (fun σ hs=>pz (P:=Tryd.prog) (rs:=[.tmp 4]) (t:=pe) (σ:=σ) (r:=r) hs) (((DW n).2 a0 a1).trans h)
noncomputable def xx:Nrm:=⟨[],[],[zA,zA,zA,zK,zK,zA,zA,zA,zA,zA,zA,zT (oa Notation.row),zK,zK,zA,zA,zA,zA,zT (oa p8),zK,zK,zA,zA,zA,zA,zA,zA,zA,zA,zA,zA,zA,zA,zA,zA,zA,zA],[oK,oA p8],none,none⟩
noncomputable def xy:Nrm:=⟨[(4,1,true)],[],[zA,zA,zA,zK,zK,zA,zA,zA,zA,zA,zA,zT (oa Notation.row),zK,zK,zA,zA,zA,zA,zA,zA,zA,zA,zA,zA,zA,zA,zA,zA,zA,zA,zA,zA,zA,zA,zA,zA,zA],[oK,oA p8],none,none⟩
noncomputable def pS (n:Nat):pO (List Str) where
 body:=(Tryd.f34.body).getD .skip
 P:=Tryd.prog
 cl:=om []
 cd:=oo []
 qT:=ot [([0,1,1,0,0,1,1,0,0,1,0,1,1,1],xx),([0,1,0,1,1,1],xy)]
 cut:=ou []
 n:=n
 out:=pW Tryd.prog [.tmp 2] (oa p8)
 qZ:=nj []
theorem Db (n:Nat):(pS n).P=Tryd.prog∧(pS n).cl=om []∧(pS n).cd=oo []∧(pS n).qT=ot [([0,1,1,0,0,1,1,0,0,1,0,1,1,1],xx),([0,1,0,1,1,1],xy)]∧(pS n).cut=ou []∧(pS n).n=n∧(pS n).out=pW Tryd.prog [.tmp 2] (oa p8)∧(pS n).qZ=nj []:=⟨rfl,rfl,rfl,rfl,rfl,rfl,rfl,rfl⟩
theorem Dc (n:Nat):(pS n).body=(Tryd.f34.body).getD .skip:=rfl
noncomputable def zI (n:Nat):{B:Tz→((List Notation)→Int→Int→(List Str)→Int→Int→T4→(List Str)→Option (List Str))→(List Notation)→Int→Int→(List Str)→Int→Int→T4→(List Str)→Option (List Str) // ∀m2 X2 m X0,(∀ (v0:List Notation) (v1:Int) (v2:Int) (r0:List (Str×Bool)) (r1:List Str) (c1:Nat),c1=r1.length→run (pS n) [.lq m2 [0,1,0,1,1,1],.qC 0,.cut [1,1,1,1],.at [1,1,1,1]] ⟨[qA,qA,qA,.map 0,.acc 1 c1,qA,qA,qA,qA,qA,qA,.nE false 4 (mp Notation.cells v0),.int .i64 v1,.int .i64 v2,qA,qA,qA,qA,qA,qA,qA,qA,qA,qA,qA,qA,qA,qA,qA,qA,qA,qA,qA,qA,qA,qA,qA],[.map (mp mcB r0),.acc true 1 (mp n4 r1)],0,[]⟩=X2 v0 v1 v2 r0 r1)→(∀ (v0:List Notation) (v1:Int) (v2:Int) (v3:List Str) (v4:Int) (v5:Int) (r0:List (Str×Bool)) (r1:List Str) (c1:Nat),c1=r1.length→run (pS n) [.lq m [0,1,1,0,0,1,1,0,0,1,0,1,1,1],.qC 2,.qC 1,.cut [1,1,1,0,0,1,0,1,1,1],.at [1,1,1,0,0,1,0,1,1,1],.lp m2 [0,1,0,1,1,1],.qC 0,.cut [1,1,1,1],.at [1,1,1,1]] ⟨[qA,qA,qA,.map 0,.acc 1 c1,qA,qA,qA,qA,qA,qA,.nE false 4 (mp Notation.cells v0),.int .i64 v1,.int .i64 v2,qA,qA,qA,qA,.nE false 1 (mp n4 v3),.int .i64 v4,.int .i64 v5,qA,qA,qA,qA,qA,qA,qA,qA,qA,qA,qA,qA,qA,qA,qA,qA],[.map (mp mcB r0),.acc true 1 (mp n4 r1)],0,[]⟩=X0 v0 v1 v2 v3 v4 v5 r0 r1)→ ∀ (v0:List Notation) (v1:Int) (v2:Int) (v3:List Str) (v4:Int) (v5:Int) (r0:List (Str×Bool)) (r1:List Str),run (pS n) [.at [0,0,1,1,0,0,1,1,0,0,1,0,1,1,1],.lp m [0,1,1,0,0,1,1,0,0,1,0,1,1,1],.qC 2,.qC 1,.cut [1,1,1,0,0,1,0,1,1,1],.at [1,1,1,0,0,1,0,1,1,1],.lp m2 [0,1,0,1,1,1],.qC 0,.cut [1,1,1,1],.at [1,1,1,1]] ⟨[qA,qA,qA,.map 0,.acc 1 r1.length,qA,qA,qA,qA,qA,qA,.nE false 4 (mp Notation.cells v0),.int .i64 v1,.int .i64 v2,qA,qA,qA,qA,.nE false 1 (mp n4 v3),.int .i64 v4,.int .i64 v5,qA,qA,qA,qA,qA,qA,qA,qA,qA,qA,qA,qA,qA,qA,qA,qA],[.map (mp mcB r0),.acc true 1 (mp n4 r1)],0,[]⟩=B X2 X0 v0 v1 v2 v3 v4 v5 r0 r1}:=by
 apply iJ
 intro m2 X2 m X0 h2 ih v0 v1 v2 v3 v4 v5 r0 r1
 simp (config:={maxSteps:=100000000}) only[go_sem,iz,iA,iq,ir,iB,iC,iE,iF,iG,iy,iD,iH,Db,Dc,Tryd.f34,iw,mixed,xx,xy,h2,ih]
 exact rfl
noncomputable def xz (n:Nat) (X2:(List Notation)→Int→Int→T4→(List Str)→Option (List Str)):Nat→(List Notation)→Int→Int→(List Str)→Int→Int→T4→(List Str)→Option (List Str)
 |0,_,_,_,_,_,_,_,_=>none
 |m+1,v0,v1,v2,v3,v4,v5,r0,r1=>(zI n).1 X2 (xz n X2 m) v0 v1 v2 v3 v4 v5 r0 r1
theorem DX (n:Nat) (m2:Nat) (X2:(List Notation)→Int→Int→T4→(List Str)→Option (List Str)) (h2:(∀ (v0:List Notation) (v1:Int) (v2:Int) (r0:List (Str×Bool)) (r1:List Str) (c1:Nat),c1=r1.length→run (pS n) [.lq m2 [0,1,0,1,1,1],.qC 0,.cut [1,1,1,1],.at [1,1,1,1]] ⟨[qA,qA,qA,.map 0,.acc 1 c1,qA,qA,qA,qA,qA,qA,.nE false 4 (mp Notation.cells v0),.int .i64 v1,.int .i64 v2,qA,qA,qA,qA,qA,qA,qA,qA,qA,qA,qA,qA,qA,qA,qA,qA,qA,qA,qA,qA,qA,qA,qA],[.map (mp mcB r0),.acc true 1 (mp n4 r1)],0,[]⟩=X2 v0 v1 v2 r0 r1)): ∀ (m:Nat),(∀ (v0:List Notation) (v1:Int) (v2:Int) (v3:List Str) (v4:Int) (v5:Int) (r0:List (Str×Bool)) (r1:List Str) (c1:Nat),c1=r1.length→run (pS n) [.lq m [0,1,1,0,0,1,1,0,0,1,0,1,1,1],.qC 2,.qC 1,.cut [1,1,1,0,0,1,0,1,1,1],.at [1,1,1,0,0,1,0,1,1,1],.lp m2 [0,1,0,1,1,1],.qC 0,.cut [1,1,1,1],.at [1,1,1,1]] ⟨[qA,qA,qA,.map 0,.acc 1 c1,qA,qA,qA,qA,qA,qA,.nE false 4 (mp Notation.cells v0),.int .i64 v1,.int .i64 v2,qA,qA,qA,qA,.nE false 1 (mp n4 v3),.int .i64 v4,.int .i64 v5,qA,qA,qA,qA,qA,qA,qA,qA,qA,qA,qA,qA,qA,qA,qA,qA],[.map (mp mcB r0),.acc true 1 (mp n4 r1)],0,[]⟩=xz n X2 m v0 v1 v2 v3 v4 v5 r0 r1)
 |0=>by intros;exact nk
 |m+1=>by
  have ih:=DX n m2 X2 h2 m
  intro v0 v1 v2 v3 v4 v5 r0 r1 c1 ec1
  subst ec1
  rw[nq]
  exact (zI n).2 m2 X2 m _ h2 ih v0 v1 v2 v3 v4 v5 r0 r1
noncomputable def zJ (n:Nat):{B:Tz→(List Notation)→Int→Int→T4→(List Str)→Option (List Str) // ∀m X0,(∀ (v0:List Notation) (v1:Int) (v2:Int) (r0:List (Str×Bool)) (r1:List Str) (c1:Nat),c1=r1.length→run (pS n) [.lq m [0,1,0,1,1,1],.qC 0,.cut [1,1,1,1],.at [1,1,1,1]] ⟨[qA,qA,qA,.map 0,.acc 1 c1,qA,qA,qA,qA,qA,qA,.nE false 4 (mp Notation.cells v0),.int .i64 v1,.int .i64 v2,qA,qA,qA,qA,qA,qA,qA,qA,qA,qA,qA,qA,qA,qA,qA,qA,qA,qA,qA,qA,qA,qA,qA],[.map (mp mcB r0),.acc true 1 (mp n4 r1)],0,[]⟩=X0 v0 v1 v2 r0 r1)→ ∀ (v0:List Notation) (v1:Int) (v2:Int) (r0:List (Str×Bool)) (r1:List Str),run (pS n) [.at [0,0,1,0,1,1,1],.lp m [0,1,0,1,1,1],.qC 0,.cut [1,1,1,1],.at [1,1,1,1]] ⟨[qA,qA,qA,.map 0,.acc 1 r1.length,qA,qA,qA,qA,qA,qA,.nE false 4 (mp Notation.cells v0),.int .i64 v1,.int .i64 v2,qA,qA,qA,qA,qA,qA,qA,qA,qA,qA,qA,qA,qA,qA,qA,qA,qA,qA,qA,qA,qA,qA,qA],[.map (mp mcB r0),.acc true 1 (mp n4 r1)],0,[]⟩=B X0 v0 v1 v2 r0 r1}:=by
 apply iJ
 intro m X0 ih v0 v1 v2 r0 r1
 simp (config:={maxSteps:=100000000}) only[go_sem,iz,iA,iq,ir,iB,iC,iE,iF,iG,iy,iD,iH,Db,Dc,Tryd.f34,iw,mixed,xx,xy,DX n m X0 ih,ih]
 exact rfl
noncomputable def xA (n:Nat):Nat→(List Notation)→Int→Int→T4→(List Str)→Option (List Str)
 |0,_,_,_,_,_=>none
 |m+1,v0,v1,v2,r0,r1=>(zJ n).1 (xA n m) v0 v1 v2 r0 r1
theorem DY (n:Nat): ∀ (m:Nat),(∀ (v0:List Notation) (v1:Int) (v2:Int) (r0:List (Str×Bool)) (r1:List Str) (c1:Nat),c1=r1.length→run (pS n) [.lq m [0,1,0,1,1,1],.qC 0,.cut [1,1,1,1],.at [1,1,1,1]] ⟨[qA,qA,qA,.map 0,.acc 1 c1,qA,qA,qA,qA,qA,qA,.nE false 4 (mp Notation.cells v0),.int .i64 v1,.int .i64 v2,qA,qA,qA,qA,qA,qA,qA,qA,qA,qA,qA,qA,qA,qA,qA,qA,qA,qA,qA,qA,qA,qA,qA],[.map (mp mcB r0),.acc true 1 (mp n4 r1)],0,[]⟩=xA n m v0 v1 v2 r0 r1)
 |0=>by intros;exact nk
 |m+1=>by
  have ih:=DY n m
  intro v0 v1 v2 r0 r1 c1 ec1
  subst ec1
  rw[nq]
  exact (zJ n).2 m _ ih v0 v1 v2 r0 r1
noncomputable def Dd (n:Nat):{B:(List Notation)→Option (List Str) // ∀ (a0:(List Notation)),run (pS n) [.at []] {slots:=[(oa Notation.row).enc a0]++iI (37-[(oa Notation.row).enc a0].length) qA,heap:=[]}=B a0}:=by
 apply iJ
 intro a0
 simp (config:={maxSteps:=100000000}) only[go_sem,iz,iA,iq,ir,iB,iC,iE,iF,iG,iy,iD,iH,Db,Dc,Tryd.f34,iw,mixed,xx,xy,DY n]
 exact rfl
noncomputable def Ab:Nat→(List Notation)→Option (List Str)
 |0,_=>none
 |n+1,a0=>(Dd n).1 a0
theorem ML: ∀ (n:Nat) (a0:(List Notation)) (r:(List Str)),Ab n a0=some r→xS Tryd.prog 34 [(oa Notation.row).enc a0] (fun v=>v=(oa p8).enc r)
 |0,_,_,h=>by cases h
 |n+1,a0,r,h=>by
  exact pL (M:=pS n) ⟨mY,mZ,nH _,nI _,oh,oH,oV,oG⟩ Tryd.func34 rfl rfl ⟨(oa Notation.row).nb 0 _,trivial⟩ Tryd.ntmps34 Tryd.results34 (fun σ hs=>pz (P:=Tryd.prog) (rs:=[.tmp 2]) (t:=(oa p8)) (σ:=σ) (r:=r) hs) (((Dd n).2 a0).trans h)
end Go.Abs
namespace Go.Abs
open Go.Proofs
set_option maxRecDepth 100000
set_option maxHeartbeats 4000000
noncomputable def GC:Nrm:=⟨[],[],[zT (oa p8),zK,zA,zA,zA,zK,zA,zA,zA,zA,zA,zA,zA,zA,zA,zA,zA,zA],[],none,none⟩
noncomputable def uS (n:Nat):pO Bool where
 body:=(Tryd.f63.body).getD .skip
 P:=Tryd.prog
 cl:=om []
 cd:=oo []
 qT:=ot [([0,1,0,1],GC)]
 cut:=ou []
 n:=n
 out:=pW Tryd.prog [.tmp 4] pe
 qZ:=nj []
theorem Qw (n:Nat):(uS n).P=Tryd.prog∧(uS n).cl=om []∧(uS n).cd=oo []∧(uS n).qT=ot [([0,1,0,1],GC)]∧(uS n).cut=ou []∧(uS n).n=n∧(uS n).out=pW Tryd.prog [.tmp 4] pe∧(uS n).qZ=nj []:=⟨rfl,rfl,rfl,rfl,rfl,rfl,rfl,rfl⟩
theorem Qx (n:Nat):(uS n).body=(Tryd.f63.body).getD .skip:=rfl
noncomputable def GD (n:Nat):{B:((List Str)→Str→Int→Option Bool)→(List Str)→Str→Int→Option Bool // ∀m X0,(∀ (v0:List Str) (v1:Str) (v2:Int),run (uS n) [.lq m [0,1,0,1],.qC 0,.cut [1,1],.at [1,1]] ⟨[.nE false 1 (mp n4 v0),.str (sb v1),qA,qA,qA,.int .i64 v2,qA,qA,qA,qA,qA,qA,qA,qA,qA,qA,qA,qA],[],0,[]⟩=X0 v0 v1 v2)→ ∀ (v0:List Str) (v1:Str) (v2:Int),run (uS n) [.at [0,0,1,0,1],.lp m [0,1,0,1],.qC 0,.cut [1,1],.at [1,1]] ⟨[.nE false 1 (mp n4 v0),.str (sb v1),qA,qA,qA,.int .i64 v2,qA,qA,qA,qA,qA,qA,qA,qA,qA,qA,qA,qA],[],0,[]⟩=B X0 v0 v1 v2}:=by
 apply iJ
 intro m X0 ih v0 v1 v2
 simp (config:={maxSteps:=100000000}) only[go_sem,iz,iA,iq,ir,iB,iC,iE,iF,iG,iy,iD,iH,Qw,Qx,Tryd.f63,iw,mixed,GC,ih]
 exact rfl
noncomputable def DZ (n:Nat):Nat→(List Str)→Str→Int→Option Bool
 |0,_,_,_=>none
 |m+1,v0,v1,v2=>(GD n).1 (DZ n m) v0 v1 v2
theorem K6 (n:Nat): ∀ (m:Nat),(∀ (v0:List Str) (v1:Str) (v2:Int),run (uS n) [.lq m [0,1,0,1],.qC 0,.cut [1,1],.at [1,1]] ⟨[.nE false 1 (mp n4 v0),.str (sb v1),qA,qA,qA,.int .i64 v2,qA,qA,qA,qA,qA,qA,qA,qA,qA,qA,qA,qA],[],0,[]⟩=DZ n m v0 v1 v2)
 |0=>by intros;exact nk
 |m+1=>by
  have ih:=K6 n m
  intro v0 v1 v2
  rw[nq]
  exact (GD n).2 m _ ih v0 v1 v2
noncomputable def LH (n:Nat):{B:(List Str)→Str→Option Bool // ∀ (a0:(List Str)) (a1:Str),run (uS n) [.at []] {slots:=[(oa p8).enc a0,sD.enc a1]++iI (18-[(oa p8).enc a0,sD.enc a1].length) qA,heap:=[]}=B a0 a1}:=by
 apply iJ
 intro a0 a1
 simp (config:={maxSteps:=100000000}) only[go_sem,iz,iA,iq,ir,iB,iC,iE,iF,iG,iy,iD,iH,Qw,Qx,Tryd.f63,iw,mixed,GC,K6 n]
 exact rfl
noncomputable def JE:Nat→(List Str)→Str→Option Bool
 |0,_,_=>none
 |n+1,a0,a1=>(LH n).1 a0 a1
theorem WZ: ∀ (n:Nat) (a0:(List Str)) (a1:Str) (r:Bool),JE n a0 a1=some r→xS Tryd.prog 63 [(oa p8).enc a0,sD.enc a1] (fun v=>v=pe.enc r)
 |0,_,_,_,h=>by cases h
 |n+1,a0,a1,r,h=>by
  exact pL (M:=uS n) ⟨mY,mZ,nH _,nI _,oh,oH,oV,oG⟩ Tryd.func63 rfl rfl ⟨(oa p8).nb 0 _,sD.nb 0 _,trivial⟩ Tryd.ntmps63 Tryd.results63 (fun σ hs=>pz (P:=Tryd.prog) (rs:=[.tmp 4]) (t:=pe) (σ:=σ) (r:=r) hs) (((LH n).2 a0 a1).trans h)
noncomputable def xJ:Nrm:=⟨[],[],[zT (oa p8),zT (oa p8),zA,zA,zA,zA,zA,zA,zA,zA,zA,zA,zK,zK,zA,zA,zA,zA,zA,zA,zA,zA,zA,zA,zA,zA],[],none,none⟩
noncomputable def pg (n:Nat):pO Bool where
 body:=(Tryd.f33.body).getD .skip
 P:=Tryd.prog
 cl:=om []
 cd:=oo []
 qT:=ot [([0,1,0,1,1],xJ)]
 cut:=ou []
 n:=n
 out:=pW Tryd.prog [.tmp 4] pe
 qZ:=nj []
 Ay:=nj []
 Ax:=nj []
theorem EF (n:Nat):(pg n).P=Tryd.prog∧(pg n).cl=om []∧(pg n).cd=oo []∧(pg n).qT=ot [([0,1,0,1,1],xJ)]∧(pg n).cut=ou []∧(pg n).n=n∧(pg n).out=pW Tryd.prog [.tmp 4] pe∧(pg n).qZ=nj []∧(pg n).Ay=nj []∧(pg n).Ax=nj []:=⟨rfl,rfl,rfl,rfl,rfl,rfl,rfl,rfl,rfl,rfl⟩
theorem EG (n:Nat):(pg n).body=(Tryd.f33.body).getD .skip:=rfl
theorem EH (n:Nat):tY (pg n) [0,1,0,0,1,1,0,0,1,0,1,1]=true:=by kernel_rfl
noncomputable def xK (n:Nat):{B:((List Str)→(List Str)→Int→Int→Option Bool)→(List Str)→(List Str)→Int→Int→Option Bool // ∀m X0,(∀ (v0:List Str) (v1:List Str) (v2:Int) (v3:Int),run (pg n) [.lq m [0,1,0,1,1],.qC 0,.cut [1,1,1],.at [1,1,1]] ⟨[.nE false 1 (mp n4 v0),.nE false 1 (mp n4 v1),qA,qA,qA,qA,qA,qA,qA,qA,qA,qA,.int .i64 v2,.int .i64 v3,qA,qA,qA,qA,qA,qA,qA,qA,qA,qA,qA,qA],[],0,[]⟩=X0 v0 v1 v2 v3)→ ∀ (v0:List Str) (v1:List Str) (v2:Int) (v3:Int),run (pg n) [.at [0,0,1,0,1,1],.lp m [0,1,0,1,1],.qC 0,.cut [1,1,1],.at [1,1,1]] ⟨[.nE false 1 (mp n4 v0),.nE false 1 (mp n4 v1),qA,qA,qA,qA,qA,qA,qA,qA,qA,qA,.int .i64 v2,.int .i64 v3,qA,qA,qA,qA,qA,qA,qA,qA,qA,qA,qA,qA],[],0,[]⟩=B X0 v0 v1 v2 v3}:=by
 apply iJ
 intro m X0 ih v0 v1 v2 v3
 simp (config:={maxSteps:=100000000}) only[go_sem,iz,iA,iq,ir,iB,iC,iE,iF,iG,iy,iD,iH,EF,EG,Tryd.f33,iw,mixed,EH,xJ,ih]
 exact rfl
noncomputable def uJ (n:Nat):Nat→(List Str)→(List Str)→Int→Int→Option Bool
 |0,_,_,_,_=>none
 |m+1,v0,v1,v2,v3=>(xK n).1 (uJ n m) v0 v1 v2 v3
theorem Cq (n:Nat): ∀ (m:Nat),(∀ (v0:List Str) (v1:List Str) (v2:Int) (v3:Int),run (pg n) [.lq m [0,1,0,1,1],.qC 0,.cut [1,1,1],.at [1,1,1]] ⟨[.nE false 1 (mp n4 v0),.nE false 1 (mp n4 v1),qA,qA,qA,qA,qA,qA,qA,qA,qA,qA,.int .i64 v2,.int .i64 v3,qA,qA,qA,qA,qA,qA,qA,qA,qA,qA,qA,qA],[],0,[]⟩=uJ n m v0 v1 v2 v3)
 |0=>by intros;exact nk
 |m+1=>by
  have ih:=Cq n m
  intro v0 v1 v2 v3
  rw[nq]
  exact (xK n).2 m _ ih v0 v1 v2 v3
noncomputable def Be (n:Nat):{B:(List Str)→(List Str)→Option Bool // ∀ (a0:(List Str)) (a1:(List Str)),run (pg n) [.at []] {slots:=[(oa p8).enc a0,(oa p8).enc a1]++iI (26-[(oa p8).enc a0,(oa p8).enc a1].length) qA,heap:=[]}=B a0 a1}:=by
 apply iJ
 intro a0 a1
 simp (config:={maxSteps:=100000000}) only[go_sem,iz,iA,iq,ir,iB,iC,iE,iF,iG,iy,iD,iH,EF,EG,Tryd.f33,iw,mixed,EH,xJ,Cq n]
 exact rfl
noncomputable def xB:Nat→(List Str)→(List Str)→Option Bool
 |0,_,_=>none
 |n+1,a0,a1=>(Be n).1 a0 a1
theorem Ks: ∀ (n:Nat) (a0:(List Str)) (a1:(List Str)) (r:Bool),xB n a0 a1=some r→xS Tryd.prog 33 [(oa p8).enc a0,(oa p8).enc a1] (fun v=>v=pe.enc r)
 |0,_,_,_,h=>by cases h
 |n+1,a0,a1,r,h=>by
  exact pL (M:=pg n) ⟨mY,mZ,nH _,nI _,oh,oH,oV,oG⟩ Tryd.func33 rfl rfl ⟨(oa p8).nb 0 _,(oa p8).nb 0 _,trivial⟩ Tryd.ntmps33 Tryd.results33 (fun σ hs=>pz (P:=Tryd.prog) (rs:=[.tmp 4]) (t:=pe) (σ:=σ) (r:=r) hs) (((Be n).2 a0 a1).trans h)
noncomputable def D0:Nrm:=⟨[],[],[zA,zK,zA,zA,zA,zA,zA,zA,zA,zA,zA,zA,zA,zA,zA,zA,zA,zA,zA,zA,zA,zA,zA,zA,zA,zA,zA,zA,zA,zA,zA,zA,zA,zT (oa Syntax.row),zK,zK,zA,zA,zA,zA,zA,zA,zA,zA,zA,zA,zA,zA,zA,zA],[],none,none⟩
noncomputable def s6 (X:Syntax→Int→Option (Int×Bool)) (n:Nat):pO (Int×Bool) where
 body:=(Tryd.f50.body).getD .skip
 P:=Tryd.prog
 cl:=om [(50,tH (nF Syntax.cel) (o9 .i64) (K0 (o9 .i64) pe) X)]
 cd:=oo []
 qT:=ot [([0,1,0,1,1,1],D0)]
 cut:=ou []
 n:=n
 out:=pW Tryd.prog [.tmp 4,.tmp 5] (K0 (o9 .i64) pe)
 qZ:=nj []
theorem M3 (X:Syntax→Int→Option (Int×Bool)) (n:Nat):(s6 X n).P=Tryd.prog∧(s6 X n).cl=om [(50,tH (nF Syntax.cel) (o9 .i64) (K0 (o9 .i64) pe) X)]∧(s6 X n).cd=oo []∧(s6 X n).qT=ot [([0,1,0,1,1,1],D0)]∧(s6 X n).cut=ou []∧(s6 X n).n=n∧(s6 X n).out=pW Tryd.prog [.tmp 4,.tmp 5] (K0 (o9 .i64) pe)∧(s6 X n).qZ=nj []:=⟨rfl,rfl,rfl,rfl,rfl,rfl,rfl,rfl⟩
theorem M4 (X:Syntax→Int→Option (Int×Bool)) (n:Nat):(s6 X n).body=(Tryd.f50.body).getD .skip:=rfl
noncomputable def D1 (X:Syntax→Int→Option (Int×Bool)) (n:Nat):{B:(Int→(List Syntax)→Int→Int→Option (Int×Bool))→Int→(List Syntax)→Int→Int→Option (Int×Bool) // ∀m X0,(∀ (v0:Int) (v1:List Syntax) (v2:Int) (v3:Int),run (s6 X n) [.lq m [0,1,0,1,1,1],.qC 0,.cut [1,1,1,1],.at [1,1,1,1]] ⟨[qA,.int .i64 v0,qA,qA,qA,qA,qA,qA,qA,qA,qA,qA,qA,qA,qA,qA,qA,qA,qA,qA,qA,qA,qA,qA,qA,qA,qA,qA,qA,qA,qA,qA,qA,.nE false 8 (mp Syntax.cells v1),.int .i64 v2,.int .i64 v3,qA,qA,qA,qA,qA,qA,qA,qA,qA,qA,qA,qA,qA,qA],[],0,[]⟩=X0 v0 v1 v2 v3)→ ∀ (v0:Int) (v1:List Syntax) (v2:Int) (v3:Int),run (s6 X n) [.at [0,0,1,0,1,1,1],.lp m [0,1,0,1,1,1],.qC 0,.cut [1,1,1,1],.at [1,1,1,1]] ⟨[qA,.int .i64 v0,qA,qA,qA,qA,qA,qA,qA,qA,qA,qA,qA,qA,qA,qA,qA,qA,qA,qA,qA,qA,qA,qA,qA,qA,qA,qA,qA,qA,qA,qA,qA,.nE false 8 (mp Syntax.cells v1),.int .i64 v2,.int .i64 v3,qA,qA,qA,qA,qA,qA,qA,qA,qA,qA,qA,qA,qA,qA],[],0,[]⟩=B X0 v0 v1 v2 v3}:=by
 apply iJ
 intro m X0 ih v0 v1 v2 v3
 simp (config:={maxSteps:=100000000}) only[go_sem,iz,iA,iq,ir,iB,iC,iE,iF,iG,iy,iD,iH,M3,M4,Tryd.f50,iw,mixed,D0,ih]
 exact rfl
noncomputable def Ac (X:Syntax→Int→Option (Int×Bool)) (n:Nat):Nat→Int→(List Syntax)→Int→Int→Option (Int×Bool)
 |0,_,_,_,_=>none
 |m+1,v0,v1,v2,v3=>(D1 X n).1 (Ac X n m) v0 v1 v2 v3
theorem H7 (X:Syntax→Int→Option (Int×Bool)) (n:Nat): ∀ (m:Nat),(∀ (v0:Int) (v1:List Syntax) (v2:Int) (v3:Int),run (s6 X n) [.lq m [0,1,0,1,1,1],.qC 0,.cut [1,1,1,1],.at [1,1,1,1]] ⟨[qA,.int .i64 v0,qA,qA,qA,qA,qA,qA,qA,qA,qA,qA,qA,qA,qA,qA,qA,qA,qA,qA,qA,qA,qA,qA,qA,qA,qA,qA,qA,qA,qA,qA,qA,.nE false 8 (mp Syntax.cells v1),.int .i64 v2,.int .i64 v3,qA,qA,qA,qA,qA,qA,qA,qA,qA,qA,qA,qA,qA,qA],[],0,[]⟩=Ac X n m v0 v1 v2 v3)
 |0=>by intros;exact nk
 |m+1=>by
  have ih:=H7 X n m
  intro v0 v1 v2 v3
  rw[nq]
  exact (D1 X n).2 m _ ih v0 v1 v2 v3
noncomputable def IW (X:Syntax→Int→Option (Int×Bool)) (n:Nat):{B:Syntax→Int→Option (Int×Bool) // ∀ (a0:Syntax) (a1:Int),run (s6 X n) [.at []] {slots:=[(nF Syntax.cel).enc a0,(o9 .i64).enc a1]++iI (50-[(nF Syntax.cel).enc a0,(o9 .i64).enc a1].length) qA,heap:=[]}=B a0 a1}:=by
 apply iJ
 intro a0 a1
 simp (config:={maxSteps:=100000000}) only[go_sem,iz,iA,iq,ir,iB,iC,iE,iF,iG,iy,iD,iH,M3,M4,Tryd.f50,iw,mixed,D0,H7 X n]
 exact rfl
noncomputable def xQ:Nat→Syntax→Int→Option (Int×Bool)
 |0,_,_=>none
 |n+1,a0,a1=>(IW (xQ n) n).1 a0 a1
theorem LI: ∀ (n:Nat) (a0:Syntax) (a1:Int) (r:(Int×Bool)),xQ n a0 a1=some r→xS Tryd.prog 50 [(nF Syntax.cel).enc a0,(o9 .i64).enc a1] (fun v=>v=(K0 (o9 .i64) pe).enc r)
 |0,_,_,_,h=>by cases h
 |n+1,a0,a1,r,h=>by
  have SO:=LI n
  exact pL (M:=s6 (xQ n) n) ⟨(mV (uH (SO)) mY),mZ,nH _,nI _,oh,oH,oV,oG⟩ Tryd.func50 rfl rfl ⟨(nF Syntax.cel).nb 0 _,(o9 .i64).nb 0 _,trivial⟩ Tryd.ntmps50 Tryd.results50 (fun σ hs=>pz (P:=Tryd.prog) (rs:=[.tmp 4,.tmp 5]) (t:=(K0 (o9 .i64) pe)) (σ:=σ) (r:=r) hs) (((IW (xQ n) n).2 a0 a1).trans h)
noncomputable def pU (n:Nat):pO (Tj×Tt) where
 body:=(Tryd.f84.body).getD .skip
 P:=Tryd.prog
 cl:=om []
 cd:=oo []
 qT:=ot []
 cut:=ou []
 n:=n
 out:=outG Tryd.prog [.tmp 2,.tmp 3] (B9 (ID mO.cel) Ba) (Jw sD (Jw pe Kf)) 1
 qZ:=nj []
 Ay:=nj []
 Ax:=nj []
theorem Lg (n:Nat):(pU n).P=Tryd.prog∧(pU n).cl=om []∧(pU n).cd=oo []∧(pU n).qT=ot []∧(pU n).cut=ou []∧(pU n).n=n∧(pU n).out=outG Tryd.prog [.tmp 2,.tmp 3] (B9 (ID mO.cel) Ba) (Jw sD (Jw pe Kf)) 1∧(pU n).qZ=nj []∧(pU n).Ay=nj []∧(pU n).Ax=nj []:=⟨rfl,rfl,rfl,rfl,rfl,rfl,rfl,rfl,rfl,rfl⟩
theorem Lh (n:Nat):(pU n).body=(Tryd.f84.body).getD .skip:=rfl
theorem Li (n:Nat):tY (pU n) [0,0,1]=true∧tY (pU n) [0,1,1]=true:=⟨by kernel_rfl,by kernel_rfl⟩
noncomputable def Bf (n:Nat):{B:mO→Option (Tj×Tt) // ∀ (a0:mO),run (pU n) [.at []] {slots:=((Uu 0 Mo).enc (a0,()) ())++iI (45-((Uu 0 Mo).enc (a0,()) ()).length) qA,heap:=((B9 (ID mO.cel) Ba).enc (a0,())),low:=((B9 (ID mO.cel) Ba).enc (a0,())).length}=B a0}:=by
 apply iJ
 intro a0
 simp (config:={maxSteps:=100000000}) only[go_sem,iz,iA,iq,ir,iB,iC,iE,iF,iG,iy,iD,iH,Lg,Lh,Tryd.f84,iw,mixed,Li]
 exact rfl
noncomputable def uQ:Nat→mO→Option (Tj×Tt)
 |0,_=>none
 |n+1,a0=>(Bf n).1 a0
theorem D2: ∀ (n:Nat) (a0:mO) (r:(Tj×Tt)),uQ n a0=some r→Ob Tryd.prog 84 ((Uu 0 Mo).enc (a0,()) ()) ((B9 (ID mO.cel) Ba).enc (a0,())) (fun o H'=>o= .ret (uR ((Jw sD (Jw pe Kf)).enc r.1 r.2))∧H'=(B9 (ID mO.cel) Ba).enc r.1)
 |0,_,_,h=>by cases h
 |n+1,a0,r,h=>by
  exact wW (M:=pU n) ⟨mY,mZ,nH _,nI _,oh,oH,oV,oG⟩ Tryd.func84 rfl rfl (by simp only[go_sem,iz,iA,iq,ir,iB,iC,iE,iF,iG,iy,iD,iH]) ((B9 (ID mO.cel) Ba).nb _ _) Tryd.ntmps84 Tryd.results84 (fun σ hs=>Ro hs) (((Bf n).2 a0).trans h)
noncomputable def D3:Nrm:=⟨[],[],[zA,zT (oa Syntax.row),zK,zK,zA,zA,zA,zA,zK,zK,zK,zA,zA,zA,zA,zA,zA,zA,zA,zA,zA,zA,zA,zA,zA,zA,zA,zA,zA,zA,zA,zA],[oD,oK,oC [zK,zK,zK,zK,zK,zT (oa Syntax.row),zK,zK]],none,none⟩
noncomputable def qM (n:Nat):pO Syntax where
 body:=(Tryd.f102.body).getD .skip
 P:=Tryd.prog
 cl:=om []
 cd:=oo []
 qT:=ot [([0,1,0,1,1],D3)]
 cut:=ou []
 n:=n
 out:=pW Tryd.prog [.cell 8 36] (nF Syntax.cel)
 qZ:=nj []
 Ay:=nj []
 Ax:=nj []
theorem M5 (n:Nat):(qM n).P=Tryd.prog∧(qM n).cl=om []∧(qM n).cd=oo []∧(qM n).qT=ot [([0,1,0,1,1],D3)]∧(qM n).cut=ou []∧(qM n).n=n∧(qM n).out=pW Tryd.prog [.cell 8 36] (nF Syntax.cel)∧(qM n).qZ=nj []∧(qM n).Ay=nj []∧(qM n).Ax=nj []:=⟨rfl,rfl,rfl,rfl,rfl,rfl,rfl,rfl,rfl,rfl⟩
theorem M6 (n:Nat):(qM n).body=(Tryd.f102.body).getD .skip:=rfl
theorem M7 (n:Nat):tY (qM n) [0,0,1,0,0,1,0,1,1]=true:=by kernel_rfl
theorem M8 (n:Nat):sX (qM n) [0,0,1,0,0,1,0,1,1] 0 9=true∧sX (qM n) [0,0,1,0,0,1,0,1,1] 3 9=true∧sX (qM n) [0,0,1,0,0,1,0,1,1] 4 9=true:=⟨by kernel_rfl,by kernel_rfl,by kernel_rfl⟩
noncomputable def D4 (n:Nat):{B:((List Syntax)→Int→Int→Int→Int→Str→(List Syntax)→Int→Int→Option Syntax)→(List Syntax)→Int→Int→Int→Int→Str→(List Syntax)→Int→Int→Option Syntax // ∀m X0,(∀ (v0:List Syntax) (v1:Int) (v2:Int) (v3:Int) (v4:Int) (v5:Str) (v6:List Syntax) (v7:Int) (v8:Int),run (qM n) [.lq m [0,1,0,1,1],.qC 0,.cut [1,1,1],.at [1,1,1]] ⟨[qA,.nE false 8 (mp Syntax.cells v0),.int .i64 v1,.int .i64 v2,qA,qA,qA,qA,.ptr 1 0,.ptr 2 0,.int .i64 v3,qA,qA,qA,qA,qA,qA,qA,qA,qA,qA,qA,qA,qA,qA,qA,qA,qA,qA,qA,qA,qA],[.dead,.cells [.int .i64 0,.str (sb []),.int .i64 0,.nE true 0 [],.nE true 0 [],.nE true 0 [],.int .i64 0,.int .i64 0],.cells [.int .i64 v4,.str (sb v5),.int .i64 0,.nE true 0 [],.nE true 0 [],.nE false 8 (mp Syntax.cells v6),.int .i64 v7,.int .i64 v8]],0,[]⟩=X0 v0 v1 v2 v3 v4 v5 v6 v7 v8)→ ∀ (v0:List Syntax) (v1:Int) (v2:Int) (v3:Int) (v4:Int) (v5:Str) (v6:List Syntax) (v7:Int) (v8:Int),run (qM n) [.at [0,0,1,0,1,1],.lp m [0,1,0,1,1],.qC 0,.cut [1,1,1],.at [1,1,1]] ⟨[qA,.nE false 8 (mp Syntax.cells v0),.int .i64 v1,.int .i64 v2,qA,qA,qA,qA,.ptr 1 0,.ptr 2 0,.int .i64 v3,qA,qA,qA,qA,qA,qA,qA,qA,qA,qA,qA,qA,qA,qA,qA,qA,qA,qA,qA,qA,qA],[.dead,.cells [.int .i64 0,.str (sb []),.int .i64 0,.nE true 0 [],.nE true 0 [],.nE true 0 [],.int .i64 0,.int .i64 0],.cells [.int .i64 v4,.str (sb v5),.int .i64 0,.nE true 0 [],.nE true 0 [],.nE false 8 (mp Syntax.cells v6),.int .i64 v7,.int .i64 v8]],0,[]⟩=B X0 v0 v1 v2 v3 v4 v5 v6 v7 v8}:=by
 apply iJ
 intro m X0 ih v0 v1 v2 v3 v4 v5 v6 v7 v8
 simp (config:={maxSteps:=100000000}) only[go_sem,iz,iA,iq,ir,iB,iC,iE,iF,iG,iy,iD,iH,M5,M6,Tryd.f102,iw,mixed,M7,M8,D3,ih]
 exact rfl
noncomputable def Ad (n:Nat):Nat→(List Syntax)→Int→Int→Int→Int→Str→(List Syntax)→Int→Int→Option Syntax
 |0,_,_,_,_,_,_,_,_,_=>none
 |m+1,v0,v1,v2,v3,v4,v5,v6,v7,v8=>(D4 n).1 (Ad n m) v0 v1 v2 v3 v4 v5 v6 v7 v8
theorem H8 (n:Nat): ∀ (m:Nat),(∀ (v0:List Syntax) (v1:Int) (v2:Int) (v3:Int) (v4:Int) (v5:Str) (v6:List Syntax) (v7:Int) (v8:Int),run (qM n) [.lq m [0,1,0,1,1],.qC 0,.cut [1,1,1],.at [1,1,1]] ⟨[qA,.nE false 8 (mp Syntax.cells v0),.int .i64 v1,.int .i64 v2,qA,qA,qA,qA,.ptr 1 0,.ptr 2 0,.int .i64 v3,qA,qA,qA,qA,qA,qA,qA,qA,qA,qA,qA,qA,qA,qA,qA,qA,qA,qA,qA,qA,qA],[.dead,.cells [.int .i64 0,.str (sb []),.int .i64 0,.nE true 0 [],.nE true 0 [],.nE true 0 [],.int .i64 0,.int .i64 0],.cells [.int .i64 v4,.str (sb v5),.int .i64 0,.nE true 0 [],.nE true 0 [],.nE false 8 (mp Syntax.cells v6),.int .i64 v7,.int .i64 v8]],0,[]⟩=Ad n m v0 v1 v2 v3 v4 v5 v6 v7 v8)
 |0=>by intros;exact nk
 |m+1=>by
  have ih:=H8 n m
  intro v0 v1 v2 v3 v4 v5 v6 v7 v8
  rw[nq]
  exact (D4 n).2 m _ ih v0 v1 v2 v3 v4 v5 v6 v7 v8
noncomputable def IX (n:Nat):{B:Notation→(List Syntax)→Int→Int→Option Syntax // ∀ (a0:Notation) (a1:(List Syntax)) (a2:Int) (a3:Int),run (qM n) [.at []] {slots:=[(nF Notation.cel).enc a0,(oa Syntax.row).enc a1,(o9 .i64).enc a2,(o9 .i64).enc a3]++iI (32-[(nF Notation.cel).enc a0,(oa Syntax.row).enc a1,(o9 .i64).enc a2,(o9 .i64).enc a3].length) qA,heap:=[]}=B a0 a1 a2 a3}:=by
 apply iJ
 intro a0 a1 a2 a3
 simp (config:={maxSteps:=100000000}) only[go_sem,iz,iA,iq,ir,iB,iC,iE,iF,iG,iy,iD,iH,M5,M6,Tryd.f102,iw,mixed,M7,M8,D3,H8 n]
 exact rfl
noncomputable def FU:Nat→Notation→(List Syntax)→Int→Int→Option Syntax
 |0,_,_,_,_=>none
 |n+1,a0,a1,a2,a3=>(IX n).1 a0 a1 a2 a3
theorem SP: ∀ (n:Nat) (a0:Notation) (a1:(List Syntax)) (a2:Int) (a3:Int) (r:Syntax),FU n a0 a1 a2 a3=some r→xS Tryd.prog 102 [(nF Notation.cel).enc a0,(oa Syntax.row).enc a1,(o9 .i64).enc a2,(o9 .i64).enc a3] (fun v=>v=(nF Syntax.cel).enc r)
 |0,_,_,_,_,_,h=>by cases h
 |n+1,a0,a1,a2,a3,r,h=>by
  exact pL (M:=qM n) ⟨mY,mZ,nH _,nI _,oh,oH,oV,oG⟩ Tryd.func102 rfl rfl ⟨(nF Notation.cel).nb 0 _,(oa Syntax.row).nb 0 _,(o9 .i64).nb 0 _,(o9 .i64).nb 0 _,trivial⟩ Tryd.ntmps102 Tryd.results102 (fun σ hs=>pz (P:=Tryd.prog) (rs:=[.cell 8 36]) (t:=(nF Syntax.cel)) (σ:=σ) (r:=r) hs) (((IX n).2 a0 a1 a2 a3).trans h)
end Go.Abs
