/- A part of the proof: what the functions compute. -/
import Derived.Test.YtfilfimjoeapgaaDoorDataA
import Derived.Test.YtfilfimjoeapgaaDoorWalkA
set_option linter.all false
open Nat renaming reduceLeDiff → iM,reduceEqDiff → iN,reduceAdd → iQ,reduceSub → iR,reduceBEq → iS,reduceMul → iT,reduceLT → iV,le_trans → jd,le_of_eq → je
open Option renaming getD_some → iO
open Int renaming reduceToNat → iP,reduceBEq → iU,reduceLE → iW,reduceLT → iX,reduceEq → iY
open Subtype renaming mk → iZ
open List renaming replicate → jc
open Go.Abs.AV renaming any → qA
namespace Go.Abs
open Go.Proofs
set_option maxRecDepth 100000
set_option maxHeartbeats 4000000
noncomputable def rR:Nrm:=⟨[],[],[zT (oa p8),zT (O3 39),zA,zA,zA,zA,zA,zK,zK,zA,zA,zA,zA,zA,zA,zA,zA,zA,zA],[],none,none⟩
noncomputable def nu (n:Nat):pO Int where
 body:=(Tryd.f65.body).getD .skip
 P:=Tryd.prog
 cl:=om [(39,qj sD pe (Fo n))]
 cd:=oo []
 qT:=ot [([0,1,0,1],rR)]
 cut:=ou []
 n:=n
 out:=pW Tryd.prog [.tmp 4] (o9 .i64)
 qZ:=nj []
theorem wC (n:Nat):(nu n).P=Tryd.prog∧(nu n).cl=om [(39,qj sD pe (Fo n))]∧(nu n).cd=oo []∧(nu n).qT=ot [([0,1,0,1],rR)]∧(nu n).cut=ou []∧(nu n).n=n∧(nu n).out=pW Tryd.prog [.tmp 4] (o9 .i64)∧(nu n).qZ=nj []:=⟨rfl,rfl,rfl,rfl,rfl,rfl,rfl,rfl⟩
theorem wD (n:Nat):(nu n).body=(Tryd.f65.body).getD .skip:=rfl
noncomputable def rS (n:Nat):{B:((List Str)→Int→Int→Option Int)→(List Str)→Int→Int→Option Int // ∀m X0,(∀ (v0:List Str) (v1:Int) (v2:Int),run (nu n) [.lq m [0,1,0,1],.qC 0,.cut [1,1],.at [1,1]] ⟨[.nE false 1 (mp n4 v0),.func (.func 39) [] [],qA,qA,qA,qA,qA,.int .i64 v1,.int .i64 v2,qA,qA,qA,qA,qA,qA,qA,qA,qA,qA],[],0,[]⟩=X0 v0 v1 v2)→ ∀ (v0:List Str) (v1:Int) (v2:Int),run (nu n) [.at [0,0,1,0,1],.lp m [0,1,0,1],.qC 0,.cut [1,1],.at [1,1]] ⟨[.nE false 1 (mp n4 v0),.func (.func 39) [] [],qA,qA,qA,qA,qA,.int .i64 v1,.int .i64 v2,qA,qA,qA,qA,qA,qA,qA,qA,qA,qA],[],0,[]⟩=B X0 v0 v1 v2}:=by
 apply iZ
 intro m X0 ih v0 v1 v2
 simp (config:={maxSteps:=100000000}) only[go_sem,iQ,iR,iM,iN,iS,iT,iV,iW,iX,iP,iU,iY,wC,wD,Tryd.f65,iO,mixed,rR,ih]
 exact rfl
noncomputable def qe (n:Nat):Nat→(List Str)→Int→Int→Option Int
 |0,_,_,_=>none
 |m+1,v0,v1,v2=>(rS n).1 (qe n m) v0 v1 v2
theorem vC (n:Nat): ∀ (m:Nat),(∀ (v0:List Str) (v1:Int) (v2:Int),run (nu n) [.lq m [0,1,0,1],.qC 0,.cut [1,1],.at [1,1]] ⟨[.nE false 1 (mp n4 v0),.func (.func 39) [] [],qA,qA,qA,qA,qA,.int .i64 v1,.int .i64 v2,qA,qA,qA,qA,qA,qA,qA,qA,qA,qA],[],0,[]⟩=qe n m v0 v1 v2)
 |0=>by intros;exact nk
 |m+1=>by
  have ih:=vC n m
  intro v0 v1 v2
  rw[nq]
  exact (rS n).2 m _ ih v0 v1 v2
noncomputable def uq (n:Nat):{B:(List Str)→Unit→Option Int // ∀ (a0:(List Str)) (a1:Unit),run (nu n) [.at []] {slots:=[(oa p8).enc a0,(O3 39).enc a1]++jc (19-[(oa p8).enc a0,(O3 39).enc a1].length) qA,heap:=[]}=B a0 a1}:=by
 apply iZ
 intro a0 a1
 simp (config:={maxSteps:=100000000}) only[go_sem,iQ,iR,iM,iN,iS,iT,iV,iW,iX,iP,iU,iY,wC,wD,Tryd.f65,iO,mixed,rR,vC n]
 exact rfl
noncomputable def sw:Nat→(List Str)→Unit→Option Int
 |0,_,_=>none
 |n+1,a0,a1=>(uq n).1 a0 a1
theorem Bg: ∀ (n:Nat) (a0:(List Str)) (a1:Unit) (r:Int),sw n a0 a1=some r→xS Tryd.prog 65 [(oa p8).enc a0,(O3 39).enc a1] (fun v=>v=(o9 .i64).enc r)
 |0,_,_,_,h=>by cases h
 |n+1,a0,a1,r,h=>by
  exact pL (M:=nu n) ⟨(mV (qi (PB n)) mY),mZ,nH _,nI _,oh,oH,oV,oG⟩ Tryd.func65 rfl rfl ⟨(oa p8).nb 0 _,(O3 39).nb 0 _,trivial⟩ Tryd.ntmps65 Tryd.results65 (fun σ hs=>pz (P:=Tryd.prog) (rs:=[.tmp 4]) (t:=(o9 .i64)) (σ:=σ) (r:=r) hs) (((uq n).2 a0 a1).trans h)
noncomputable def BK:Nrm:=⟨[],[],[zA,zA,zK,zK,zK,zA,zA,zA,zK,zA,zA,zA,zA,zA,zA,zA,zA,zA,zA,zA,zA,zA,zA,zA,zA,zA,zA,zA,zA,zA,zA,zA,zA,zA,zA,zA,zA,zA,zA,zA,zA,zA,zA,zA,zA,zA,zA,zA,zA,zA,zA,zA,zA,zA,zA,zA,zA,zA,zA,zA,zA,zA,zA,zA,zA,zA,zA,zA,zA,zA,zA,zA,zA,zA,zA,zA,zA,zA,zA,zA,zA,zA,zA,zA,zA,zA,zA,zA,zA,zA,zA,zA,zA,zA,zA,zA,zA,zA,zA,zA,zA,zA,zA,zA,zA,zA,zA],[oT Syntax.cel,oT Syntax.cel],none,none⟩
noncomputable def BL:Nrm:=⟨[],[],[zA,zA,zK,zK,zK,zA,zA,zK,zA,zA,zA,zA,zA,zA,zA,zA,zA,zA,zA,zA,zA,zA,zA,zA,zA,zA,zA,zA,zA,zA,zA,zA,zA,zA,zA,zA,zA,zA,zA,zA,zA,zA,zA,zA,zA,zA,zA,zA,zA,zA,zA,zA,zA,zA,zA,zA,zA,zA,zA,zA,zA,zA,zA,zA,zA,zA,zA,zA,zA,zA,zA,zA,zA,zA,zA,zA,zA,zA,zA,zA,zA,zA,zA,zA,zA,zA,zA,zA,zA,zA,zA,zA,zA,zA,zA,zA,zA,zA,zA,zA,zA,zA,zA,zA,zA,zA,zA],[oT Syntax.cel,oT Syntax.cel],none,none⟩
noncomputable def qB (X:Syntax→Syntax→Bool→Option Bool) (n:Nat):pO Bool where
 body:=(Tryd.f17.body).getD .skip
 P:=Tryd.prog
 cl:=om [(55,tH (oa mP.row) (oa mP.row) pe (zY n))]
 cd:=oo [(17,vY (Lz (nF Syntax.cel) (nF Syntax.cel) pe pe X))]
 qT:=ot [([0,1,0,1,1,1,1],BK),([0,1,0,1,1,1],BL)]
 cut:=ou []
 n:=n
 out:=pW Tryd.prog [.tmp 6] pe
 qZ:=nj []
 Ay:=nj []
 Ax:=nj []
theorem IY (X:Syntax→Syntax→Bool→Option Bool) (n:Nat):(qB X n).P=Tryd.prog∧(qB X n).cl=om [(55,tH (oa mP.row) (oa mP.row) pe (zY n))]∧(qB X n).cd=oo [(17,vY (Lz (nF Syntax.cel) (nF Syntax.cel) pe pe X))]∧(qB X n).qT=ot [([0,1,0,1,1,1,1],BK),([0,1,0,1,1,1],BL)]∧(qB X n).cut=ou []∧(qB X n).n=n∧(qB X n).out=pW Tryd.prog [.tmp 6] pe∧(qB X n).qZ=nj []∧(qB X n).Ay=nj []∧(qB X n).Ax=nj []:=⟨rfl,rfl,rfl,rfl,rfl,rfl,rfl,rfl,rfl,rfl⟩
theorem IZ (X:Syntax→Syntax→Bool→Option Bool) (n:Nat):(qB X n).body=(Tryd.f17.body).getD .skip:=rfl
theorem I0 (X:Syntax→Syntax→Bool→Option Bool) (n:Nat):tY (qB X n) [0,0,0,1,0,0,1,0,1,1,1]=true∧tY (qB X n) [0,0,0,1,0,0,1,0,1,1,1,1]=true:=⟨by kernel_rfl,by kernel_rfl⟩
noncomputable def D5 (X:Syntax→Syntax→Bool→Option Bool) (n:Nat):{B:(Bool→Int→Syntax→Syntax→Option Bool)→Bool→Int→Syntax→Syntax→Option Bool // ∀m X0,(∀ (v0:Bool) (v1:Int) (o0:Syntax) (o1:Syntax),run (qB X n) [.lq m [0,1,0,1,1,1,1],.qC 2,.cut [1,1,1,1,1],.at [1,1,1,1,1]] ⟨[qA,qA,.bool v0,.ptr 0 0,.ptr 1 0,qA,qA,qA,.int .i64 v1,qA,qA,qA,qA,qA,qA,qA,qA,qA,qA,qA,qA,qA,qA,qA,qA,qA,qA,qA,qA,qA,qA,qA,qA,qA,qA,qA,qA,qA,qA,qA,qA,qA,qA,qA,qA,qA,qA,qA,qA,qA,qA,qA,qA,qA,qA,qA,qA,qA,qA,qA,qA,qA,qA,qA,qA,qA,qA,qA,qA,qA,qA,qA,qA,qA,qA,qA,qA,qA,qA,qA,qA,qA,qA,qA,qA,qA,qA,qA,qA,qA,qA,qA,qA,qA,qA,qA,qA,qA,qA,qA,qA,qA,qA,qA,qA,qA,qA],[.cells (Syntax.cells o0),.cells (Syntax.cells o1)],0,[]⟩=X0 v0 v1 o0 o1)→ ∀ (v0:Bool) (v1:Int) (o0:Syntax) (o1:Syntax),run (qB X n) [.at [0,0,1,0,1,1,1,1],.lp m [0,1,0,1,1,1,1],.qC 2,.cut [1,1,1,1,1],.at [1,1,1,1,1]] ⟨[qA,qA,.bool v0,.ptr 0 0,.ptr 1 0,qA,qA,qA,.int .i64 v1,qA,qA,qA,qA,qA,qA,qA,qA,qA,qA,qA,qA,qA,qA,qA,qA,qA,qA,qA,qA,qA,qA,qA,qA,qA,qA,qA,qA,qA,qA,qA,qA,qA,qA,qA,qA,qA,qA,qA,qA,qA,qA,qA,qA,qA,qA,qA,qA,qA,qA,qA,qA,qA,qA,qA,qA,qA,qA,qA,qA,qA,qA,qA,qA,qA,qA,qA,qA,qA,qA,qA,qA,qA,qA,qA,qA,qA,qA,qA,qA,qA,qA,qA,qA,qA,qA,qA,qA,qA,qA,qA,qA,qA,qA,qA,qA,qA,qA],[.cells (Syntax.cells o0),.cells (Syntax.cells o1)],0,[]⟩=B X0 v0 v1 o0 o1}:=by
 apply iZ
 intro m X0 ih v0 v1 o0 o1
 simp (config:={maxSteps:=100000000}) only[go_sem,iQ,iR,iM,iN,iS,iT,iV,iW,iX,iP,iU,iY,IY,IZ,Tryd.f17,iO,mixed,I0,BK,BL,ih]
 exact rfl
noncomputable def yf (X:Syntax→Syntax→Bool→Option Bool) (n:Nat):Nat→Bool→Int→Syntax→Syntax→Option Bool
 |0,_,_,_,_=>none
 |m+1,v0,v1,o0,o1=>(D5 X n).1 (yf X n m) v0 v1 o0 o1
theorem D6 (X:Syntax→Syntax→Bool→Option Bool) (n:Nat): ∀ (m:Nat),(∀ (v0:Bool) (v1:Int) (o0:Syntax) (o1:Syntax),run (qB X n) [.lq m [0,1,0,1,1,1,1],.qC 2,.cut [1,1,1,1,1],.at [1,1,1,1,1]] ⟨[qA,qA,.bool v0,.ptr 0 0,.ptr 1 0,qA,qA,qA,.int .i64 v1,qA,qA,qA,qA,qA,qA,qA,qA,qA,qA,qA,qA,qA,qA,qA,qA,qA,qA,qA,qA,qA,qA,qA,qA,qA,qA,qA,qA,qA,qA,qA,qA,qA,qA,qA,qA,qA,qA,qA,qA,qA,qA,qA,qA,qA,qA,qA,qA,qA,qA,qA,qA,qA,qA,qA,qA,qA,qA,qA,qA,qA,qA,qA,qA,qA,qA,qA,qA,qA,qA,qA,qA,qA,qA,qA,qA,qA,qA,qA,qA,qA,qA,qA,qA,qA,qA,qA,qA,qA,qA,qA,qA,qA,qA,qA,qA,qA,qA],[.cells (Syntax.cells o0),.cells (Syntax.cells o1)],0,[]⟩=yf X n m v0 v1 o0 o1)
 |0=>by intros;exact nk
 |m+1=>by
  have ih:=D6 X n m
  intro v0 v1 o0 o1
  rw[nq]
  exact (D5 X n).2 m _ ih v0 v1 o0 o1
noncomputable def D7 (X:Syntax→Syntax→Bool→Option Bool) (n:Nat):{B:(Bool→Int→Syntax→Syntax→Option Bool)→Bool→Int→Syntax→Syntax→Option Bool // ∀m X0,(∀ (v0:Bool) (v1:Int) (o0:Syntax) (o1:Syntax),run (qB X n) [.lq m [0,1,0,1,1,1],.qC 0,.cut [1,1,1,1],.at [1,1,1,1]] ⟨[qA,qA,.bool v0,.ptr 0 0,.ptr 1 0,qA,qA,.int .i64 v1,qA,qA,qA,qA,qA,qA,qA,qA,qA,qA,qA,qA,qA,qA,qA,qA,qA,qA,qA,qA,qA,qA,qA,qA,qA,qA,qA,qA,qA,qA,qA,qA,qA,qA,qA,qA,qA,qA,qA,qA,qA,qA,qA,qA,qA,qA,qA,qA,qA,qA,qA,qA,qA,qA,qA,qA,qA,qA,qA,qA,qA,qA,qA,qA,qA,qA,qA,qA,qA,qA,qA,qA,qA,qA,qA,qA,qA,qA,qA,qA,qA,qA,qA,qA,qA,qA,qA,qA,qA,qA,qA,qA,qA,qA,qA,qA,qA,qA,qA],[.cells (Syntax.cells o0),.cells (Syntax.cells o1)],0,[]⟩=X0 v0 v1 o0 o1)→ ∀ (v0:Bool) (v1:Int) (o0:Syntax) (o1:Syntax),run (qB X n) [.at [0,0,1,0,1,1,1],.lp m [0,1,0,1,1,1],.qC 0,.cut [1,1,1,1],.at [1,1,1,1]] ⟨[qA,qA,.bool v0,.ptr 0 0,.ptr 1 0,qA,qA,.int .i64 v1,qA,qA,qA,qA,qA,qA,qA,qA,qA,qA,qA,qA,qA,qA,qA,qA,qA,qA,qA,qA,qA,qA,qA,qA,qA,qA,qA,qA,qA,qA,qA,qA,qA,qA,qA,qA,qA,qA,qA,qA,qA,qA,qA,qA,qA,qA,qA,qA,qA,qA,qA,qA,qA,qA,qA,qA,qA,qA,qA,qA,qA,qA,qA,qA,qA,qA,qA,qA,qA,qA,qA,qA,qA,qA,qA,qA,qA,qA,qA,qA,qA,qA,qA,qA,qA,qA,qA,qA,qA,qA,qA,qA,qA,qA,qA,qA,qA,qA,qA],[.cells (Syntax.cells o0),.cells (Syntax.cells o1)],0,[]⟩=B X0 v0 v1 o0 o1}:=by
 apply iZ
 intro m X0 ih v0 v1 o0 o1
 simp (config:={maxSteps:=100000000}) only[go_sem,iQ,iR,iM,iN,iS,iT,iV,iW,iX,iP,iU,iY,IY,IZ,Tryd.f17,iO,mixed,I0,BK,BL,D6 X n,ih]
 exact rfl
noncomputable def yg (X:Syntax→Syntax→Bool→Option Bool) (n:Nat):Nat→Bool→Int→Syntax→Syntax→Option Bool
 |0,_,_,_,_=>none
 |m+1,v0,v1,o0,o1=>(D7 X n).1 (yg X n m) v0 v1 o0 o1
theorem H9 (X:Syntax→Syntax→Bool→Option Bool) (n:Nat): ∀ (m:Nat),(∀ (v0:Bool) (v1:Int) (o0:Syntax) (o1:Syntax),run (qB X n) [.lq m [0,1,0,1,1,1],.qC 0,.cut [1,1,1,1],.at [1,1,1,1]] ⟨[qA,qA,.bool v0,.ptr 0 0,.ptr 1 0,qA,qA,.int .i64 v1,qA,qA,qA,qA,qA,qA,qA,qA,qA,qA,qA,qA,qA,qA,qA,qA,qA,qA,qA,qA,qA,qA,qA,qA,qA,qA,qA,qA,qA,qA,qA,qA,qA,qA,qA,qA,qA,qA,qA,qA,qA,qA,qA,qA,qA,qA,qA,qA,qA,qA,qA,qA,qA,qA,qA,qA,qA,qA,qA,qA,qA,qA,qA,qA,qA,qA,qA,qA,qA,qA,qA,qA,qA,qA,qA,qA,qA,qA,qA,qA,qA,qA,qA,qA,qA,qA,qA,qA,qA,qA,qA,qA,qA,qA,qA,qA,qA,qA,qA],[.cells (Syntax.cells o0),.cells (Syntax.cells o1)],0,[]⟩=yg X n m v0 v1 o0 o1)
 |0=>by intros;exact nk
 |m+1=>by
  have ih:=H9 X n m
  intro v0 v1 o0 o1
  rw[nq]
  exact (D7 X n).2 m _ ih v0 v1 o0 o1
noncomputable def I1 (X:Syntax→Syntax→Bool→Option Bool) (n:Nat):{B:Syntax→Syntax→Bool→Option Bool // ∀ (a0:Syntax) (a1:Syntax) (a2:Bool),run (qB X n) [.at []] {slots:=[(nF Syntax.cel).enc a0,(nF Syntax.cel).enc a1,pe.enc a2]++jc (107-[(nF Syntax.cel).enc a0,(nF Syntax.cel).enc a1,pe.enc a2].length) qA,heap:=[]}=B a0 a1 a2}:=by
 apply iZ
 intro a0 a1 a2
 simp (config:={maxSteps:=100000000}) only[go_sem,iQ,iR,iM,iN,iS,iT,iV,iW,iX,iP,iU,iY,IY,IZ,Tryd.f17,iO,mixed,I0,BK,BL,D6 X n,H9 X n]
 exact rfl
noncomputable def sF:Nat→Syntax→Syntax→Bool→Option Bool
 |0,_,_,_=>none
 |n+1,a0,a1,a2=>(I1 (sF n) n).1 a0 a1 a2
theorem D8: ∀ (n:Nat) (a0:Syntax) (a1:Syntax) (a2:Bool) (r:Bool),sF n a0 a1 a2=some r→xS Tryd.prog 17 [(nF Syntax.cel).enc a0,(nF Syntax.cel).enc a1,pe.enc a2] (fun v=>v=pe.enc r)
 |0,_,_,_,_,h=>by cases h
 |n+1,a0,a1,a2,r,h=>by
  have SQ:=D8 n
  exact pL (M:=qB (sF n) n) ⟨(mV (uH (MG n)) mY),(qE (YD (SQ)) mZ),nH _,nI _,oh,oH,oV,oG⟩ Tryd.func17 rfl rfl ⟨(nF Syntax.cel).nb 0 _,(nF Syntax.cel).nb 0 _,pe.nb 0 _,trivial⟩ Tryd.ntmps17 Tryd.results17 (fun σ hs=>pz (P:=Tryd.prog) (rs:=[.tmp 6]) (t:=pe) (σ:=σ) (r:=r) hs) (((I1 (sF n) n).2 a0 a1 a2).trans h)
noncomputable def D9:Nrm:=⟨[(3,8,true)],[],[zA,zA,zA,zK,zA,zA,zT (oa p8),zK,zK,zA,zA,zA,zA,zA,zA,zA,zA,zA,zA,zA,zA,zA,zA,zA,zA,zA,zA,zA,zA,zA,zA,zA,zA,zA,zA,zA,zA,zA],[oA Syntax.row],none,none⟩
noncomputable def s7 (n:Nat):pO (List Syntax) where
 body:=(Tryd.f40.body).getD .skip
 P:=Tryd.prog
 cl:=om [(27,qj sD (nF Syntax.cel) (x9 n)),(28,qj sD (nF Syntax.cel) (AB n))]
 cd:=oo []
 qT:=ot [([0,1,0,1,1],D9)]
 cut:=ou []
 n:=n
 out:=pW Tryd.prog [.tmp 2] (oa Syntax.row)
 qZ:=nj []
theorem M9 (n:Nat):(s7 n).P=Tryd.prog∧(s7 n).cl=om [(27,qj sD (nF Syntax.cel) (x9 n)),(28,qj sD (nF Syntax.cel) (AB n))]∧(s7 n).cd=oo []∧(s7 n).qT=ot [([0,1,0,1,1],D9)]∧(s7 n).cut=ou []∧(s7 n).n=n∧(s7 n).out=pW Tryd.prog [.tmp 2] (oa Syntax.row)∧(s7 n).qZ=nj []:=⟨rfl,rfl,rfl,rfl,rfl,rfl,rfl,rfl⟩
theorem Na (n:Nat):(s7 n).body=(Tryd.f40.body).getD .skip:=rfl
noncomputable def LJ (n:Nat):{B:((List Str)→Int→Int→(List Syntax)→Option (List Syntax))→(List Str)→Int→Int→(List Syntax)→Option (List Syntax) // ∀m X0,(∀ (v0:List Str) (v1:Int) (v2:Int) (r0:List Syntax) (c0:Nat),c0=r0.length→run (s7 n) [.lq m [0,1,0,1,1],.qC 0,.cut [1,1,1],.at [1,1,1]] ⟨[qA,qA,qA,.acc 0 c0,qA,qA,.nE false 1 (mp n4 v0),.int .i64 v1,.int .i64 v2,qA,qA,qA,qA,qA,qA,qA,qA,qA,qA,qA,qA,qA,qA,qA,qA,qA,qA,qA,qA,qA,qA,qA,qA,qA,qA,qA,qA,qA],[.acc true 8 (mp Syntax.cells r0)],0,[]⟩=X0 v0 v1 v2 r0)→ ∀ (v0:List Str) (v1:Int) (v2:Int) (r0:List Syntax),run (s7 n) [.at [0,0,1,0,1,1],.lp m [0,1,0,1,1],.qC 0,.cut [1,1,1],.at [1,1,1]] ⟨[qA,qA,qA,.acc 0 r0.length,qA,qA,.nE false 1 (mp n4 v0),.int .i64 v1,.int .i64 v2,qA,qA,qA,qA,qA,qA,qA,qA,qA,qA,qA,qA,qA,qA,qA,qA,qA,qA,qA,qA,qA,qA,qA,qA,qA,qA,qA,qA,qA],[.acc true 8 (mp Syntax.cells r0)],0,[]⟩=B X0 v0 v1 v2 r0}:=by
 apply iZ
 intro m X0 ih v0 v1 v2 r0
 simp (config:={maxSteps:=100000000}) only[go_sem,iQ,iR,iM,iN,iS,iT,iV,iW,iX,iP,iU,iY,M9,Na,Tryd.f40,iO,mixed,D9,ih]
 exact rfl
noncomputable def LK (n:Nat):Nat→(List Str)→Int→Int→(List Syntax)→Option (List Syntax)
 |0,_,_,_,_=>none
 |m+1,v0,v1,v2,r0=>(LJ n).1 (LK n m) v0 v1 v2 r0
theorem Ia (n:Nat): ∀ (m:Nat),(∀ (v0:List Str) (v1:Int) (v2:Int) (r0:List Syntax) (c0:Nat),c0=r0.length→run (s7 n) [.lq m [0,1,0,1,1],.qC 0,.cut [1,1,1],.at [1,1,1]] ⟨[qA,qA,qA,.acc 0 c0,qA,qA,.nE false 1 (mp n4 v0),.int .i64 v1,.int .i64 v2,qA,qA,qA,qA,qA,qA,qA,qA,qA,qA,qA,qA,qA,qA,qA,qA,qA,qA,qA,qA,qA,qA,qA,qA,qA,qA,qA,qA,qA],[.acc true 8 (mp Syntax.cells r0)],0,[]⟩=LK n m v0 v1 v2 r0)
 |0=>by intros;exact nk
 |m+1=>by
  have ih:=Ia n m
  intro v0 v1 v2 r0 c0 ec0
  subst ec0
  rw[nq]
  exact (LJ n).2 m _ ih v0 v1 v2 r0
noncomputable def Nb (n:Nat):{B:(List Str)→Option (List Syntax) // ∀ (a0:(List Str)),run (s7 n) [.at []] {slots:=[(oa p8).enc a0]++jc (38-[(oa p8).enc a0].length) qA,heap:=[]}=B a0}:=by
 apply iZ
 intro a0
 simp (config:={maxSteps:=100000000}) only[go_sem,iQ,iR,iM,iN,iS,iT,iV,iW,iX,iP,iU,iY,M9,Na,Tryd.f40,iO,mixed,D9,Ia n]
 exact rfl
noncomputable def FV:Nat→(List Str)→Option (List Syntax)
 |0,_=>none
 |n+1,a0=>(Nb n).1 a0
theorem LL: ∀ (n:Nat) (a0:(List Str)) (r:(List Syntax)),FV n a0=some r→xS Tryd.prog 40 [(oa p8).enc a0] (fun v=>v=(oa Syntax.row).enc r)
 |0,_,_,h=>by cases h
 |n+1,a0,r,h=>by
  exact pL (M:=s7 n) ⟨(mV (qi (Fp n)) (mV (qi (K3 n)) mY)),mZ,nH _,nI _,oh,oH,oV,oG⟩ Tryd.func40 rfl rfl ⟨(oa p8).nb 0 _,trivial⟩ Tryd.ntmps40 Tryd.results40 (fun σ hs=>pz (P:=Tryd.prog) (rs:=[.tmp 2]) (t:=(oa Syntax.row)) (σ:=σ) (r:=r) hs) (((Nb n).2 a0).trans h)
noncomputable def nY:OL T8:=(sZ (BF (xg 1 (xg 2 (xg 3 (qy (o9 .i64) pP))))) (sZ (wh (nF Notation.cel)) (sZ (wh (nF Notation.cel)) (sZ K1 wX))))
noncomputable def qN:OL T8:=(sZ (BF (xg 1 (xg 2 (xg 3 (qy (o9 .i64) pP))))) (sZ (wh (nF Notation.cel)) (sZ (wh (nF Notation.cel)) (sZ K1 wX))))
noncomputable def qO:OL T8:=(sZ (BF (xg 1 (xg 2 (xg 3 (qy (o9 .i64) pP))))) (sZ (wh (nF Notation.cel)) (sZ (wh (nF Notation.cel)) (sZ K1 wX))))
noncomputable def pT (n:Nat):pO Tv where
 body:=(Tryd.f95.body).getD .skip
 P:=Tryd.prog
 cl:=om [(43,qj (nF Notation.cel) pe (tO n))]
 cd:=oo []
 qT:=ot []
 cut:=ou []
 n:=n
 out:=SE Tryd.prog [.tmp 4,.tmp 5,.tmp 6] [] [0,1,2,3] 4 qN (xg 2 (qy sD (qy (oa p8) pP))) [] qO (xg 1 (qy sD (qy (oa p8) pP)))
 qZ:=nj []
 Ay:=nj []
 Ax:=nj []
theorem Ku (n:Nat):(pT n).P=Tryd.prog∧(pT n).cl=om [(43,qj (nF Notation.cel) pe (tO n))]∧(pT n).cd=oo []∧(pT n).qT=ot []∧(pT n).cut=ou []∧(pT n).n=n∧(pT n).out=SE Tryd.prog [.tmp 4,.tmp 5,.tmp 6] [] [0,1,2,3] 4 qN (xg 2 (qy sD (qy (oa p8) pP))) [] qO (xg 1 (qy sD (qy (oa p8) pP)))∧(pT n).qZ=nj []∧(pT n).Ay=nj []∧(pT n).Ax=nj []:=⟨rfl,rfl,rfl,rfl,rfl,rfl,rfl,rfl,rfl,rfl⟩
theorem Kv (n:Nat):(pT n).body=(Tryd.f95.body).getD .skip:=rfl
theorem Kw (n:Nat):tY (pT n) [0,0,1,0,1]=true∧tY (pT n) [0,1,1]=true:=⟨by kernel_rfl,by kernel_rfl⟩
noncomputable def AF (n:Nat):{B:Notation→Int→T3→T3→T4→Option Tv // ∀ (a0:Notation) (o0:Int) (o1:T3) (o2:T3) (o3:T4),run (pT n) [.at []] {slots:=((tI 0 (qy (nF Notation.cel) pP)).enc (nY.lens ((o0,()),o1,o2,o3,())) (a0,()))++jc (31-((tI 0 (qy (nF Notation.cel) pP)).enc (nY.lens ((o0,()),o1,o2,o3,())) (a0,())).length) qA,heap:=(nY.enc (nY.lens ((o0,()),o1,o2,o3,())) ((o0,()),o1,o2,o3,())),low:=(nY.enc (nY.lens ((o0,()),o1,o2,o3,())) ((o0,()),o1,o2,o3,())).length}=B a0 o0 o1 o2 o3}:=by
 apply iZ
 intro a0 o0 o1 o2 o3
 simp (config:={maxSteps:=100000000}) only[go_sem,iQ,iR,iM,iN,iS,iT,iV,iW,iX,iP,iU,iY,Ku,Kv,Tryd.f95,iO,mixed,nY,qN,qO,Kw]
 exact rfl
noncomputable def y8:Nat→Notation→Int→T3→T3→T4→Option Tv
 |0,_,_,_,_,_=>none
 |n+1,a0,o0,o1,o2,o3=>(AF n).1 a0 o0 o1 o2 o3
theorem JF: ∀ (n:Nat) (a0:Notation) (o0:Int) (o1:T3) (o2:T3) (o3:T4) (r:Tv),y8 n a0 o0 o1 o2 o3=some r→FnP Tryd.prog 95 ((tI 0 (qy (nF Notation.cel) pP)).enc (nY.lens ((o0,()),o1,o2,o3,())) (a0,())) (nY.enc (nY.lens ((o0,()),o1,o2,o3,())) ((o0,()),o1,o2,o3,())) (enP false qN (xg 2 (qy sD (qy (oa p8) pP))) qO (xg 1 (qy sD (qy (oa p8) pP))) r)
 |0,_,_,_,_,_,_,h=>by cases h
 |n+1,a0,o0,o1,o2,o3,r,h=>by
  exact fnS_run (p1:=[]) (p2:=[]) (b1:=[0,1,2,3]) (M:=pT n) ⟨(mV (qi (zZ n)) mY),mZ,nH _,nI _,oh,oH,oV,oG⟩ Tryd.func95 rfl rfl (sE (jd (of_decide_eq_true (by kernel_rfl)) (je (nY.sz _ _).symm)) _ ((tI 0 (qy (nF Notation.cel) pP)).nb _ _)) (fun x hx=>tN (jd (of_decide_eq_true (by kernel_rfl)) (je (nY.sz _ _).symm)) _ (nY.nb _ _ x hx)) Tryd.ntmps95 Tryd.results95 (low:=4) (by rfl) rfl (((AF n).2 a0 o0 o1 o2 o3).trans h)
noncomputable def uC (n:Nat):pO Bool where
 body:=(Tryd.f67.body).getD .skip
 P:=Tryd.prog
 cl:=om [(66,qj (o9 .u8) (o9 .i64) (BH n))]
 cd:=oo []
 qT:=ot []
 cut:=ou []
 n:=n
 out:=pW Tryd.prog [.tmp 2] pe
 qZ:=nj []
theorem SR (n:Nat):(uC n).P=Tryd.prog∧(uC n).cl=om [(66,qj (o9 .u8) (o9 .i64) (BH n))]∧(uC n).cd=oo []∧(uC n).qT=ot []∧(uC n).cut=ou []∧(uC n).n=n∧(uC n).out=pW Tryd.prog [.tmp 2] pe∧(uC n).qZ=nj []:=⟨rfl,rfl,rfl,rfl,rfl,rfl,rfl,rfl⟩
theorem SS (n:Nat):(uC n).body=(Tryd.f67.body).getD .skip:=rfl
noncomputable def Hf (n:Nat):{B:Int→Option Bool // ∀ (a0:Int),run (uC n) [.at []] {slots:=[(o9 .u8).enc a0]++jc (15-[(o9 .u8).enc a0].length) qA,heap:=[]}=B a0}:=by
 apply iZ
 intro a0
 simp (config:={maxSteps:=100000000}) only[go_sem,iQ,iR,iM,iN,iS,iT,iV,iW,iX,iP,iU,iY,SR,SS,Tryd.f67,iO,mixed]
 exact rfl
noncomputable def Ea:Nat→Int→Option Bool
 |0,_=>none
 |n+1,a0=>(Hf n).1 a0
theorem Q8: ∀ (n:Nat) (a0:Int) (r:Bool),Ea n a0=some r→xS Tryd.prog 67 [(o9 .u8).enc a0] (fun v=>v=pe.enc r)
 |0,_,_,h=>by cases h
 |n+1,a0,r,h=>by
  exact pL (M:=uC n) ⟨(mV (qi (LF n)) mY),mZ,nH _,nI _,oh,oH,oV,oG⟩ Tryd.func67 rfl rfl ⟨(o9 .u8).nb 0 _,trivial⟩ Tryd.ntmps67 Tryd.results67 (fun σ hs=>pz (P:=Tryd.prog) (rs:=[.tmp 2]) (t:=pe) (σ:=σ) (r:=r) hs) (((Hf n).2 a0).trans h)
noncomputable def xL:Nrm:=⟨[],[],[zK,zT (tyP cS),zA,zK,zK,zA,zA,zA,zA,zA,zA,zA,zA,zA,zA,zA,zA,zA,zA,zA,zA,zA,zA,zA,zA,zA,zA,zA,zA,zA,zA,zA,zA,zA,zA,zA,zA,zA,zA,zA,zA,zA,zA,zA,zA,zA,zA,zA,zA,zA,zA,zA,zA,zA,zA,zA],[oL [zA,zK,zA,zA,zA,zA,zA,zA,zA],oC [zK],oK],none,none⟩
noncomputable def oS:OL Ts:=(sZ (ogL0 n8 (alZ (tI 1 (Y5 7 pP)))) (sZ (BF (xg 2 pP)) (sZ K1 wX)))
noncomputable def qH:OL Tf:=(sZ (ogL n8 (alZ (tI 1 (Y5 7 pP)))) (sZ (BF (xg 2 pP)) (sZ K1 wX)))
noncomputable def pV (n:Nat):pO (Tf×Unit) where
 body:=(Tryd.f112.body).getD .skip
 P:=Tryd.prog
 cl:=om []
 cd:=oo []
 qT:=ot [([0,1,0,1],xL)]
 cut:=ou []
 n:=n
 out:=Ca Tryd.prog [] [] [0,1,2] 3 qH pP
 cy:=Y8 [(0,entY [.obj 0 1 [],.obj 1 0 []] nA (qy sD pP) pG (qy pe pP) (fun (b:Ts) (a:(Str×Unit))=>(xG n) a.1 b.2.2.1))]
 qZ:=nj []
theorem EI (n:Nat):(pV n).P=Tryd.prog∧(pV n).cl=om []∧(pV n).cd=oo []∧(pV n).qT=ot [([0,1,0,1],xL)]∧(pV n).cut=ou []∧(pV n).n=n∧(pV n).out=Ca Tryd.prog [] [] [0,1,2] 3 qH pP∧(pV n).cy=Y8 [(0,entY [.obj 0 1 [],.obj 1 0 []] nA (qy sD pP) pG (qy pe pP) (fun (b:Ts) (a:(Str×Unit))=>(xG n) a.1 b.2.2.1))]∧(pV n).qZ=nj []:=⟨rfl,rfl,rfl,rfl,rfl,rfl,rfl,rfl,rfl⟩
theorem EJ (n:Nat):(pV n).body=(Tryd.f112.body).getD .skip:=rfl
noncomputable def Eb (n:Nat):{B:(Str→Int→Int→Int→T4→Option (Tf×Unit))→Str→Int→Int→Int→T4→Option (Tf×Unit) // ∀m X0,(∀ (v0:Str) (v1:Int) (v2:Int) (j0:Int) (r2:List (Str×Bool)),run (pV n) [.lq m [0,1,0,1],.qC 0,.cut [1,1],.at [1,1]] ⟨[.map 0,.pp [.str (sb v0)],qA,.int .i64 v1,.int .i64 v2,qA,qA,qA,qA,qA,qA,qA,qA,qA,qA,qA,qA,qA,qA,qA,qA,qA,qA,qA,qA,qA,qA,qA,qA,qA,qA,qA,qA,qA,qA,qA,qA,qA,qA,qA,qA,qA,qA,qA,qA,qA,qA,qA,qA,qA,qA,qA,qA,qA,qA,qA],[.loop n8 [qA,.ptr 1 0,qA,qA,qA,qA,qA,qA,qA] (WK n8 j0) j0,.cells [.map 2],.map (mp mcB r2)],3,[]⟩=X0 v0 v1 v2 j0 r2)→ ∀ (v0:Str) (v1:Int) (v2:Int) (j0:Int) (r2:List (Str×Bool)),run (pV n) [.at [0,0,1,0,1],.lp m [0,1,0,1],.qC 0,.cut [1,1],.at [1,1]] ⟨[.map 0,.pp [.str (sb v0)],qA,.int .i64 v1,.int .i64 v2,qA,qA,qA,qA,qA,qA,qA,qA,qA,qA,qA,qA,qA,qA,qA,qA,qA,qA,qA,qA,qA,qA,qA,qA,qA,qA,qA,qA,qA,qA,qA,qA,qA,qA,qA,qA,qA,qA,qA,qA,qA,qA,qA,qA,qA,qA,qA,qA,qA,qA,qA],[.loop n8 [qA,.ptr 1 0,qA,qA,qA,qA,qA,qA,qA] (WK n8 j0) j0,.cells [.map 2],.map (mp mcB r2)],3,[]⟩=B X0 v0 v1 v2 j0 r2}:=by
 apply iZ
 intro m X0 ih v0 v1 v2 j0 r2
 simp (config:={maxSteps:=100000000}) only[go_sem,iQ,iR,iM,iN,iS,iT,iV,iW,iX,iP,iU,iY,EI,EJ,Tryd.f112,iO,mixed,oS,qH,nA,pG,vA,xL,ih]
 exact rfl
noncomputable def Ec (n:Nat):Nat→Str→Int→Int→Int→T4→Option (Tf×Unit)
 |0,_,_,_,_,_=>none
 |m+1,v0,v1,v2,j0,r2=>(Eb n).1 (Ec n m) v0 v1 v2 j0 r2
theorem Cr (n:Nat): ∀ (m:Nat),(∀ (v0:Str) (v1:Int) (v2:Int) (j0:Int) (r2:List (Str×Bool)),run (pV n) [.lq m [0,1,0,1],.qC 0,.cut [1,1],.at [1,1]] ⟨[.map 0,.pp [.str (sb v0)],qA,.int .i64 v1,.int .i64 v2,qA,qA,qA,qA,qA,qA,qA,qA,qA,qA,qA,qA,qA,qA,qA,qA,qA,qA,qA,qA,qA,qA,qA,qA,qA,qA,qA,qA,qA,qA,qA,qA,qA,qA,qA,qA,qA,qA,qA,qA,qA,qA,qA,qA,qA,qA,qA,qA,qA,qA,qA],[.loop n8 [qA,.ptr 1 0,qA,qA,qA,qA,qA,qA,qA] (WK n8 j0) j0,.cells [.map 2],.map (mp mcB r2)],3,[]⟩=Ec n m v0 v1 v2 j0 r2)
 |0=>by intros;exact nk
 |m+1=>by
  have ih:=Cr n m
  intro v0 v1 v2 j0 r2
  rw[nq]
  exact (Eb n).2 m _ ih v0 v1 v2 j0 r2
noncomputable def EK (n:Nat):{B:Str→T4→Option (Tf×Unit) // ∀ (a0:Str) (o0:T4),run (pV n) [.at []] {slots:=((xg 0 (qy (tyP cS) pP)).enc (oS.lens ((),(),o0,())) (a0,()))++jc (56-((xg 0 (qy (tyP cS) pP)).enc (oS.lens ((),(),o0,())) (a0,())).length) qA,heap:=(oS.enc (oS.lens ((),(),o0,())) ((),(),o0,())),low:=(oS.enc (oS.lens ((),(),o0,())) ((),(),o0,())).length}=B a0 o0}:=by
 apply iZ
 intro a0 o0
 simp (config:={maxSteps:=100000000}) only[go_sem,iQ,iR,iM,iN,iS,iT,iV,iW,iX,iP,iU,iY,EI,EJ,Tryd.f112,iO,mixed,oS,qH,nA,pG,vA,xL,Cr n]
 exact rfl
noncomputable def Cx:Nat→Str→T4→Option (Tf×Unit)
 |0,_,_=>none
 |n+1,a0,o0=>(EK n).1 a0 o0
theorem Kx: ∀ (n:Nat) (a0:Str) (o0:T4) (r:(Tf×Unit)),Cx n a0 o0=some r→Ob Tryd.prog 112 ((xg 0 (qy (tyP cS) pP)).enc (oS.lens ((),(),o0,())) (a0,())) (oS.enc (oS.lens ((),(),o0,())) ((),(),o0,())) (fun o H'=>o= .ret (uR (pP.enc (qH.lens r.1) r.2))∧H'=qH.enc (qH.lens r.1) r.1)
 |0,_,_,_,h=>by cases h
 |n+1,a0,o0,r,h=>by
  exact wW (M:=pV n) ⟨mY,mZ,nH _,nI _,(WJ (fun _ _ _ _ _ h=>entY_ok (fun b a r h=>(E0 n) a.1 b.2.2.1 r h) h) Y9),oH,oV,oG⟩ Tryd.func112 rfl rfl (sE (jd (of_decide_eq_true (by kernel_rfl)) (je (oS.sz _ _).symm)) _ ((xg 0 (qy (tyP cS) pP)).nb _ _)) (fun x hx=>tN (jd (of_decide_eq_true (by kernel_rfl)) (je (oS.sz _ _).symm)) _ (oS.nb _ _ x hx)) Tryd.ntmps112 Tryd.results112 (fun σ hs=>AA (P:=Tryd.prog) (rs:=[]) (pos:=[]) (base:=[0,1,2]) (low:=3) (os:=qH) (s:=pP) (σ:=σ) (r:=r) (by rfl) hs) (((EK n).2 a0 o0).trans h)
end Go.Abs
namespace Go.Abs
open Go.Proofs
set_option maxRecDepth 100000
set_option maxHeartbeats 4000000
noncomputable def vf (n:Nat):pO (List Str) where
 body:=(Tryd.f70.body).getD .skip
 P:=Tryd.prog
 cl:=om [(99,qj sD (oa p8) (G4 n))]
 cd:=oo []
 qT:=ot []
 cut:=ou []
 n:=n
 out:=pW Tryd.prog [.tmp 0] (oa p8)
 qZ:=nj []
theorem UQ (n:Nat):(vf n).P=Tryd.prog∧(vf n).cl=om [(99,qj sD (oa p8) (G4 n))]∧(vf n).cd=oo []∧(vf n).qT=ot []∧(vf n).cut=ou []∧(vf n).n=n∧(vf n).out=pW Tryd.prog [.tmp 0] (oa p8)∧(vf n).qZ=nj []:=⟨rfl,rfl,rfl,rfl,rfl,rfl,rfl,rfl⟩
theorem UR (n:Nat):(vf n).body=(Tryd.f70.body).getD .skip:=rfl
noncomputable def Nc (n:Nat):{B:Option (List Str) // run (vf n) [.at []] {slots:=([]:List AV)++jc (2-([]:List AV).length) qA,heap:=[]}=B}:=by
 apply iZ
 simp (config:={maxSteps:=100000000}) only[go_sem,iQ,iR,iM,iN,iS,iT,iV,iW,iX,iP,iU,iY,UQ,UR,Tryd.f70,iO,mixed]
 exact rfl
noncomputable def FW:Nat→Option (List Str)
 |0=>none
 |n+1=>(Nc n).1
theorem SU: ∀ (n:Nat) (r:(List Str)),FW n=some r→xS Tryd.prog 70 [] (fun v=>v=(oa p8).enc r)
 |0,_,h=>by cases h
 |n+1,r,h=>by
  exact pL (M:=vf n) ⟨(mV (qi (OA n)) mY),mZ,nH _,nI _,oh,oH,oV,oG⟩ Tryd.func70 rfl rfl trivial Tryd.ntmps70 Tryd.results70 (fun σ hs=>pz (P:=Tryd.prog) (rs:=[.tmp 0]) (t:=(oa p8)) (σ:=σ) (r:=r) hs) (((Nc n).2).trans h)
noncomputable def GF:Nrm:=⟨[],[],[zK,zA,zA,zK,zA,zA,zA,zK,zK,zA,zA,zA,zA,zA,zA,zA,zA,zA,zA,zA,zA,zA,zA,zA,zA,zA,zA,zA,zA,zA,zA,zA,zA,zA,zA,zA,zA,zA,zA],[],none,none⟩
noncomputable def uT (n:Nat):pO Bool where
 body:=(Tryd.f45.body).getD .skip
 P:=Tryd.prog
 cl:=om [(71,qj (o9 .u8) pe (FQ n))]
 cd:=oo []
 qT:=ot [([0,1,0,1,1],GF)]
 cut:=ou []
 n:=n
 out:=pW Tryd.prog [.tmp 2] pe
 qZ:=nj []
theorem Qy (n:Nat):(uT n).P=Tryd.prog∧(uT n).cl=om [(71,qj (o9 .u8) pe (FQ n))]∧(uT n).cd=oo []∧(uT n).qT=ot [([0,1,0,1,1],GF)]∧(uT n).cut=ou []∧(uT n).n=n∧(uT n).out=pW Tryd.prog [.tmp 2] pe∧(uT n).qZ=nj []:=⟨rfl,rfl,rfl,rfl,rfl,rfl,rfl,rfl⟩
theorem Qz (n:Nat):(uT n).body=(Tryd.f45.body).getD .skip:=rfl
noncomputable def GG (n:Nat):{B:(Str→Bool→Int→Int→Option Bool)→Str→Bool→Int→Int→Option Bool // ∀m X0,(∀ (v0:Str) (v1:Bool) (v2:Int) (v3:Int),run (uT n) [.lq m [0,1,0,1,1],.qC 0,.cut [1,1,1],.at [1,1,1]] ⟨[.str (sb v0),qA,qA,.bool v1,qA,qA,qA,.int .i64 v2,.int .i64 v3,qA,qA,qA,qA,qA,qA,qA,qA,qA,qA,qA,qA,qA,qA,qA,qA,qA,qA,qA,qA,qA,qA,qA,qA,qA,qA,qA,qA,qA,qA],[],0,[]⟩=X0 v0 v1 v2 v3)→ ∀ (v0:Str) (v1:Bool) (v2:Int) (v3:Int),run (uT n) [.at [0,0,1,0,1,1],.lp m [0,1,0,1,1],.qC 0,.cut [1,1,1],.at [1,1,1]] ⟨[.str (sb v0),qA,qA,.bool v1,qA,qA,qA,.int .i64 v2,.int .i64 v3,qA,qA,qA,qA,qA,qA,qA,qA,qA,qA,qA,qA,qA,qA,qA,qA,qA,qA,qA,qA,qA,qA,qA,qA,qA,qA,qA,qA,qA,qA],[],0,[]⟩=B X0 v0 v1 v2 v3}:=by
 apply iZ
 intro m X0 ih v0 v1 v2 v3
 simp (config:={maxSteps:=100000000}) only[go_sem,iQ,iR,iM,iN,iS,iT,iV,iW,iX,iP,iU,iY,Qy,Qz,Tryd.f45,iO,mixed,GF,ih]
 exact rfl
noncomputable def Cd (n:Nat):Nat→Str→Bool→Int→Int→Option Bool
 |0,_,_,_,_=>none
 |m+1,v0,v1,v2,v3=>(GG n).1 (Cd n m) v0 v1 v2 v3
theorem K7 (n:Nat): ∀ (m:Nat),(∀ (v0:Str) (v1:Bool) (v2:Int) (v3:Int),run (uT n) [.lq m [0,1,0,1,1],.qC 0,.cut [1,1,1],.at [1,1,1]] ⟨[.str (sb v0),qA,qA,.bool v1,qA,qA,qA,.int .i64 v2,.int .i64 v3,qA,qA,qA,qA,qA,qA,qA,qA,qA,qA,qA,qA,qA,qA,qA,qA,qA,qA,qA,qA,qA,qA,qA,qA,qA,qA,qA,qA,qA,qA],[],0,[]⟩=Cd n m v0 v1 v2 v3)
 |0=>by intros;exact nk
 |m+1=>by
  have ih:=K7 n m
  intro v0 v1 v2 v3
  rw[nq]
  exact (GG n).2 m _ ih v0 v1 v2 v3
noncomputable def LM (n:Nat):{B:Str→Option Bool // ∀ (a0:Str),run (uT n) [.at []] {slots:=[sD.enc a0]++jc (39-[sD.enc a0].length) qA,heap:=[]}=B a0}:=by
 apply iZ
 intro a0
 simp (config:={maxSteps:=100000000}) only[go_sem,iQ,iR,iM,iN,iS,iT,iV,iW,iX,iP,iU,iY,Qy,Qz,Tryd.f45,iO,mixed,GF,K7 n]
 exact rfl
noncomputable def JG:Nat→Str→Option Bool
 |0,_=>none
 |n+1,a0=>(LM n).1 a0
theorem W0: ∀ (n:Nat) (a0:Str) (r:Bool),JG n a0=some r→xS Tryd.prog 45 [sD.enc a0] (fun v=>v=pe.enc r)
 |0,_,_,h=>by cases h
 |n+1,a0,r,h=>by
  exact pL (M:=uT n) ⟨(mV (qi (SH n)) mY),mZ,nH _,nI _,oh,oH,oV,oG⟩ Tryd.func45 rfl rfl ⟨sD.nb 0 _,trivial⟩ Tryd.ntmps45 Tryd.results45 (fun σ hs=>pz (P:=Tryd.prog) (rs:=[.tmp 2]) (t:=pe) (σ:=σ) (r:=r) hs) (((LM n).2 a0).trans h)
noncomputable def qk (n:Nat):pO Bool where
 body:=(Tryd.f96.body).getD .skip
 P:=Tryd.prog
 cl:=om [(107,tH (oa p8) sD (o9 .i64) (xw n))]
 cd:=oo []
 qT:=ot []
 cut:=ou []
 n:=n
 out:=pW Tryd.prog [.tmp 4] pe
 qZ:=nj []
theorem I2 (n:Nat):(qk n).P=Tryd.prog∧(qk n).cl=om [(107,tH (oa p8) sD (o9 .i64) (xw n))]∧(qk n).cd=oo []∧(qk n).qT=ot []∧(qk n).cut=ou []∧(qk n).n=n∧(qk n).out=pW Tryd.prog [.tmp 4] pe∧(qk n).qZ=nj []:=⟨rfl,rfl,rfl,rfl,rfl,rfl,rfl,rfl⟩
theorem I3 (n:Nat):(qk n).body=(Tryd.f96.body).getD .skip:=rfl
noncomputable def zn (n:Nat):{B:(List Str)→Str→Option Bool // ∀ (a0:(List Str)) (a1:Str),run (qk n) [.at []] {slots:=[(oa p8).enc a0,sD.enc a1]++jc (9-[(oa p8).enc a0,sD.enc a1].length) qA,heap:=[]}=B a0 a1}:=by
 apply iZ
 intro a0 a1
 simp (config:={maxSteps:=100000000}) only[go_sem,iQ,iR,iM,iN,iS,iT,iV,iW,iX,iP,iU,iY,I2,I3,Tryd.f96,iO,mixed]
 exact rfl
noncomputable def vN:Nat→(List Str)→Str→Option Bool
 |0,_,_=>none
 |n+1,a0,a1=>(zn n).1 a0 a1
theorem HA: ∀ (n:Nat) (a0:(List Str)) (a1:Str) (r:Bool),vN n a0 a1=some r→xS Tryd.prog 96 [(oa p8).enc a0,sD.enc a1] (fun v=>v=pe.enc r)
 |0,_,_,_,h=>by cases h
 |n+1,a0,a1,r,h=>by
  exact pL (M:=qk n) ⟨(mV (uH (Kq n)) mY),mZ,nH _,nI _,oh,oH,oV,oG⟩ Tryd.func96 rfl rfl ⟨(oa p8).nb 0 _,sD.nb 0 _,trivial⟩ Tryd.ntmps96 Tryd.results96 (fun σ hs=>pz (P:=Tryd.prog) (rs:=[.tmp 4]) (t:=pe) (σ:=σ) (r:=r) hs) (((zn n).2 a0 a1).trans h)
noncomputable def tL (n:Nat):pO Int where
 body:=(Tryd.f81.body).getD .skip
 P:=Tryd.prog
 cl:=om [(43,qj (nF Notation.cel) pe (tO n)),(44,qj (nF Notation.cel) pe (sN n))]
 cd:=oo []
 qT:=ot []
 cut:=ou []
 n:=n
 out:=pW Tryd.prog [.tmp 4] (o9 .i64)
 qZ:=nj []
theorem Q9 (n:Nat):(tL n).P=Tryd.prog∧(tL n).cl=om [(43,qj (nF Notation.cel) pe (tO n)),(44,qj (nF Notation.cel) pe (sN n))]∧(tL n).cd=oo []∧(tL n).qT=ot []∧(tL n).cut=ou []∧(tL n).n=n∧(tL n).out=pW Tryd.prog [.tmp 4] (o9 .i64)∧(tL n).qZ=nj []:=⟨rfl,rfl,rfl,rfl,rfl,rfl,rfl,rfl⟩
theorem Ra (n:Nat):(tL n).body=(Tryd.f81.body).getD .skip:=rfl
noncomputable def Gh (n:Nat):{B:Notation→Int→Option Int // ∀ (a0:Notation) (a1:Int),run (tL n) [.at []] {slots:=[(nF Notation.cel).enc a0,(o9 .i64).enc a1]++jc (51-[(nF Notation.cel).enc a0,(o9 .i64).enc a1].length) qA,heap:=[]}=B a0 a1}:=by
 apply iZ
 intro a0 a1
 simp (config:={maxSteps:=100000000}) only[go_sem,iQ,iR,iM,iN,iS,iT,iV,iW,iX,iP,iU,iY,Q9,Ra,Tryd.f81,iO,mixed]
 exact rfl
noncomputable def vg:Nat→Notation→Int→Option Int
 |0,_,_=>none
 |n+1,a0,a1=>(Gh n).1 a0 a1
theorem Ce: ∀ (n:Nat) (a0:Notation) (a1:Int) (r:Int),vg n a0 a1=some r→xS Tryd.prog 81 [(nF Notation.cel).enc a0,(o9 .i64).enc a1] (fun v=>v=(o9 .i64).enc r)
 |0,_,_,_,h=>by cases h
 |n+1,a0,a1,r,h=>by
  exact pL (M:=tL n) ⟨(mV (qi (zZ n)) (mV (qi (yY n)) mY)),mZ,nH _,nI _,oh,oH,oV,oG⟩ Tryd.func81 rfl rfl ⟨(nF Notation.cel).nb 0 _,(o9 .i64).nb 0 _,trivial⟩ Tryd.ntmps81 Tryd.results81 (fun σ hs=>pz (P:=Tryd.prog) (rs:=[.tmp 4]) (t:=(o9 .i64)) (σ:=σ) (r:=r) hs) (((Gh n).2 a0 a1).trans h)
noncomputable def Ed:Nrm:=⟨[],[],[zA,zA,zA,zA,zK,zK,zA,zA,zA,zA,zT (oa Syntax.row),zK,zK,zA,zA,zA,zA,zA,zA,zA,zA,zA],[oK,oT Syntax.cel],none,none⟩
noncomputable def s8 (n:Nat):pO Syntax where
 body:=(Tryd.f29.body).getD .skip
 P:=Tryd.prog
 cl:=om [(27,qj sD (nF Syntax.cel) (x9 n))]
 cd:=oo []
 qT:=ot [([0,1,0,1,1],Ed)]
 cut:=ou []
 n:=n
 out:=pW Tryd.prog [.cell 4 36] (nF Syntax.cel)
 qZ:=nj []
theorem Nd (n:Nat):(s8 n).P=Tryd.prog∧(s8 n).cl=om [(27,qj sD (nF Syntax.cel) (x9 n))]∧(s8 n).cd=oo []∧(s8 n).qT=ot [([0,1,0,1,1],Ed)]∧(s8 n).cut=ou []∧(s8 n).n=n∧(s8 n).out=pW Tryd.prog [.cell 4 36] (nF Syntax.cel)∧(s8 n).qZ=nj []:=⟨rfl,rfl,rfl,rfl,rfl,rfl,rfl,rfl⟩
theorem Nf (n:Nat):(s8 n).body=(Tryd.f29.body).getD .skip:=rfl
noncomputable def LN (n:Nat):{B:((List Syntax)→Int→Int→Syntax→Option Syntax)→(List Syntax)→Int→Int→Syntax→Option Syntax // ∀m X0,(∀ (v0:List Syntax) (v1:Int) (v2:Int) (o1:Syntax),run (s8 n) [.lq m [0,1,0,1,1],.qC 0,.cut [1,1,1],.at [1,1,1]] ⟨[qA,qA,qA,qA,.ptr 0 0,.ptr 1 0,qA,qA,qA,qA,.nE false 8 (mp Syntax.cells v0),.int .i64 v1,.int .i64 v2,qA,qA,qA,qA,qA,qA,qA,qA,qA],[.cells [.int .i64 0,.str (sb []),.int .i64 0,.nE true 0 [],.nE true 0 [],.nE true 0 [],.int .i64 0,.int .i64 0],.cells (Syntax.cells o1)],0,[]⟩=X0 v0 v1 v2 o1)→ ∀ (v0:List Syntax) (v1:Int) (v2:Int) (o1:Syntax),run (s8 n) [.at [0,0,1,0,1,1],.lp m [0,1,0,1,1],.qC 0,.cut [1,1,1],.at [1,1,1]] ⟨[qA,qA,qA,qA,.ptr 0 0,.ptr 1 0,qA,qA,qA,qA,.nE false 8 (mp Syntax.cells v0),.int .i64 v1,.int .i64 v2,qA,qA,qA,qA,qA,qA,qA,qA,qA],[.cells [.int .i64 0,.str (sb []),.int .i64 0,.nE true 0 [],.nE true 0 [],.nE true 0 [],.int .i64 0,.int .i64 0],.cells (Syntax.cells o1)],0,[]⟩=B X0 v0 v1 v2 o1}:=by
 apply iZ
 intro m X0 ih v0 v1 v2 o1
 simp (config:={maxSteps:=100000000}) only[go_sem,iQ,iR,iM,iN,iS,iT,iV,iW,iX,iP,iU,iY,Nd,Nf,Tryd.f29,iO,mixed,Ed,ih]
 exact rfl
noncomputable def LO (n:Nat):Nat→(List Syntax)→Int→Int→Syntax→Option Syntax
 |0,_,_,_,_=>none
 |m+1,v0,v1,v2,o1=>(LN n).1 (LO n m) v0 v1 v2 o1
theorem Ib (n:Nat): ∀ (m:Nat),(∀ (v0:List Syntax) (v1:Int) (v2:Int) (o1:Syntax),run (s8 n) [.lq m [0,1,0,1,1],.qC 0,.cut [1,1,1],.at [1,1,1]] ⟨[qA,qA,qA,qA,.ptr 0 0,.ptr 1 0,qA,qA,qA,qA,.nE false 8 (mp Syntax.cells v0),.int .i64 v1,.int .i64 v2,qA,qA,qA,qA,qA,qA,qA,qA,qA],[.cells [.int .i64 0,.str (sb []),.int .i64 0,.nE true 0 [],.nE true 0 [],.nE true 0 [],.int .i64 0,.int .i64 0],.cells (Syntax.cells o1)],0,[]⟩=LO n m v0 v1 v2 o1)
 |0=>by intros;exact nk
 |m+1=>by
  have ih:=Ib n m
  intro v0 v1 v2 o1
  rw[nq]
  exact (LN n).2 m _ ih v0 v1 v2 o1
noncomputable def I4 (n:Nat):{B:Str→(List Syntax)→Option Syntax // ∀ (a0:Str) (a1:(List Syntax)),run (s8 n) [.at []] {slots:=[sD.enc a0,(oa Syntax.row).enc a1]++jc (22-[sD.enc a0,(oa Syntax.row).enc a1].length) qA,heap:=[]}=B a0 a1}:=by
 apply iZ
 intro a0 a1
 simp (config:={maxSteps:=100000000}) only[go_sem,iQ,iR,iM,iN,iS,iT,iV,iW,iX,iP,iU,iY,Nd,Nf,Tryd.f29,iO,mixed,Ed,Ib n]
 exact rfl
noncomputable def wO:Nat→Str→(List Syntax)→Option Syntax
 |0,_,_=>none
 |n+1,a0,a1=>(I4 n).1 a0 a1
theorem LP: ∀ (n:Nat) (a0:Str) (a1:(List Syntax)) (r:Syntax),wO n a0 a1=some r→xS Tryd.prog 29 [sD.enc a0,(oa Syntax.row).enc a1] (fun v=>v=(nF Syntax.cel).enc r)
 |0,_,_,_,h=>by cases h
 |n+1,a0,a1,r,h=>by
  exact pL (M:=s8 n) ⟨(mV (qi (Fp n)) mY),mZ,nH _,nI _,oh,oH,oV,oG⟩ Tryd.func29 rfl rfl ⟨sD.nb 0 _,(oa Syntax.row).nb 0 _,trivial⟩ Tryd.ntmps29 Tryd.results29 (fun σ hs=>pz (P:=Tryd.prog) (rs:=[.cell 4 36]) (t:=(nF Syntax.cel)) (σ:=σ) (r:=r) hs) (((I4 n).2 a0 a1).trans h)
noncomputable def uh:Nrm:=⟨[],[],[zA,zA,zA,zA,zK,zA,zA,zK,zK,zA,zK,zA,zA,zA,zA,zA,zA,zA,zA,zA,zA,zA,zA,zA,zA,zA,zA,zA,zA,zA,zA,zA,zA,zA,zA,zA,zA,zA,zA,zA,zA,zA,zA,zA,zA,zA,zA,zA,zA,zA,zA,zA,zA,zA,zA,zA,zA,zA,zA,zA,zA,zA,zT (oa p8),zK,zK,zA,zA,zA,zA,zA,zA,zA,zA,zA,zA,zA,zA,zA,zA,zA,zA],[oC [zK],oM (nF Notation.cel),oD,oK,oA Syntax.row,oT Notation.cel],none,none⟩
noncomputable def uj:Nrm:=⟨[(7,8,false)],[],[zK,zA,zA,zK,zK,zA,zA,zK,zA,zA,zA,zA,zA,zA,zA,zA,zA,zA,zA,zA,zA,zA,zA,zA,zA,zA,zA,zA,zA,zA,zA,zA,zA,zA,zA,zA,zA,zA,zA,zA,zA,zA,zA,zA,zA,zA,zA,zA,zA,zA,zA,zA,zA,zA,zA,zA,zA,zA,zA,zA,zA,zA,zA,zA,zA,zA,zA,zA,zA,zA,zA,zA,zA,zA,zA,zA,zA,zA,zA,zA,zA],[oC [zK],oM (nF Notation.cel),oT Syntax.cel,oK,oA Syntax.row],none,none⟩
noncomputable def m5:OL Tb:=(sZ (BF (xg 1 pP)) (sZ (wh (nF Notation.cel)) wX))
noncomputable def nB:OL Tb:=(sZ (BF (xg 1 pP)) (sZ (wh (nF Notation.cel)) wX))
noncomputable def nP:AL (Notation×((List Syntax)×(Bool×Unit))):=(qy (nF Notation.cel) (qy (oa Syntax.row) (qy pe pP)))
noncomputable def m8 (n:Nat):pO Te where
 body:=(Tryd.f89.body).getD .skip
 P:=Tryd.prog
 cl:=om [(103,Oh 0 false 8 (entG [0] (B9 (NQ false Syntax.row) Ba) (asA 0 (fun (b:Tm)=>b.1.length) Mo) (B9 (NQ false Syntax.row) Ba) Kf (fun (b:Tm) a=>(wj n) b.1)))]
 cd:=oo []
 qT:=ot [([0,1,0,1,1,1,1,1,1,1],uh),([0,0,1,1],uj)]
 cut:=ou [([1,1,1,1,1,1,1,1,1],[4])]
 n:=n
 out:=Ca Tryd.prog [.cell 4 24,.tmp 5,.tmp 6] [] [0,1] 2 nB nP
 qZ:=nj []
 Ay:=nj []
 Ax:=nj []
theorem yj (n:Nat):(m8 n).P=Tryd.prog∧(m8 n).cl=om [(103,Oh 0 false 8 (entG [0] (B9 (NQ false Syntax.row) Ba) (asA 0 (fun (b:Tm)=>b.1.length) Mo) (B9 (NQ false Syntax.row) Ba) Kf (fun (b:Tm) a=>(wj n) b.1)))]∧(m8 n).cd=oo []∧(m8 n).qT=ot [([0,1,0,1,1,1,1,1,1,1],uh),([0,0,1,1],uj)]∧(m8 n).cut=ou [([1,1,1,1,1,1,1,1,1],[4])]∧(m8 n).n=n∧(m8 n).out=Ca Tryd.prog [.cell 4 24,.tmp 5,.tmp 6] [] [0,1] 2 nB nP∧(m8 n).qZ=nj []∧(m8 n).Ay=nj []∧(m8 n).Ax=nj []:=⟨rfl,rfl,rfl,rfl,rfl,rfl,rfl,rfl,rfl,rfl⟩
theorem yp (n:Nat):(m8 n).body=(Tryd.f89.body).getD .skip:=rfl
theorem yq (n:Nat):tY (m8 n) [0,1,1,1,1]=true:=by kernel_rfl
theorem yt (n:Nat):sX (m8 n) [0,1,1,1,1] 3 11=true∧sX (m8 n) [0,1,1,1,1] 5 11=true∧sX (m8 n) [0,1,1,1,1] 6 11=true∧sX (m8 n) [0,1,1,1,1] 10 11=true:=⟨by kernel_rfl,by kernel_rfl,by kernel_rfl,by kernel_rfl⟩
noncomputable def vB (n:Nat):{B:(Int→(List Str)→Int→Int→T3→(List Syntax)→Notation→Option Te)→Int→(List Str)→Int→Int→T3→(List Syntax)→Notation→Option Te // ∀m X0,(∀ (v0:Int) (v1:List Str) (v2:Int) (v3:Int) (r1:List (Str×Notation)) (r4:List Syntax) (o5:Notation) (c4:Nat),c4=r4.length→run (m8 n) [.lq m [0,1,0,1,1,1,1,1,1,1],.qC 2,.cut [1,1,1,1,1,1,1,1],.at [1,1,1,1,1,1,1,1]] ⟨[qA,qA,qA,qA,.ptr 3 0,qA,qA,.acc 4 c4,.ptr 5 0,qA,.int .i64 v0,qA,qA,qA,qA,qA,qA,qA,qA,qA,qA,qA,qA,qA,qA,qA,qA,qA,qA,qA,qA,qA,qA,qA,qA,qA,qA,qA,qA,qA,qA,qA,qA,qA,qA,qA,qA,qA,qA,qA,qA,qA,qA,qA,qA,qA,qA,qA,qA,qA,qA,qA,.nE false 1 (mp n4 v1),.int .i64 v2,.int .i64 v3,qA,qA,qA,qA,qA,qA,qA,qA,qA,qA,qA,qA,qA,qA,qA,qA],[.cells [.map 1],.map (mp (mcT (nF Notation.cel)) r1),.dead,.cells [.nE true 0 [],.int .i64 0,.int .i64 0,.str (sb [])],.acc false 8 (mp Syntax.cells r4),.cells (Notation.cells o5)],2,[]⟩=X0 v0 v1 v2 v3 r1 r4 o5)→ ∀ (v0:Int) (v1:List Str) (v2:Int) (v3:Int) (r1:List (Str×Notation)) (r4:List Syntax) (o5:Notation),run (m8 n) [.at [0,0,1,0,1,1,1,1,1,1,1],.lp m [0,1,0,1,1,1,1,1,1,1],.qC 2,.cut [1,1,1,1,1,1,1,1],.at [1,1,1,1,1,1,1,1]] ⟨[qA,qA,qA,qA,.ptr 3 0,qA,qA,.acc 4 r4.length,.ptr 5 0,qA,.int .i64 v0,qA,qA,qA,qA,qA,qA,qA,qA,qA,qA,qA,qA,qA,qA,qA,qA,qA,qA,qA,qA,qA,qA,qA,qA,qA,qA,qA,qA,qA,qA,qA,qA,qA,qA,qA,qA,qA,qA,qA,qA,qA,qA,qA,qA,qA,qA,qA,qA,qA,qA,qA,.nE false 1 (mp n4 v1),.int .i64 v2,.int .i64 v3,qA,qA,qA,qA,qA,qA,qA,qA,qA,qA,qA,qA,qA,qA,qA,qA],[.cells [.map 1],.map (mp (mcT (nF Notation.cel)) r1),.dead,.cells [.nE true 0 [],.int .i64 0,.int .i64 0,.str (sb [])],.acc false 8 (mp Syntax.cells r4),.cells (Notation.cells o5)],2,[]⟩=B X0 v0 v1 v2 v3 r1 r4 o5}:=by
 apply iZ
 intro m X0 ih v0 v1 v2 v3 r1 r4 o5
 simp (config:={maxSteps:=100000000}) only[go_sem,iQ,iR,iM,iN,iS,iT,iV,iW,iX,iP,iU,iY,yj,yp,Tryd.f89,iO,mixed,m5,nB,nP,yq,yt,uh,uj,ih]
 exact rfl
noncomputable def rJ (n:Nat):Nat→Int→(List Str)→Int→Int→T3→(List Syntax)→Notation→Option Te
 |0,_,_,_,_,_,_,_=>none
 |m+1,v0,v1,v2,v3,r1,r4,o5=>(vB n).1 (rJ n m) v0 v1 v2 v3 r1 r4 o5
theorem wz (n:Nat): ∀ (m:Nat),(∀ (v0:Int) (v1:List Str) (v2:Int) (v3:Int) (r1:List (Str×Notation)) (r4:List Syntax) (o5:Notation) (c4:Nat),c4=r4.length→run (m8 n) [.lq m [0,1,0,1,1,1,1,1,1,1],.qC 2,.cut [1,1,1,1,1,1,1,1],.at [1,1,1,1,1,1,1,1]] ⟨[qA,qA,qA,qA,.ptr 3 0,qA,qA,.acc 4 c4,.ptr 5 0,qA,.int .i64 v0,qA,qA,qA,qA,qA,qA,qA,qA,qA,qA,qA,qA,qA,qA,qA,qA,qA,qA,qA,qA,qA,qA,qA,qA,qA,qA,qA,qA,qA,qA,qA,qA,qA,qA,qA,qA,qA,qA,qA,qA,qA,qA,qA,qA,qA,qA,qA,qA,qA,qA,qA,.nE false 1 (mp n4 v1),.int .i64 v2,.int .i64 v3,qA,qA,qA,qA,qA,qA,qA,qA,qA,qA,qA,qA,qA,qA,qA,qA],[.cells [.map 1],.map (mp (mcT (nF Notation.cel)) r1),.dead,.cells [.nE true 0 [],.int .i64 0,.int .i64 0,.str (sb [])],.acc false 8 (mp Syntax.cells r4),.cells (Notation.cells o5)],2,[]⟩=rJ n m v0 v1 v2 v3 r1 r4 o5)
 |0=>by intros;exact nk
 |m+1=>by
  have ih:=wz n m
  intro v0 v1 v2 v3 r1 r4 o5 c4 ec4
  subst ec4
  rw[nq]
  exact (vB n).2 m _ ih v0 v1 v2 v3 r1 r4 o5
noncomputable def xM (n:Nat):{B:(T3→Syntax→(List Syntax)→Option Te)→T3→Syntax→(List Syntax)→Option Te // ∀m X0,(∀ (r1:List (Str×Notation)) (o2:Syntax) (r4:List Syntax) (c4:Nat),c4=r4.length→run (m8 n) [.lq m [0,0,1,1],.qC 0,.cut [1,1,1],.at [1,1,1]] ⟨[.ptr 0 0,qA,qA,.ptr 2 0,.ptr 3 0,qA,qA,.acc 4 c4,qA,qA,qA,qA,qA,qA,qA,qA,qA,qA,qA,qA,qA,qA,qA,qA,qA,qA,qA,qA,qA,qA,qA,qA,qA,qA,qA,qA,qA,qA,qA,qA,qA,qA,qA,qA,qA,qA,qA,qA,qA,qA,qA,qA,qA,qA,qA,qA,qA,qA,qA,qA,qA,qA,qA,qA,qA,qA,qA,qA,qA,qA,qA,qA,qA,qA,qA,qA,qA,qA,qA,qA,qA],[.cells [.map 1],.map (mp (mcT (nF Notation.cel)) r1),.cells (Syntax.cells o2),.cells [.nE true 0 [],.int .i64 0,.int .i64 0,.str (sb [])],.acc false 8 (mp Syntax.cells r4)],2,[]⟩=X0 r1 o2 r4)→ ∀ (r1:List (Str×Notation)) (o2:Syntax) (r4:List Syntax),run (m8 n) [.at [0,0,0,1,1],.lp m [0,0,1,1],.qC 0,.cut [1,1,1],.at [1,1,1]] ⟨[.ptr 0 0,qA,qA,.ptr 2 0,.ptr 3 0,qA,qA,.acc 4 r4.length,qA,qA,qA,qA,qA,qA,qA,qA,qA,qA,qA,qA,qA,qA,qA,qA,qA,qA,qA,qA,qA,qA,qA,qA,qA,qA,qA,qA,qA,qA,qA,qA,qA,qA,qA,qA,qA,qA,qA,qA,qA,qA,qA,qA,qA,qA,qA,qA,qA,qA,qA,qA,qA,qA,qA,qA,qA,qA,qA,qA,qA,qA,qA,qA,qA,qA,qA,qA,qA,qA,qA,qA,qA],[.cells [.map 1],.map (mp (mcT (nF Notation.cel)) r1),.cells (Syntax.cells o2),.cells [.nE true 0 [],.int .i64 0,.int .i64 0,.str (sb [])],.acc false 8 (mp Syntax.cells r4)],2,[]⟩=B X0 r1 o2 r4}:=by
 apply iZ
 intro m X0 ih r1 o2 r4
 simp (config:={maxSteps:=100000000}) only[go_sem,iQ,iR,iM,iN,iS,iT,iV,iW,iX,iP,iU,iY,yj,yp,Tryd.f89,iO,mixed,m5,nB,nP,yq,yt,uh,uj,wz n,ih]
 exact rfl
noncomputable def uk (n:Nat):Nat→T3→Syntax→(List Syntax)→Option Te
 |0,_,_,_=>none
 |m+1,r1,o2,r4=>(xM n).1 (uk n m) r1 o2 r4
theorem Ae (n:Nat): ∀ (m:Nat),(∀ (r1:List (Str×Notation)) (o2:Syntax) (r4:List Syntax) (c4:Nat),c4=r4.length→run (m8 n) [.lq m [0,0,1,1],.qC 0,.cut [1,1,1],.at [1,1,1]] ⟨[.ptr 0 0,qA,qA,.ptr 2 0,.ptr 3 0,qA,qA,.acc 4 c4,qA,qA,qA,qA,qA,qA,qA,qA,qA,qA,qA,qA,qA,qA,qA,qA,qA,qA,qA,qA,qA,qA,qA,qA,qA,qA,qA,qA,qA,qA,qA,qA,qA,qA,qA,qA,qA,qA,qA,qA,qA,qA,qA,qA,qA,qA,qA,qA,qA,qA,qA,qA,qA,qA,qA,qA,qA,qA,qA,qA,qA,qA,qA,qA,qA,qA,qA,qA,qA,qA,qA,qA,qA],[.cells [.map 1],.map (mp (mcT (nF Notation.cel)) r1),.cells (Syntax.cells o2),.cells [.nE true 0 [],.int .i64 0,.int .i64 0,.str (sb [])],.acc false 8 (mp Syntax.cells r4)],2,[]⟩=uk n m r1 o2 r4)
 |0=>by intros;exact nk
 |m+1=>by
  have ih:=Ae n m
  intro r1 o2 r4 c4 ec4
  subst ec4
  rw[nq]
  exact (xM n).2 m _ ih r1 o2 r4
noncomputable def yu (n:Nat):{B:Syntax→T3→Option Te // ∀ (a0:Syntax) (o0:T3),run (m8 n) [.at []] {slots:=((tI 0 (qy (nF Syntax.cel) pP)).enc (m5.lens ((),o0,())) (a0,()))++jc (81-((tI 0 (qy (nF Syntax.cel) pP)).enc (m5.lens ((),o0,())) (a0,())).length) qA,heap:=(m5.enc (m5.lens ((),o0,())) ((),o0,())),low:=(m5.enc (m5.lens ((),o0,())) ((),o0,())).length}=B a0 o0}:=by
 apply iZ
 intro a0 o0
 simp (config:={maxSteps:=100000000}) only[go_sem,iQ,iR,iM,iN,iS,iT,iV,iW,iX,iP,iU,iY,yj,yp,Tryd.f89,iO,mixed,m5,nB,nP,yq,yt,uh,uj,wz n,Ae n]
 exact rfl
noncomputable def qY:Nat→Syntax→T3→Option Te
 |0,_,_=>none
 |n+1,a0,o0=>(yu n).1 a0 o0
theorem xN: ∀ (n:Nat) (a0:Syntax) (o0:T3) (r:Te),qY n a0 o0=some r→Ob Tryd.prog 89 ((tI 0 (qy (nF Syntax.cel) pP)).enc (m5.lens ((),o0,())) (a0,())) (m5.enc (m5.lens ((),o0,())) ((),o0,())) (fun o H'=>o= .ret (uR (nP.enc (nB.lens r.1) r.2))∧H'=nB.enc (nB.lens r.1) r.1)
 |0,_,_,_,h=>by cases h
 |n+1,a0,o0,r,h=>by
  exact wW (M:=m8 n) ⟨(mV (Sp (Kh (fun b a r h=>(IN n) b.1 r h))) mY),mZ,nH _,nI _,oh,oH,oV,oG⟩ Tryd.func89 rfl rfl (sE (jd (of_decide_eq_true (by kernel_rfl)) (je (m5.sz _ _).symm)) _ ((tI 0 (qy (nF Syntax.cel) pP)).nb _ _)) (fun x hx=>tN (jd (of_decide_eq_true (by kernel_rfl)) (je (m5.sz _ _).symm)) _ (m5.nb _ _ x hx)) Tryd.ntmps89 Tryd.results89 (fun σ hs=>AA (P:=Tryd.prog) (rs:=[.cell 4 24,.tmp 5,.tmp 6]) (pos:=[]) (base:=[0,1]) (low:=2) (os:=nB) (s:=nP) (σ:=σ) (r:=r) (by rfl) hs) (((yu n).2 a0 o0).trans h)
end Go.Abs
namespace Go.Abs
open Go.Proofs
set_option maxRecDepth 100000
set_option maxHeartbeats 4000000
noncomputable def uD (n:Nat):pO Bool where
 body:=(Tryd.f72.body).getD .skip
 P:=Tryd.prog
 cl:=om [(100,qj (o9 .u8) pe (DQ n))]
 cd:=oo []
 qT:=ot []
 cut:=ou []
 n:=n
 out:=pW Tryd.prog [.tmp 2] pe
 qZ:=nj []
theorem SV (n:Nat):(uD n).P=Tryd.prog∧(uD n).cl=om [(100,qj (o9 .u8) pe (DQ n))]∧(uD n).cd=oo []∧(uD n).qT=ot []∧(uD n).cut=ou []∧(uD n).n=n∧(uD n).out=pW Tryd.prog [.tmp 2] pe∧(uD n).qZ=nj []:=⟨rfl,rfl,rfl,rfl,rfl,rfl,rfl,rfl⟩
theorem SW (n:Nat):(uD n).body=(Tryd.f72.body).getD .skip:=rfl
noncomputable def Hg (n:Nat):{B:Int→Option Bool // ∀ (a0:Int),run (uD n) [.at []] {slots:=[(o9 .u8).enc a0]++jc (9-[(o9 .u8).enc a0].length) qA,heap:=[]}=B a0}:=by
 apply iZ
 intro a0
 simp (config:={maxSteps:=100000000}) only[go_sem,iQ,iR,iM,iN,iS,iT,iV,iW,iX,iP,iU,iY,SV,SW,Tryd.f72,iO,mixed]
 exact rfl
noncomputable def AG:Nat→Int→Option Bool
 |0,_=>none
 |n+1,a0=>(Hg n).1 a0
theorem K8: ∀ (n:Nat) (a0:Int) (r:Bool),AG n a0=some r→xS Tryd.prog 72 [(o9 .u8).enc a0] (fun v=>v=pe.enc r)
 |0,_,_,h=>by cases h
 |n+1,a0,r,h=>by
  exact pL (M:=uD n) ⟨(mV (qi (Q6 n)) mY),mZ,nH _,nI _,oh,oH,oV,oG⟩ Tryd.func72 rfl rfl ⟨(o9 .u8).nb 0 _,trivial⟩ Tryd.ntmps72 Tryd.results72 (fun σ hs=>pz (P:=Tryd.prog) (rs:=[.tmp 2]) (t:=pe) (σ:=σ) (r:=r) hs) (((Hg n).2 a0).trans h)
noncomputable def Ft:Nrm:=⟨[],[],[zK,zA,zA,zK,zK,zA,zA,zA,zA,zA,zA,zA,zA,zA,zA,zA,zA,zA,zA,zA,zA,zA,zA,zA,zA,zA,zA,zA,zA,zA,zA,zA,zA,zA,zA,zA,zA,zA,zA,zA,zA,zA,zA,zA,zA],[],none,none⟩
noncomputable def um (n:Nat):pO Bool where
 body:=(Tryd.f49.body).getD .skip
 P:=Tryd.prog
 cl:=om [(77,qj (o9 .u8) pe (DR n))]
 cd:=oo []
 qT:=ot [([0,1,0,1,1,1],Ft)]
 cut:=ou []
 n:=n
 out:=pW Tryd.prog [.tmp 2] pe
 qZ:=nj []
theorem OE (n:Nat):(um n).P=Tryd.prog∧(um n).cl=om [(77,qj (o9 .u8) pe (DR n))]∧(um n).cd=oo []∧(um n).qT=ot [([0,1,0,1,1,1],Ft)]∧(um n).cut=ou []∧(um n).n=n∧(um n).out=pW Tryd.prog [.tmp 2] pe∧(um n).qZ=nj []:=⟨rfl,rfl,rfl,rfl,rfl,rfl,rfl,rfl⟩
theorem OF (n:Nat):(um n).body=(Tryd.f49.body).getD .skip:=rfl
noncomputable def Fv (n:Nat):{B:(Str→Bool→Int→Option Bool)→Str→Bool→Int→Option Bool // ∀m X0,(∀ (v0:Str) (v1:Bool) (v2:Int),run (um n) [.lq m [0,1,0,1,1,1],.qC 0,.cut [1,1,1,1],.at [1,1,1,1]] ⟨[.str (sb v0),qA,qA,.bool v1,.int .i64 v2,qA,qA,qA,qA,qA,qA,qA,qA,qA,qA,qA,qA,qA,qA,qA,qA,qA,qA,qA,qA,qA,qA,qA,qA,qA,qA,qA,qA,qA,qA,qA,qA,qA,qA,qA,qA,qA,qA,qA,qA],[],0,[]⟩=X0 v0 v1 v2)→ ∀ (v0:Str) (v1:Bool) (v2:Int),run (um n) [.at [0,0,1,0,1,1,1],.lp m [0,1,0,1,1,1],.qC 0,.cut [1,1,1,1],.at [1,1,1,1]] ⟨[.str (sb v0),qA,qA,.bool v1,.int .i64 v2,qA,qA,qA,qA,qA,qA,qA,qA,qA,qA,qA,qA,qA,qA,qA,qA,qA,qA,qA,qA,qA,qA,qA,qA,qA,qA,qA,qA,qA,qA,qA,qA,qA,qA,qA,qA,qA,qA,qA,qA],[],0,[]⟩=B X0 v0 v1 v2}:=by
 apply iZ
 intro m X0 ih v0 v1 v2
 simp (config:={maxSteps:=100000000}) only[go_sem,iQ,iR,iM,iN,iS,iT,iV,iW,iX,iP,iU,iY,OE,OF,Tryd.f49,iO,mixed,Ft,ih]
 exact rfl
noncomputable def A7 (n:Nat):Nat→Str→Bool→Int→Option Bool
 |0,_,_,_=>none
 |m+1,v0,v1,v2=>(Fv n).1 (A7 n m) v0 v1 v2
theorem JH (n:Nat): ∀ (m:Nat),(∀ (v0:Str) (v1:Bool) (v2:Int),run (um n) [.lq m [0,1,0,1,1,1],.qC 0,.cut [1,1,1,1],.at [1,1,1,1]] ⟨[.str (sb v0),qA,qA,.bool v1,.int .i64 v2,qA,qA,qA,qA,qA,qA,qA,qA,qA,qA,qA,qA,qA,qA,qA,qA,qA,qA,qA,qA,qA,qA,qA,qA,qA,qA,qA,qA,qA,qA,qA,qA,qA,qA,qA,qA,qA,qA,qA,qA],[],0,[]⟩=A7 n m v0 v1 v2)
 |0=>by intros;exact nk
 |m+1=>by
  have ih:=JH n m
  intro v0 v1 v2
  rw[nq]
  exact (Fv n).2 m _ ih v0 v1 v2
noncomputable def Ky (n:Nat):{B:Str→Option Bool // ∀ (a0:Str),run (um n) [.at []] {slots:=[sD.enc a0]++jc (45-[sD.enc a0].length) qA,heap:=[]}=B a0}:=by
 apply iZ
 intro a0
 simp (config:={maxSteps:=100000000}) only[go_sem,iQ,iR,iM,iN,iS,iT,iV,iW,iX,iP,iU,iY,OE,OF,Tryd.f49,iO,mixed,Ft,JH n]
 exact rfl
noncomputable def Hh:Nat→Str→Option Bool
 |0,_=>none
 |n+1,a0=>(Ky n).1 a0
theorem US: ∀ (n:Nat) (a0:Str) (r:Bool),Hh n a0=some r→xS Tryd.prog 49 [sD.enc a0] (fun v=>v=pe.enc r)
 |0,_,_,h=>by cases h
 |n+1,a0,r,h=>by
  exact pL (M:=um n) ⟨(mV (qi (Q7 n)) mY),mZ,nH _,nI _,oh,oH,oV,oG⟩ Tryd.func49 rfl rfl ⟨sD.nb 0 _,trivial⟩ Tryd.ntmps49 Tryd.results49 (fun σ hs=>pz (P:=Tryd.prog) (rs:=[.tmp 2]) (t:=pe) (σ:=σ) (r:=r) hs) (((Ky n).2 a0).trans h)
noncomputable def vO (n:Nat):pO Str where
 body:=(Tryd.f94.body).getD .skip
 P:=Tryd.prog
 cl:=om [(47,qj (nF Notation.cel) pe (tS n))]
 cd:=oo []
 qT:=ot []
 cut:=ou []
 n:=n
 out:=pW Tryd.prog [.tmp 2] sD
 qZ:=nj []
theorem W1 (n:Nat):(vO n).P=Tryd.prog∧(vO n).cl=om [(47,qj (nF Notation.cel) pe (tS n))]∧(vO n).cd=oo []∧(vO n).qT=ot []∧(vO n).cut=ou []∧(vO n).n=n∧(vO n).out=pW Tryd.prog [.tmp 2] sD∧(vO n).qZ=nj []:=⟨rfl,rfl,rfl,rfl,rfl,rfl,rfl,rfl⟩
theorem W2 (n:Nat):(vO n).body=(Tryd.f94.body).getD .skip:=rfl
noncomputable def Kz (n:Nat):{B:Notation→Option Str // ∀ (a0:Notation),run (vO n) [.at []] {slots:=[(nF Notation.cel).enc a0]++jc (13-[(nF Notation.cel).enc a0].length) qA,heap:=[]}=B a0}:=by
 apply iZ
 intro a0
 simp (config:={maxSteps:=100000000}) only[go_sem,iQ,iR,iM,iN,iS,iT,iV,iW,iX,iP,iU,iY,W1,W2,Tryd.f94,iO,mixed]
 exact rfl
noncomputable def zu:Nat→Notation→Option Str
 |0,_=>none
 |n+1,a0=>(Kz n).1 a0
theorem I5: ∀ (n:Nat) (a0:Notation) (r:Str),zu n a0=some r→xS Tryd.prog 94 [(nF Notation.cel).enc a0] (fun v=>v=sD.enc r)
 |0,_,_,h=>by cases h
 |n+1,a0,r,h=>by
  exact pL (M:=vO n) ⟨(mV (qi (zm n)) mY),mZ,nH _,nI _,oh,oH,oV,oG⟩ Tryd.func94 rfl rfl ⟨(nF Notation.cel).nb 0 _,trivial⟩ Tryd.ntmps94 Tryd.results94 (fun σ hs=>pz (P:=Tryd.prog) (rs:=[.tmp 2]) (t:=sD) (σ:=σ) (r:=r) hs) (((Kz n).2 a0).trans h)
noncomputable def Ee:Nrm:=⟨[],[],[zA,zK,zK,zA,zA,zA,zK,zA,zA,zA,zA,zA,zA,zA,zA,zA,zA,zA,zA,zA,zA,zA,zA,zA],[oT Notation.cel],none,none⟩
noncomputable def s9 (n:Nat):pO Bool where
 body:=(Tryd.f106.body).getD .skip
 P:=Tryd.prog
 cl:=om [(47,qj (nF Notation.cel) pe (tS n))]
 cd:=oo []
 qT:=ot [([0,1,0,1,1,1],Ee)]
 cut:=ou []
 n:=n
 out:=pW Tryd.prog [.tmp 4] pe
 qZ:=nj []
theorem Ng (n:Nat):(s9 n).P=Tryd.prog∧(s9 n).cl=om [(47,qj (nF Notation.cel) pe (tS n))]∧(s9 n).cd=oo []∧(s9 n).qT=ot [([0,1,0,1,1,1],Ee)]∧(s9 n).cut=ou []∧(s9 n).n=n∧(s9 n).out=pW Tryd.prog [.tmp 4] pe∧(s9 n).qZ=nj []:=⟨rfl,rfl,rfl,rfl,rfl,rfl,rfl,rfl⟩
theorem Nh (n:Nat):(s9 n).body=(Tryd.f106.body).getD .skip:=rfl
noncomputable def Ef (n:Nat):{B:(Str→Int→Notation→Option Bool)→Str→Int→Notation→Option Bool // ∀m X0,(∀ (v0:Str) (v1:Int) (o0:Notation),run (s9 n) [.lq m [0,1,0,1,1,1],.qC 0,.cut [1,1,1,1],.at [1,1,1,1]] ⟨[qA,.str (sb v0),.ptr 0 0,qA,qA,qA,.int .i64 v1,qA,qA,qA,qA,qA,qA,qA,qA,qA,qA,qA,qA,qA,qA,qA,qA,qA],[.cells (Notation.cells o0)],0,[]⟩=X0 v0 v1 o0)→ ∀ (v0:Str) (v1:Int) (o0:Notation),run (s9 n) [.at [0,0,1,0,1,1,1],.lp m [0,1,0,1,1,1],.qC 0,.cut [1,1,1,1],.at [1,1,1,1]] ⟨[qA,.str (sb v0),.ptr 0 0,qA,qA,qA,.int .i64 v1,qA,qA,qA,qA,qA,qA,qA,qA,qA,qA,qA,qA,qA,qA,qA,qA,qA],[.cells (Notation.cells o0)],0,[]⟩=B X0 v0 v1 o0}:=by
 apply iZ
 intro m X0 ih v0 v1 o0
 simp (config:={maxSteps:=100000000}) only[go_sem,iQ,iR,iM,iN,iS,iT,iV,iW,iX,iP,iU,iY,Ng,Nh,Tryd.f106,iO,mixed,Ee,ih]
 exact rfl
noncomputable def yw (n:Nat):Nat→Str→Int→Notation→Option Bool
 |0,_,_,_=>none
 |m+1,v0,v1,o0=>(Ef n).1 (yw n m) v0 v1 o0
theorem Ic (n:Nat): ∀ (m:Nat),(∀ (v0:Str) (v1:Int) (o0:Notation),run (s9 n) [.lq m [0,1,0,1,1,1],.qC 0,.cut [1,1,1,1],.at [1,1,1,1]] ⟨[qA,.str (sb v0),.ptr 0 0,qA,qA,qA,.int .i64 v1,qA,qA,qA,qA,qA,qA,qA,qA,qA,qA,qA,qA,qA,qA,qA,qA,qA],[.cells (Notation.cells o0)],0,[]⟩=yw n m v0 v1 o0)
 |0=>by intros;exact nk
 |m+1=>by
  have ih:=Ic n m
  intro v0 v1 o0
  rw[nq]
  exact (Ef n).2 m _ ih v0 v1 o0
noncomputable def I6 (n:Nat):{B:Notation→Str→Option Bool // ∀ (a0:Notation) (a1:Str),run (s9 n) [.at []] {slots:=[(nF Notation.cel).enc a0,sD.enc a1]++jc (24-[(nF Notation.cel).enc a0,sD.enc a1].length) qA,heap:=[]}=B a0 a1}:=by
 apply iZ
 intro a0 a1
 simp (config:={maxSteps:=100000000}) only[go_sem,iQ,iR,iM,iN,iS,iT,iV,iW,iX,iP,iU,iY,Ng,Nh,Tryd.f106,iO,mixed,Ee,Ic n]
 exact rfl
noncomputable def DA:Nat→Notation→Str→Option Bool
 |0,_,_=>none
 |n+1,a0,a1=>(I6 n).1 a0 a1
theorem SX: ∀ (n:Nat) (a0:Notation) (a1:Str) (r:Bool),DA n a0 a1=some r→xS Tryd.prog 106 [(nF Notation.cel).enc a0,sD.enc a1] (fun v=>v=pe.enc r)
 |0,_,_,_,h=>by cases h
 |n+1,a0,a1,r,h=>by
  exact pL (M:=s9 n) ⟨(mV (qi (zm n)) mY),mZ,nH _,nI _,oh,oH,oV,oG⟩ Tryd.func106 rfl rfl ⟨(nF Notation.cel).nb 0 _,sD.nb 0 _,trivial⟩ Tryd.ntmps106 Tryd.results106 (fun σ hs=>pz (P:=Tryd.prog) (rs:=[.tmp 4]) (t:=pe) (σ:=σ) (r:=r) hs) (((I6 n).2 a0 a1).trans h)
noncomputable def Af:Nrm:=⟨[],[],[zT (oa Notation.row),zA,zA,zK,zK,zK,zA,zA,zA,zA,zA,zA,zA,zA,zA,zA,zA,zA,zA,zA,zA,zA,zA,zA,zA,zA,zA,zA,zA,zA,zA,zA,zA,zA,zA,zA,zA,zA,zA,zA,zA,zA,zA,zA],[oA p8],none,none⟩
noncomputable def Ag:Nrm:=⟨[(3,1,true)],[],[zT (oa Notation.row),zA,zA,zK,zK,zA,zA,zA,zA,zA,zA,zA,zA,zA,zA,zA,zA,zA,zA,zA,zA,zA,zA,zA,zA,zA,zA,zA,zA,zA,zA,zA,zA,zA,zA,zA,zA,zA,zA,zA,zA,zA,zA,zA],[oA p8],none,none⟩
noncomputable def qn (n:Nat):pO (List Str) where
 body:=(Tryd.f35.body).getD .skip
 P:=Tryd.prog
 cl:=om [(63,tH (oa p8) sD pe (JE n))]
 cd:=oo []
 qT:=ot [([0,1,0,0,1,0,0,1,0,1,1],Af),([0,1,0,1,1],Ag)]
 cut:=ou []
 n:=n
 out:=pW Tryd.prog [.tmp 2] (oa p8)
 qZ:=nj []
theorem Gi (n:Nat):(qn n).P=Tryd.prog∧(qn n).cl=om [(63,tH (oa p8) sD pe (JE n))]∧(qn n).cd=oo []∧(qn n).qT=ot [([0,1,0,0,1,0,0,1,0,1,1],Af),([0,1,0,1,1],Ag)]∧(qn n).cut=ou []∧(qn n).n=n∧(qn n).out=pW Tryd.prog [.tmp 2] (oa p8)∧(qn n).qZ=nj []:=⟨rfl,rfl,rfl,rfl,rfl,rfl,rfl,rfl⟩
theorem Gj (n:Nat):(qn n).body=(Tryd.f35.body).getD .skip:=rfl
noncomputable def Cf (n:Nat):{B:TB→((List Notation)→Int→Int→(List Str)→Option (List Str))→(List Notation)→Int→Int→(List Str)→Option (List Str) // ∀m2 X2 m X0,(∀ (v0:List Notation) (v1:Int) (r0:List Str) (c0:Nat),c0=r0.length→run (qn n) [.lq m2 [0,1,0,1,1],.qC 0,.cut [1,1,1],.at [1,1,1]] ⟨[.nE false 4 (mp Notation.cells v0),qA,qA,.acc 0 c0,.int .i64 v1,qA,qA,qA,qA,qA,qA,qA,qA,qA,qA,qA,qA,qA,qA,qA,qA,qA,qA,qA,qA,qA,qA,qA,qA,qA,qA,qA,qA,qA,qA,qA,qA,qA,qA,qA,qA,qA,qA,qA],[.acc true 1 (mp n4 r0)],0,[]⟩=X2 v0 v1 r0)→(∀ (v0:List Notation) (v1:Int) (v2:Int) (r0:List Str) (c0:Nat),c0=r0.length→run (qn n) [.lq m [0,1,0,0,1,0,0,1,0,1,1],.qC 2,.qC 1,.cut [1,1,0,0,1,0,1,1],.at [1,1,0,0,1,0,1,1],.lp m2 [0,1,0,1,1],.qC 0,.cut [1,1,1],.at [1,1,1]] ⟨[.nE false 4 (mp Notation.cells v0),qA,qA,.acc 0 c0,.int .i64 v1,.int .i64 v2,qA,qA,qA,qA,qA,qA,qA,qA,qA,qA,qA,qA,qA,qA,qA,qA,qA,qA,qA,qA,qA,qA,qA,qA,qA,qA,qA,qA,qA,qA,qA,qA,qA,qA,qA,qA,qA,qA],[.acc true 1 (mp n4 r0)],0,[]⟩=X0 v0 v1 v2 r0)→ ∀ (v0:List Notation) (v1:Int) (v2:Int) (r0:List Str),run (qn n) [.at [0,0,1,0,0,1,0,0,1,0,1,1],.lp m [0,1,0,0,1,0,0,1,0,1,1],.qC 2,.qC 1,.cut [1,1,0,0,1,0,1,1],.at [1,1,0,0,1,0,1,1],.lp m2 [0,1,0,1,1],.qC 0,.cut [1,1,1],.at [1,1,1]] ⟨[.nE false 4 (mp Notation.cells v0),qA,qA,.acc 0 r0.length,.int .i64 v1,.int .i64 v2,qA,qA,qA,qA,qA,qA,qA,qA,qA,qA,qA,qA,qA,qA,qA,qA,qA,qA,qA,qA,qA,qA,qA,qA,qA,qA,qA,qA,qA,qA,qA,qA,qA,qA,qA,qA,qA,qA],[.acc true 1 (mp n4 r0)],0,[]⟩=B X2 X0 v0 v1 v2 r0}:=by
 apply iZ
 intro m2 X2 m X0 h2 ih v0 v1 v2 r0
 simp (config:={maxSteps:=100000000}) only[go_sem,iQ,iR,iM,iN,iS,iT,iV,iW,iX,iP,iU,iY,Gi,Gj,Tryd.f35,iO,mixed,Af,Ag,h2,ih]
 exact rfl
noncomputable def xV (n:Nat) (X2:(List Notation)→Int→(List Str)→Option (List Str)):Nat→(List Notation)→Int→Int→(List Str)→Option (List Str)
 |0,_,_,_,_=>none
 |m+1,v0,v1,v2,r0=>(Cf n).1 X2 (xV n X2 m) v0 v1 v2 r0
theorem Gx (n:Nat) (m2:Nat) (X2:(List Notation)→Int→(List Str)→Option (List Str)) (h2:(∀ (v0:List Notation) (v1:Int) (r0:List Str) (c0:Nat),c0=r0.length→run (qn n) [.lq m2 [0,1,0,1,1],.qC 0,.cut [1,1,1],.at [1,1,1]] ⟨[.nE false 4 (mp Notation.cells v0),qA,qA,.acc 0 c0,.int .i64 v1,qA,qA,qA,qA,qA,qA,qA,qA,qA,qA,qA,qA,qA,qA,qA,qA,qA,qA,qA,qA,qA,qA,qA,qA,qA,qA,qA,qA,qA,qA,qA,qA,qA,qA,qA,qA,qA,qA,qA],[.acc true 1 (mp n4 r0)],0,[]⟩=X2 v0 v1 r0)): ∀ (m:Nat),(∀ (v0:List Notation) (v1:Int) (v2:Int) (r0:List Str) (c0:Nat),c0=r0.length→run (qn n) [.lq m [0,1,0,0,1,0,0,1,0,1,1],.qC 2,.qC 1,.cut [1,1,0,0,1,0,1,1],.at [1,1,0,0,1,0,1,1],.lp m2 [0,1,0,1,1],.qC 0,.cut [1,1,1],.at [1,1,1]] ⟨[.nE false 4 (mp Notation.cells v0),qA,qA,.acc 0 c0,.int .i64 v1,.int .i64 v2,qA,qA,qA,qA,qA,qA,qA,qA,qA,qA,qA,qA,qA,qA,qA,qA,qA,qA,qA,qA,qA,qA,qA,qA,qA,qA,qA,qA,qA,qA,qA,qA,qA,qA,qA,qA,qA,qA],[.acc true 1 (mp n4 r0)],0,[]⟩=xV n X2 m v0 v1 v2 r0)
 |0=>by intros;exact nk
 |m+1=>by
  have ih:=Gx n m2 X2 h2 m
  intro v0 v1 v2 r0 c0 ec0
  subst ec0
  rw[nq]
  exact (Cf n).2 m2 X2 m _ h2 ih v0 v1 v2 r0
noncomputable def Cg (n:Nat):{B:TB→(List Notation)→Int→(List Str)→Option (List Str) // ∀m X0,(∀ (v0:List Notation) (v1:Int) (r0:List Str) (c0:Nat),c0=r0.length→run (qn n) [.lq m [0,1,0,1,1],.qC 0,.cut [1,1,1],.at [1,1,1]] ⟨[.nE false 4 (mp Notation.cells v0),qA,qA,.acc 0 c0,.int .i64 v1,qA,qA,qA,qA,qA,qA,qA,qA,qA,qA,qA,qA,qA,qA,qA,qA,qA,qA,qA,qA,qA,qA,qA,qA,qA,qA,qA,qA,qA,qA,qA,qA,qA,qA,qA,qA,qA,qA,qA],[.acc true 1 (mp n4 r0)],0,[]⟩=X0 v0 v1 r0)→ ∀ (v0:List Notation) (v1:Int) (r0:List Str),run (qn n) [.at [0,0,1,0,1,1],.lp m [0,1,0,1,1],.qC 0,.cut [1,1,1],.at [1,1,1]] ⟨[.nE false 4 (mp Notation.cells v0),qA,qA,.acc 0 r0.length,.int .i64 v1,qA,qA,qA,qA,qA,qA,qA,qA,qA,qA,qA,qA,qA,qA,qA,qA,qA,qA,qA,qA,qA,qA,qA,qA,qA,qA,qA,qA,qA,qA,qA,qA,qA,qA,qA,qA,qA,qA,qA],[.acc true 1 (mp n4 r0)],0,[]⟩=B X0 v0 v1 r0}:=by
 apply iZ
 intro m X0 ih v0 v1 r0
 simp (config:={maxSteps:=100000000}) only[go_sem,iQ,iR,iM,iN,iS,iT,iV,iW,iX,iP,iU,iY,Gi,Gj,Tryd.f35,iO,mixed,Af,Ag,Gx n m X0 ih,ih]
 exact rfl
noncomputable def wA (n:Nat):Nat→(List Notation)→Int→(List Str)→Option (List Str)
 |0,_,_,_=>none
 |m+1,v0,v1,r0=>(Cg n).1 (wA n m) v0 v1 r0
theorem Gy (n:Nat): ∀ (m:Nat),(∀ (v0:List Notation) (v1:Int) (r0:List Str) (c0:Nat),c0=r0.length→run (qn n) [.lq m [0,1,0,1,1],.qC 0,.cut [1,1,1],.at [1,1,1]] ⟨[.nE false 4 (mp Notation.cells v0),qA,qA,.acc 0 c0,.int .i64 v1,qA,qA,qA,qA,qA,qA,qA,qA,qA,qA,qA,qA,qA,qA,qA,qA,qA,qA,qA,qA,qA,qA,qA,qA,qA,qA,qA,qA,qA,qA,qA,qA,qA,qA,qA,qA,qA,qA,qA],[.acc true 1 (mp n4 r0)],0,[]⟩=wA n m v0 v1 r0)
 |0=>by intros;exact nk
 |m+1=>by
  have ih:=Gy n m
  intro v0 v1 r0 c0 ec0
  subst ec0
  rw[nq]
  exact (Cg n).2 m _ ih v0 v1 r0
noncomputable def Gk (n:Nat):{B:(List Notation)→Option (List Str) // ∀ (a0:(List Notation)),run (qn n) [.at []] {slots:=[(oa Notation.row).enc a0]++jc (44-[(oa Notation.row).enc a0].length) qA,heap:=[]}=B a0}:=by
 apply iZ
 intro a0
 simp (config:={maxSteps:=100000000}) only[go_sem,iQ,iR,iM,iN,iS,iT,iV,iW,iX,iP,iU,iY,Gi,Gj,Tryd.f35,iO,mixed,Af,Ag,Gy n]
 exact rfl
noncomputable def CI:Nat→(List Notation)→Option (List Str)
 |0,_=>none
 |n+1,a0=>(Gk n).1 a0
theorem PI: ∀ (n:Nat) (a0:(List Notation)) (r:(List Str)),CI n a0=some r→xS Tryd.prog 35 [(oa Notation.row).enc a0] (fun v=>v=(oa p8).enc r)
 |0,_,_,h=>by cases h
 |n+1,a0,r,h=>by
  exact pL (M:=qn n) ⟨(mV (uH (WZ n)) mY),mZ,nH _,nI _,oh,oH,oV,oG⟩ Tryd.func35 rfl rfl ⟨(oa Notation.row).nb 0 _,trivial⟩ Tryd.ntmps35 Tryd.results35 (fun σ hs=>pz (P:=Tryd.prog) (rs:=[.tmp 2]) (t:=(oa p8)) (σ:=σ) (r:=r) hs) (((Gk n).2 a0).trans h)
noncomputable def Eg:Nrm:=⟨[],[],[zA,zA,zA,zK,zA,zA,zA,zA,zT (oa Syntax.row),zK,zK,zA,zA,zA,zA,zA,zA,zA,zA,zA,zA,zA,zA,zA],[],none,none⟩
noncomputable def td (n:Nat):pO Bool where
 body:=(Tryd.f14.body).getD .skip
 P:=Tryd.prog
 cl:=om [(50,tH (nF Syntax.cel) (o9 .i64) (K0 (o9 .i64) pe) (xQ n))]
 cd:=oo []
 qT:=ot [([0,1,0,1,1],Eg)]
 cut:=ou []
 n:=n
 out:=pW Tryd.prog [.tmp 2] pe
 qZ:=nj []
theorem Ni (n:Nat):(td n).P=Tryd.prog∧(td n).cl=om [(50,tH (nF Syntax.cel) (o9 .i64) (K0 (o9 .i64) pe) (xQ n))]∧(td n).cd=oo []∧(td n).qT=ot [([0,1,0,1,1],Eg)]∧(td n).cut=ou []∧(td n).n=n∧(td n).out=pW Tryd.prog [.tmp 2] pe∧(td n).qZ=nj []:=⟨rfl,rfl,rfl,rfl,rfl,rfl,rfl,rfl⟩
theorem Nj (n:Nat):(td n).body=(Tryd.f14.body).getD .skip:=rfl
noncomputable def Eh (n:Nat):{B:(Int→(List Syntax)→Int→Int→Option Bool)→Int→(List Syntax)→Int→Int→Option Bool // ∀m X0,(∀ (v0:Int) (v1:List Syntax) (v2:Int) (v3:Int),run (td n) [.lq m [0,1,0,1,1],.qC 0,.cut [1,1,1],.at [1,1,1]] ⟨[qA,qA,qA,.int .i64 v0,qA,qA,qA,qA,.nE false 8 (mp Syntax.cells v1),.int .i64 v2,.int .i64 v3,qA,qA,qA,qA,qA,qA,qA,qA,qA,qA,qA,qA,qA],[],0,[]⟩=X0 v0 v1 v2 v3)→ ∀ (v0:Int) (v1:List Syntax) (v2:Int) (v3:Int),run (td n) [.at [0,0,1,0,1,1],.lp m [0,1,0,1,1],.qC 0,.cut [1,1,1],.at [1,1,1]] ⟨[qA,qA,qA,.int .i64 v0,qA,qA,qA,qA,.nE false 8 (mp Syntax.cells v1),.int .i64 v2,.int .i64 v3,qA,qA,qA,qA,qA,qA,qA,qA,qA,qA,qA,qA,qA],[],0,[]⟩=B X0 v0 v1 v2 v3}:=by
 apply iZ
 intro m X0 ih v0 v1 v2 v3
 simp (config:={maxSteps:=100000000}) only[go_sem,iQ,iR,iM,iN,iS,iT,iV,iW,iX,iP,iU,iY,Ni,Nj,Tryd.f14,iO,mixed,Eg,ih]
 exact rfl
noncomputable def Ah (n:Nat):Nat→Int→(List Syntax)→Int→Int→Option Bool
 |0,_,_,_,_=>none
 |m+1,v0,v1,v2,v3=>(Eh n).1 (Ah n m) v0 v1 v2 v3
theorem Ie (n:Nat): ∀ (m:Nat),(∀ (v0:Int) (v1:List Syntax) (v2:Int) (v3:Int),run (td n) [.lq m [0,1,0,1,1],.qC 0,.cut [1,1,1],.at [1,1,1]] ⟨[qA,qA,qA,.int .i64 v0,qA,qA,qA,qA,.nE false 8 (mp Syntax.cells v1),.int .i64 v2,.int .i64 v3,qA,qA,qA,qA,qA,qA,qA,qA,qA,qA,qA,qA,qA],[],0,[]⟩=Ah n m v0 v1 v2 v3)
 |0=>by intros;exact nk
 |m+1=>by
  have ih:=Ie n m
  intro v0 v1 v2 v3
  rw[nq]
  exact (Eh n).2 m _ ih v0 v1 v2 v3
noncomputable def I7 (n:Nat):{B:(List Syntax)→Option Bool // ∀ (a0:(List Syntax)),run (td n) [.at []] {slots:=[(oa Syntax.row).enc a0]++jc (24-[(oa Syntax.row).enc a0].length) qA,heap:=[]}=B a0}:=by
 apply iZ
 intro a0
 simp (config:={maxSteps:=100000000}) only[go_sem,iQ,iR,iM,iN,iS,iT,iV,iW,iX,iP,iU,iY,Ni,Nj,Tryd.f14,iO,mixed,Eg,Ie n]
 exact rfl
noncomputable def FX:Nat→(List Syntax)→Option Bool
 |0,_=>none
 |n+1,a0=>(I7 n).1 a0
theorem SY: ∀ (n:Nat) (a0:(List Syntax)) (r:Bool),FX n a0=some r→xS Tryd.prog 14 [(oa Syntax.row).enc a0] (fun v=>v=pe.enc r)
 |0,_,_,h=>by cases h
 |n+1,a0,r,h=>by
  exact pL (M:=td n) ⟨(mV (uH (LI n)) mY),mZ,nH _,nI _,oh,oH,oV,oG⟩ Tryd.func14 rfl rfl ⟨(oa Syntax.row).nb 0 _,trivial⟩ Tryd.ntmps14 Tryd.results14 (fun σ hs=>pz (P:=Tryd.prog) (rs:=[.tmp 2]) (t:=pe) (σ:=σ) (r:=r) hs) (((I7 n).2 a0).trans h)
end Go.Abs
namespace Go.Abs
open Go.Proofs
set_option maxRecDepth 100000
set_option maxHeartbeats 4000000
noncomputable def vP (n:Nat):pO Int where
 body:=(Tryd.f86.body).getD .skip
 P:=Tryd.prog
 cl:=om [(47,qj (nF Notation.cel) pe (tS n)),(48,qj (nF Notation.cel) pe (yZ n))]
 cd:=oo []
 qT:=ot []
 cut:=ou []
 n:=n
 out:=pW Tryd.prog [.tmp 4] (o9 .i64)
 qZ:=nj []
theorem W3 (n:Nat):(vP n).P=Tryd.prog∧(vP n).cl=om [(47,qj (nF Notation.cel) pe (tS n)),(48,qj (nF Notation.cel) pe (yZ n))]∧(vP n).cd=oo []∧(vP n).qT=ot []∧(vP n).cut=ou []∧(vP n).n=n∧(vP n).out=pW Tryd.prog [.tmp 4] (o9 .i64)∧(vP n).qZ=nj []:=⟨rfl,rfl,rfl,rfl,rfl,rfl,rfl,rfl⟩
theorem W4 (n:Nat):(vP n).body=(Tryd.f86.body).getD .skip:=rfl
noncomputable def KA (n:Nat):{B:Notation→Int→Option Int // ∀ (a0:Notation) (a1:Int),run (vP n) [.at []] {slots:=[(nF Notation.cel).enc a0,(o9 .i64).enc a1]++jc (55-[(nF Notation.cel).enc a0,(o9 .i64).enc a1].length) qA,heap:=[]}=B a0 a1}:=by
 apply iZ
 intro a0 a1
 simp (config:={maxSteps:=100000000}) only[go_sem,iQ,iR,iM,iN,iS,iT,iV,iW,iX,iP,iU,iY,W3,W4,Tryd.f86,iO,mixed]
 exact rfl
noncomputable def De:Nat→Notation→Int→Option Int
 |0,_,_=>none
 |n+1,a0,a1=>(KA n).1 a0 a1
theorem Nk: ∀ (n:Nat) (a0:Notation) (a1:Int) (r:Int),De n a0 a1=some r→xS Tryd.prog 86 [(nF Notation.cel).enc a0,(o9 .i64).enc a1] (fun v=>v=(o9 .i64).enc r)
 |0,_,_,_,h=>by cases h
 |n+1,a0,a1,r,h=>by
  exact pL (M:=vP n) ⟨(mV (qi (zm n)) (mV (qi (G7 n)) mY)),mZ,nH _,nI _,oh,oH,oV,oG⟩ Tryd.func86 rfl rfl ⟨(nF Notation.cel).nb 0 _,(o9 .i64).nb 0 _,trivial⟩ Tryd.ntmps86 Tryd.results86 (fun σ hs=>pz (P:=Tryd.prog) (rs:=[.tmp 4]) (t:=(o9 .i64)) (σ:=σ) (r:=r) hs) (((KA n).2 a0 a1).trans h)
end Go.Abs
