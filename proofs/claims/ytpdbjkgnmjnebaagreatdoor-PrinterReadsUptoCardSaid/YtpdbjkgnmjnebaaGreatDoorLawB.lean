/- A part of the proof: plain facts. -/
import Derived.Test.YtpdbjkgnmjnebaaGreatDoorLawA
set_option linter.all false
namespace Go.Abs
theorem aLo{l:kA}(ok:LOk l)(h:∀(h0:0<l.vars.length),0<=l.vars[0].index):∀v∈l.vars,0<=v.index:=by
 have key:∀i (hi:i<l.vars.length),0<=l.vars[i].index:=by
  intro i;induction i with
  |zero=>intro hi;exact h hi
  |succ i ih=>
   intro hi;have:=ok.asc i hi;have:=ih (by omega);omega
 intro v hv;obtain⟨i,hi,rfl⟩:=List.mem_iff_getElem.1 hv;exact key i hi
theorem aGB:∀t:jW,t.kQ<=lf->kY (fun n=>Aa n t) (fun b=>b=false->OkF t->NoM t):=by
 intro t;induction h:t.kQ using Nat.strongRecOn generalizing t with
 |ind k ih=>
  intro hk;have hl:=t.Kr;have hl2:=t.K5
  have kI:kY (fun n=>mz n t.kI ()) (fun b=>b=false->∀k∈t.kI,OkF k->NoM k):=by
   refine kY.fn (fun n=>by simp only[G9,qR,AD,mB];exact rfl) ?_;refine kY.bind (P:=fun r=>decide (0<=r)=false->∀k∈t.kI,OkF k->NoM k) ?_ fun r hr=>kY.pure hr
   refine kY.fn (fun n=>by simp only[JN,rT,AD,mB];exact rfl) ?_;refine kY.GA (F:=fun n m=>pX (nJ n) n m t.kI t.kI.length 0) ?_;refine ke.up (S:=Unit) (L:=fun n m i _=>pX (nJ n) n m t.kI t.kI.length i) t.kI.length (fun i _=>∀k∈t.kI.take i,OkF k->NoM k) _ ?_ ?_ 0 () (by omega) (fun k hk=>by simp at hk)
   ·intro i u hi hI next
    refine ke.lp (fun n m=>by simp only[yf,pW,AD,mB];exact rfl) ?_;simp only[hi,Int.ofNat_lt,decide_true,jE];refine ke.Bz hi ?_;have hm:=t.Cl (List.getElem_mem hi);refine ke.oU (ih _ (by omega) _ rfl (by omega)) fun b hb=>?_
    refine ke.oQ (fun hc=>ke.pure fun h=>by have:=jJ h;omega) fun hc=>?_
    rw[lj (by simp only[lf]at hk;omega)];refine next u fun k hk=>?_
    rw[List.take_succ_eq_append_getElem hi]at hk;rcases List.mem_append.1 hk with hk|hk
    ·exact hI k hk
    ·rw[List.mem_singleton]at hk;subst hk;exact hb hc
   ·intro u hI;refine ke.lp (fun n m=>by simp only[yf,pW,AD,mB];exact rfl) ?_;simp only[Int.lt_irrefl,decide_false,jF];rw[List.take_length]at hI;exact ke.pure fun _=>hI
  refine kY.fn (fun n=>by simp only[avb,Qw,AD,mB];exact rfl) ?_;refine kY.GA (F:=fun n m=>G7 (nJ n) n m t.kg t.kg.length 0 t) ?_;refine ke.up (S:=Unit) (L:=fun n m i _=>G7 (nJ n) n m t.kg t.kg.length i t) t.kg.length (fun i _=>∀l∈t.kg.take i,∀(h0:0<l.vars.length),0<=l.vars[0].index) _ ?_ ?_ 0 () (by omega) (fun k hk=>by simp at hk)
  ·intro i u hi hI next
   have nx:(∀(h0:0<t.kg[i].vars.length),0<=t.kg[i].vars[0].index)->∀l∈t.kg.take (i+1),∀(h0:0<l.vars.length),0<=l.vars[0].index:=fun hq l hl=>by
    rw[List.take_succ_eq_append_getElem hi]at hl;rcases List.mem_append.1 hl with hl|hl
    ·exact hI l hl
    ·rw[List.mem_singleton]at hl;subst hl;exact hq
   refine ke.lp (fun n m=>by simp only[abu,G6,AD,mB];exact rfl) ?_;simp only[hi,Int.ofNat_lt,decide_true,jE];refine ke.Bz hi ?_;rw[lj (by simp only[lf]at hk;omega)];refine ke.oQ (fun hp=>?_) fun hp=>next u (nx fun h0=>by have:=jJ hp;omega)
   have hp:=jI hp;refine ke.Bz (i:=0) (by omega) ?_;refine ke.oQ (fun _=>ke.pure fun h=>by cases h) fun hq=>next u (nx fun h0=>by have:=jJ hq;omega)
  ·intro u hI;rw[List.take_length]at hI;refine ke.lp (fun n m=>by simp only[abu,G6,AD,mB];exact rfl) ?_;simp only[Int.lt_irrefl,decide_false,jF];refine ke.oQ (fun _=>ke.pure fun h=>by cases h) fun h12=>?_
   refine ke.of1 (kY.bind kI fun b hb=>kY.pure fun h ok=>?_);exact .mk (by simpa using h12) (fun l hl=>aLo (ok.lev l hl) (hI l hl)) (fun k hk=>hb h k hk (ok.kid k hk))
theorem aGC(st:kH)(kg AA:List kj)(t:jW)(h1:st.kQ<=lf)(h2:qB (fun m:kj=>m.length+1) kg<=lf)(h3:qB (fun m:kj=>m.length+1) AA<=lf)(h4:t.kQ<=lf-64)(okf:OkF t)(nm:NoM t)(wf:t.wf):
 ∃(z:Syntax)(e:Int),Ev (fun n=>Oy n st kg AA t) (z,e)/\(e=0->Ev (fun n=>nV n z AA kg) (t,true)/\∀s,Vu s t=true->Ac st.env s=true):=by
 have tb:TB st.sW:=TB.of (by unfold kH.kQ at h1;omega);obtain⟨r1,⟨a1,a2⟩,c1⟩:=auh t (by omega);rw[VC]at h2 h3
 have hn:PN {st:=st,IL:=aqs [] st.sW,kg:=kg,AA:=AA,I8:=r1}:=by
  refine⟨rfl,tb,?_,?_,a1,fun s hs=>?_,fun s hs=>?_,fun s hs=>?_,fun s hs=>?_,aNk h1⟩
  ·have:=OA AA;simp only;omega
  ·have:=OA kg;simp only;omega
  ·have:=ajq (l:=AA) hs;omega
  ·have:=ajq (l:=kg) hs;omega
  ·have h5:r1.any (· ==s)=true:=List.any_eq_true.2 ⟨s,hs,by simp⟩;rw[a2]at h5;have:=aIU s t h5;omega
  ·rcases aw7 _ _ _ hs with h|⟨n,hn,hs⟩
   ·cases h
   ·have:=n.aE7.2 s hs;have:=uQ (f:=jR.kQ) hn;unfold kH.kQ at h1;omega
 obtain⟨z,e,f1,f2⟩:=aGv hn t okf nm wf 0 (by omega);refine⟨z,e,?_,fun he=>?_⟩
 ·refine Ev.fn (fun n=>by simp only[Oy,kL,Xu,mB];exact rfl) ?_;exact Ev.bind (aIK st.sW tb.len tb.parts tb.sum) (Ev.bind c1 (Ev.bind f1 Ev.pure))
 ·have q:=f2 he;exact⟨q.rd AA ⟨rfl,fun k hk hN=>rfl,fun j hj=>by omega⟩,q.cs⟩
theorem aEf(c:ky)(hb:c.kQ<=1048576):kY (fun n=>KK n c) (fun r=>r=true->OkF c.term):=by
 unfold ky.kQ at hb;simp only[VC]at hb;have h1:=OA c.kg;have h2:=OA c.mA;refine kY.fn (fun n=>by simp only[KK,kL,Ox,mB];exact rfl) ?_;refine kY.bind (aGz _ (by simp only[lf];omega)) fun x _=>?_
 refine kY.oQ (fun _=>?_) fun _=>kY.pure fun h=>by cases h
 refine kY.bind (Si _ _ (by simp only[lf];omega)) fun x _=>?_
 refine kY.oQ (fun _=>?_) fun _=>kY.pure fun h=>by cases h
 refine kY.bind (Si _ _ (by simp only[lf];omega)) fun x _=>?_
 refine kY.oQ (fun _=>?_) fun _=>kY.pure fun h=>by cases h
 refine kY.bind (aGy (c.term.kQ+1) [c.term] (by simp only[qB];omega) (by simp only[lf];omega)) fun x _=>?_
 refine kY.oQ (fun _=>?_) fun _=>kY.pure fun h=>by cases h
 refine kY.bind (apO c.term _ _ _ _ (by unfold xD;omega)) fun x hx=>?_
 exact kY.pure fun h=>hx (jL.1 h)
theorem avY(x0:ky)(hb:x0.kQ<=1048576)(hw:x0.wf):∃n,ET n x0=some true:=by
 have aw:∀{P:Bool->Prop},P true->kY (fun n=>(Sf n).bind fun x=>some x) P:=fun h=>Ev.tot (Ev.bind aEe Ev.pure) h
 have h:Ev (fun n=>ET n x0) true:=by
  refine kY.ev ?_;refine kY.fn (fun n=>by simp only[ET,kL,If,mB];exact rfl) ?_;refine kY.bind (aEf x0 hb) fun x hx=>?_
  refine kY.oQ (fun h=>?_) (fun _=>aw rfl);have okf:=hx h;unfold ky.kQ at hb;have hbt:x0.term.kQ<=lf-64:=by simp only[lf];omega
  refine kY.bind (aGB x0.term (by omega)) fun b hbm=>?_
  refine kY.oQ (fun _=>aw rfl) fun hm=>?_
  have nm:=hbm hm okf;obtain⟨z,e,f1,f2⟩:=aGC x0.st x0.kg x0.mA x0.term (by simp only[lf];omega) (by simp only[lf];omega) (by simp only[lf];omega) hbt okf nm hw.2.2.2.1;refine kY.bind (f1.tot (Q:=(· =(z,e))) rfl) fun y hy=>?_
  subst hy;refine kY.oQ (fun _=>aw rfl) fun he=>?_
  obtain⟨g1,g2⟩:=f2 (by simpa using he);refine kY.bind (g1.tot (Q:=(· =(x0.term,true))) rfl) fun y hy=>?_
  subst hy;refine kY.oQ (fun _=>?_) fun hn=>by cases hn
  have hs:=aaY x0.term x0.term (Bb (by omega));rw[aBr]at hs;refine kY.bind (hs.tot (Q:=(· =true)) rfl) fun y hy=>?_
  subst hy;refine kY.oQ (fun _=>?_) fun hn=>by cases hn
  refine kY.bind (arI x0.term (by omega)) fun l hl=>?_
  refine kY.GA (F:=fun n m=>xB n m l l.length 0 x0) ?_
  have aQs:EOK x0.st.env:=by
   have hsb:x0.st.kQ<=lf:=by simp only[lf];omega
   unfold kH.kQ at hsb;have h3:=uR (f:=kz.kQ) (fun x=>by rw[kz.kQ];omega) x0.st.env;exact⟨by omega,fun d hd=>by have:=uQ (f:=kz.kQ) hd;omega⟩
  refine ke.up (S:=Unit) (L:=fun n m i _=>xB n m l l.length i x0) l.length (fun _ _=>True) _ ?_ ?_ 0 () (by omega) trivial
  ·intro i u hi _ next
   refine ke.lp (fun n m=>by simp only[Mf,xA,mB];exact rfl) ?_;simp only[hi,Int.ofNat_lt,decide_true,jE];refine ke.Bz hi ?_;have hd:Ac x0.st.env l[i]=true:=g2 l[i] (by rw[<-hl.2];exact List.any_eq_true.2 ⟨l[i],List.getElem_mem hi,by simp⟩);have hf:=aw3 0 hd;refine ke.oU ((Zn x0.st.env aQs l[i]).tot (Q:=(· =K7 l[i] 0 x0.st.env)) rfl) fun y hy=>?_
   subst hy;rw[lj (by have:=hl.1;simp only[lf]at this;omega)];refine ke.oQ (fun hc=>?_) fun _=>next u trivial
   rw[hf]at hc;cases hc
  ·intro u _;refine ke.lp (fun n m=>by simp only[Mf,xA,mB];exact rfl) ?_;simp only[Int.lt_irrefl,decide_false,jF];exact ke.of1 (aw rfl)
 obtain⟨N,h⟩:=h;exact⟨N,h N (Nat.le_refl _)⟩
end Go.Abs
