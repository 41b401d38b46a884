/- A part of the proof: plain facts. -/
import Derived.Test.YtpdbjkgnmjnebaaGreatDoorCoreC
import Derived.Test.YtpdbjkgnmjnebaaGreatDoorReadA
import Derived.KernelRfl
import Derived.Lib.ItoaNum
set_option linter.all false
open Int renaming lt_irrefl→ij,ofNat_lt→ik,reduceBEq→iB,toNat_natCast→iF
open List renaming getElem_mem→il,drop_eq_getElem_cons→ir,length_append→iv,length_cons→iw,length_singleton→iz,drop_length→iA,length_nil→iC,take_succ_eq_append_getElem→iD,length_take→iE,mem_singleton→iH,append_nil→iL,take_length→iN,nil_append→iO,cons_append→iP,replicate→iQ,append_assoc→iR,getElem_append_left→iS,any_cons→iT,length_map→iU,mem_append→iV,getElem_cons_zero→iW,eq_nil_of_length_eq_zero→iX,drop_zero→iY,getElem?_append_right→iZ,replicate_zero→jb,getElem_append_right→jd,any_eq_true→ji,length_drop→jj,set_append_right→jk,any_append→jm,mem_cons_of_mem→jn,any_nil→jr,contains_eq_any_beq→jt,drop_eq_nil_of_le→ju,take_of_length_le→jv,mem_iff_getElem→jx,map_cons→jy,length_reverse→jz,replicate_succ→jA
open Option renaming bind_some→iq
open Nat renaming strongRecOn→iy,le_refl→jp,sub_self→jC
open Bool renaming false_or→iG,true_or→iI,and_eq_true→iK,true_and→iM,or_false→ja,eq_iff_iff→jc,not_eq_false'→je,false_and→jf,or_eq_false_iff→jo,or_assoc→jq,not_false→jw
open Go.Lib renaming decDigits→iJ,decDigits_one→jg,join→jh,contains→jB,itoa→jD
open Exists renaming imp→jl
namespace Go.Abs
variable {c r:Bool}{N l:List kj}{a i k:Nat}{F:Nat->Option Bool}{W O:Type}{x:j3}{t:jW}{st:kH}{s:kj}{d:kz}
section
variable {R S T:Type}
def Ev(F:Nat->Option R)(r:R):Prop:=∃N,∀n,N<=n->F n=some r
def rS(F:Nat->Nat->Option R)(r:R):Prop:=∃N,∀n m,N<=n->N<=m->F n m=some r
theorem Ev.fn{F G:Nat->Option R}{r:R}(h:∀n,F (n+1)=G n)(hg:Ev G r):Ev F r:=by
 obtain⟨N,hN⟩:=hg;refine⟨N+1,fun n hn=>?_⟩;obtain⟨k,rfl⟩:∃k,n=k+1:=⟨n-1,by omega⟩;rw[h];exact hN k (by omega)
theorem Ev.GA{F:Nat->Nat->Option R}{r:R}(h:rS F r):Ev (fun n=>F n n) r:=by
 obtain⟨N,hN⟩:=h;exact⟨N,fun n hn=>hN n n hn hn⟩
theorem rS.of1{F:Nat->Option R}{r:R}(h:Ev F r):rS (fun n _=>F n) r:=by
 obtain⟨N,hN⟩:=h;exact⟨N,fun n m hn _=>hN n hn⟩
theorem rS.lp{F G:Nat->Nat->Option R}{r:R}(h:∀n m,F n (m+1)=G n m)(hg:rS G r):rS F r:=by
 obtain⟨N,hN⟩:=hg;refine⟨N+1,fun n m hn hm=>?_⟩;obtain⟨k,rfl⟩:∃k,m=k+1:=⟨m-1,by omega⟩
 grind
theorem Ev.pure{r:R}:Ev (fun _=>some r) r:=⟨0,fun _ _=>rfl⟩
theorem rS.pure{r:R}:rS (fun _ _=>some r) r:=⟨0,fun _ _ _ _=>rfl⟩
theorem Ev.bind{F:Nat->Option S}{G:Nat->S->Option R}{x:S}{r:R}(h:Ev F x)(hg:Ev (fun n=>G n x) r):Ev (fun n=>(F n).bind (G n)) r:=by
 obtain⟨N,hN⟩:=h;obtain⟨M,hM⟩:=hg;refine⟨max N M,fun n hn=>?_⟩
 grind
theorem rS.bind{F:Nat->Nat->Option S}{G:Nat->Nat->S->Option R}{x:S}{r:R}(h:rS F x)(hg:rS (fun n m=>G n m x) r):rS (fun n m=>(F n m).bind (G n m)) r:=by
 obtain⟨N,hN⟩:=h;obtain⟨M,hM⟩:=hg;refine⟨max N M,fun n m hn hm=>?_⟩
 grind
theorem rS.oU{F:Nat->Option S}{G:Nat->Nat->S->Option R}{x:S}{r:R}(h:Ev F x)(hg:rS (fun n m=>G n m x) r):rS (fun n m=>(F n).bind (G n m)) r:=
 rS.bind (F:=fun n _=>F n) (rS.of1 h) hg
theorem Ev.aQi{F:Nat->Option R}{r s:R}(h:Ev F r)(k:Ev F s):r=s:=by
 obtain⟨N,hN⟩:=h;obtain⟨M,hM⟩:=k;have a:=hN (max N M) (by omega)
 grind
def kY(F:Nat->Option R)(Q:R->Prop):Prop:=∃r,Q r/\Ev F r
def ke(F:Nat->Nat->Option R)(Q:R->Prop):Prop:=∃r,Q r/\rS F r
theorem kY.fn{F G:Nat->Option R}{Q:R->Prop}(h:∀n,F (n+1)=G n)(hg:kY G Q):kY F Q:=jl (fun _ k=>⟨k.1,Ev.fn h k.2⟩) hg
theorem kY.GA{F:Nat->Nat->Option R}{Q:R->Prop}(h:ke F Q):kY (fun n=>F n n) Q:=jl (fun _ k=>⟨k.1,Ev.GA k.2⟩) h
theorem ke.of1{F:Nat->Option R}{Q:R->Prop}(h:kY F Q):ke (fun n _=>F n) Q:=jl (fun _ k=>⟨k.1,rS.of1 k.2⟩) h
theorem ke.lp{F G:Nat->Nat->Option R}{Q:R->Prop}(h:∀n m,F n (m+1)=G n m)(hg:ke G Q):ke F Q:=jl (fun _ k=>⟨k.1,rS.lp h k.2⟩) hg
theorem kY.pure{r:R}{Q:R->Prop}(h:Q r):kY (fun _=>some r) Q:=⟨r,h,Ev.pure⟩
theorem ke.pure{r:R}{Q:R->Prop}(h:Q r):ke (fun _ _=>some r) Q:=⟨r,h,rS.pure⟩
theorem kY.bind{F:Nat->Option S}{G:Nat->S->Option R}{P:S->Prop}{Q:R->Prop}(h:kY F P)(hg:∀x,P x->kY (fun n=>G n x) Q):kY (fun n=>(F n).bind (G n)) Q:=by
 obtain⟨x,hx,hF⟩:=h;obtain⟨r,hr,hG⟩:=hg x hx;exact⟨r,hr,Ev.bind hF hG⟩
theorem ke.bind{F:Nat->Nat->Option S}{G:Nat->Nat->S->Option R}{P:S->Prop}{Q:R->Prop}(h:ke F P)(hg:∀x,P x->ke (fun n m=>G n m x) Q):ke (fun n m=>(F n m).bind (G n m)) Q:=by
 obtain⟨x,hx,hF⟩:=h;obtain⟨r,hr,hG⟩:=hg x hx;exact⟨r,hr,rS.bind hF hG⟩
theorem ke.oU{F:Nat->Option S}{G:Nat->Nat->S->Option R}{P:S->Prop}{Q:R->Prop}(h:kY F P)(hg:∀x,P x->ke (fun n m=>G n m x) Q):ke (fun n m=>(F n).bind (G n m)) Q:=
 ke.bind (F:=fun n _=>F n) (ke.of1 h) hg
theorem kY.Bz{xs:List S}{G:Nat->S->Option R}{Q:R->Prop}(hi:i<xs.length)(hg:kY (fun n=>G n xs[i]) Q):kY (fun n=>(Mg xs (i:Int)).bind (G n)) Q:=by
 grind [Mg]
theorem ke.Bz{xs:List S}{G:Nat->Nat->S->Option R}{Q:R->Prop}(hi:i<xs.length)(hg:ke (fun n m=>G n m xs[i]) Q):ke (fun n m=>(Mg xs (i:Int)).bind (G n m)) Q:=by
 grind [Mg]
theorem kY.oQ{A B:Nat->Option R}{Q:R->Prop}(h1:c=true->kY A Q)(h2:c=false->kY B Q):kY (fun n=>bif c then A n else B n) Q:=by
 cases c with
 |true=>exact h1 rfl
 |false=>exact h2 rfl
theorem ke.oQ{A B:Nat->Nat->Option R}{Q:R->Prop}(h1:c=true->ke A Q)(h2:c=false->ke B Q):ke (fun n m=>bif c then A n m else B n m) Q:=by
 cases c with
 |true=>exact h1 rfl
 |false=>exact h2 rfl
theorem kY.imp{F:Nat->Option R}{P Q:R->Prop}(h:kY F P)(k:∀r,P r->Q r):kY F Q:=jl (fun r x=>⟨k r x.1,x.2⟩) h
theorem ke.imp{F:Nat->Nat->Option R}{P Q:R->Prop}(h:ke F P)(k:∀r,P r->Q r):ke F Q:=jl (fun r x=>⟨k r x.1,x.2⟩) h
theorem kY.ev{F:Nat->Option R}{r:R}(h:kY F (· =r)):Ev F r:=by obtain⟨s,rfl,h⟩:=h;exact h
theorem Ev.tot{F:Nat->Option R}{r:R}{Q:R->Prop}(h:Ev F r)(q:Q r):kY F Q:=⟨r,q,h⟩
theorem ke.up {L:Nat->Nat->Int->S->Option R} (len:Nat) (I:Nat->S->Prop) (Q:R->Prop)
 (h1:∀i s,i<len->I i s->(∀s',I (i+1) s'->ke (fun n m=>L n m ((i+1:Nat):Int) s') Q)->ke (fun n m=>L n m (i:Int) s) Q)
 (h2:∀s,I len s->ke (fun n m=>L n m (len:Int) s) Q):∀(i:Nat)(s:S),i<=len->I i s->ke (fun n m=>L n m (i:Int) s) Q:=by
 intro i s hi h;obtain⟨k,hk⟩:∃k,k=len-i:=⟨_,rfl⟩;induction k generalizing i s with
 |zero=>obtain rfl:i=len:=by omega
        exact h2 s h
 |succ k ih=>grind
theorem ri{n:Int}(h: -9223372036854775808<=n)(h2:n<=9223372036854775807):IntKind.i64.wrap n=n:=by
 grind [IntKind.wrap,IntKind.signed,IntKind.bits]
theorem lj(h:i<9223372036854775807):IntKind.i64.wrap ((i:Int)+1)=((i+1:Nat):Int):=by
 grind [ri]
theorem vh{xs:List S}(hi:i<xs.length):Mg xs (i:Int)=some xs[i]:=by simp [Mg]
theorem rS.Bz{xs:List S}{G:Nat->Nat->S->Option R}{r:R}(hi:i<xs.length)(hg:rS (fun n m=>G n m xs[i]) r):rS (fun n m=>(Mg xs (i:Int)).bind (G n m)) r:=by
 simp [vh hi];exact hg
noncomputable def eqb (a b:W):Bool:= @decide (a=b) (Classical.propDecidable _)
theorem Zl{a b:W}:eqb a b=true↔a=b:=by
 grind [eqb]
theorem aBr(a:W):eqb a a=true:=Zl.2 rfl
theorem aGf{a b:W}(h:a≠b):eqb a b=false:=by
 grind [Zl]
theorem aIE(x y:W)(xs ys:List W):eqb (x::xs) (y::ys)=(eqb x y&&eqb xs ys):=by
 grind [Zl]
theorem ayB{xs ys:List W}(h:xs.length≠ys.length):eqb xs ys=false:=aGf fun e=>h (by rw[e])
theorem rS.andThen{F:Nat->Nat->Option Bool}(h:rS F r):rS (fun n m=>bif c then F n m else some false) (c&&r):=by
 cases c with
 |true=>exact h
 |false=>exact rS.pure
theorem Ev.andThen(h:Ev F r):Ev (fun n=>bif c then F n else some false) (c&&r):=by
 cases c with
 |true=>exact h
 |false=>exact Ev.pure
theorem rS.same{L:Nat->Nat->Int->Option Bool}(xs ys:List W)(hl:xs.length=ys.length)
 (h1:∀(i:Nat)(hi:i<xs.length)(hj:i<ys.length)(r:Bool),rS (fun n m=>L n m ((i+1:Nat):Int)) r->rS (fun n m=>L n m (i:Int)) (eqb xs[i] ys[i]&&r))
 (h2:rS (fun n m=>L n m (xs.length:Int)) true):rS (fun n m=>L n m 0) (eqb xs ys):=by
 have key:∀(k i:Nat),k+i=xs.length->rS (fun n m=>L n m (i:Int)) (eqb (xs.drop i) (ys.drop i)):=by
  intro k;induction k with
  |zero=>
   grind [aBr]
  |succ k ih=>
   grind [ir,aIE]
 have:=key xs.length 0 (by omega);simpa using this
end
theorem uQ{W:Type}{f:W->Nat}:∀{xs:List W}{x:W},x∈xs->f x<=qB f xs
 |y::ys,x,h=>by
  simp only[qB];rcases List.mem_cons.mp h with rfl|h
  ·omega
  ·have:=uQ (f:=f) h;omega
theorem uR{W:Type}{f:W->Nat}(h:∀x,1<=f x):∀xs:List W,xs.length<=qB f xs
 |[]=>by simp [qB]
 |y::ys=>by have:=uR h ys;have:=h y;simp only[qB,iw];omega
theorem jW.vV(x:jW):1<=x.kQ:=by rw[jW.yc];omega
theorem kA.vV(x:kA):1<=x.kQ:=by rw[kA.kQ];omega
theorem kp.vV(x:kp):1<=x.kQ:=by rw[kp.kQ];omega
theorem kw.vV(x:kw):1<=x.kQ:=by rw[kw.yc];omega
theorem jW.Kr(x:jW):x.kI.length<x.kQ:=by rw[jW.yc];have:=uR jW.vV x.kI;omega
theorem jW.K5(x:jW):x.kg.length<x.kQ:=by rw[jW.yc];have:=uR kA.vV x.kg;omega
theorem jW.aop(x:jW):x.name.length<x.kQ:=by rw[jW.yc];omega
theorem kA.ac1(x:kA):x.vars.length<x.kQ:=by rw[kA.kQ];have:=uR kp.vV x.vars;omega
theorem jW.Cl(x:jW):∀{t:jW},t∈x.kI->t.kQ<x.kQ:=fun h=>by rw[jW.yc x];have:=uQ (f:=jW.kQ) h;omega
theorem jW.aoq{x:jW}{l:kA}(h:l∈x.kg):l.kQ<x.kQ:=by rw[jW.yc x];have:=uQ (f:=kA.kQ) h;omega
def xD:Nat:=9223372036854775807
abbrev q4{R:Type}:R->Prop:=fun _=>True
theorem Xv:∀(t:jW),t.kQ<xD->kY (fun n=>Ej n t) q4:=by
 intro t;induction h:t.kQ using iy generalizing t with
 |ind k ih=>
  intro hk;have hl:=t.Kr;refine kY.fn (fun n=>by simp only[Ej,kL,adz,mB];exact rfl) ?_;refine kY.GA (F:=fun n m=>JJ (Ej n) n m 1 0 t) ?_;refine ke.up (S:=Int) (L:=fun n m i s=>JJ (Ej n) n m s i t) t.kI.length (fun _ _=>True) q4 ?_ ?_ 0 1 (by omega) trivial
  ·intro i s hi _ next
   refine ke.lp (fun n m=>by simp only[aeZ,JI,mB];exact rfl) ?_;simp only[hi,ik,decide_true,jE];refine ke.Bz hi ?_;have hm:=t.Cl (il hi);refine ke.oU (ih _ (by omega) _ rfl (by omega)) fun x _=>?_
   rw[lj (by unfold xD at hk;omega)];exact next _ trivial
  ·intro s _;refine ke.lp (fun n m=>by simp only[aeZ,JI,mB];exact rfl) ?_;simp only[ij,decide_false,jF];exact ke.pure trivial
theorem Ub:∀(t:jW),t.kQ<xD->kY (fun n=>BF n t) q4:=by
 intro t;induction h:t.kQ using iy generalizing t with
 |ind k ih=>
  intro hk;have hl:=t.Kr;refine kY.fn (fun n=>by simp only[BF,kL,ZD,mB];exact rfl) ?_;refine kY.GA (F:=fun n m=>GW (BF n) n m 0 0 t) ?_;refine ke.up (S:=Int) (L:=fun n m i s=>GW (BF n) n m s i t) t.kI.length (fun _ _=>True) q4 ?_ ?_ 0 0 (by omega) trivial
  ·intro i s hi _ next
   refine ke.lp (fun n m=>by simp only[abl,GV,mB];exact rfl) ?_;simp only[hi,ik,decide_true,jE];refine ke.Bz hi ?_;have hm:=t.Cl (il hi);refine ke.oU (ih _ (by omega) _ rfl (by omega)) fun x _=>?_
   rw[lj (by unfold xD at hk;omega)];exact next _ trivial
  ·intro s _;refine ke.lp (fun n m=>by simp only[abl,GV,mB];exact rfl) ?_;simp only[ij,decide_false,jF];exact ke.pure trivial
theorem auf(k:Int):kY (fun n=>PY n k) q4:=by
 refine kY.fn (fun n=>by simp only[PY,kL,aQS,mB];exact rfl) ?_
 (repeat' (first|exact kY.pure trivial|exact ke.pure trivial|refine kY.oQ (fun _=>?_) (fun _=>?_)|refine ke.oQ (fun _=>?_) (fun _=>?_)))
theorem afR(k i:Int):kY (fun n=>Yn n k i) q4:=by
 refine kY.fn (fun n=>by simp only[Yn,kL,ZH,mB];exact rfl) ?_
 (repeat' (first|exact kY.pure trivial|exact ke.pure trivial|refine kY.oQ (fun _=>?_) (fun _=>?_)|refine ke.oQ (fun _=>?_) (fun _=>?_)))
theorem ac2(k:Int):kY (fun n=>Ik n k) q4:=by
 refine kY.fn (fun n=>by simp only[Ik,kL,MC,mB];exact rfl) ?_
 (repeat' (first|exact kY.pure trivial|exact ke.pure trivial|refine kY.oQ (fun _=>?_) (fun _=>?_)|refine ke.oQ (fun _=>?_) (fun _=>?_)))
theorem arF(l:kA)(hk:l.kQ<xD):kY (fun n=>Lo n l) q4:=by
 have hl:=l.ac1;refine kY.fn (fun n=>by simp only[Lo,kL,Qv,mB];exact rfl) ?_
 (repeat' (first|exact kY.pure trivial|exact ke.pure trivial|refine kY.oQ (fun _=>?_) (fun _=>?_)|refine ke.oQ (fun _=>?_) (fun _=>?_)))
 refine kY.GA (F:=fun n m=>AC n m 0 l) ?_;refine ke.up (S:=Unit) (L:=fun n m i s=>AC n m i l) l.vars.length (fun _ _=>True) q4 ?_ ?_ 0 () (by omega) trivial
 ·intro i s hi _ next
  refine ke.lp (fun n m=>by simp only[Il,AB,mB];exact rfl) ?_;simp only[hi,ik,decide_true,jE];refine ke.Bz hi ?_
  (repeat' (first|exact kY.pure trivial|exact ke.pure trivial|refine kY.oQ (fun _=>?_) (fun _=>?_)|refine ke.oQ (fun _=>?_) (fun _=>?_)))
  ·rename_i h0;have h0:0<(i:Int):=by simpa using h0
   have e:IntKind.i64.wrap ((i:Int)-1)=((i-1:Nat):Int):=by rw[ri (by omega) (by unfold xD at hk;omega)];omega
   simp only[e];refine ke.Bz (by omega) ?_;rw[lj (by unfold xD at hk;omega)]
   (repeat' (first|exact kY.pure trivial|exact ke.pure trivial|refine kY.oQ (fun _=>?_) (fun _=>?_)|refine ke.oQ (fun _=>?_) (fun _=>?_)))
   all_goals exact next s trivial
  all_goals (rw[lj (by unfold xD at hk;omega)];exact next s trivial)
 ·intro s _;refine ke.lp (fun n m=>by simp only[Il,AB,mB];exact rfl) ?_;simp only[ij,decide_false,jF];exact ke.pure trivial
theorem Xw(s:kj)(hk:s.length<xD):kY (fun n=>Wp n s) q4:=by
 refine kY.fn (fun n=>by simp only[Wp,kL,adR,mB];exact rfl) ?_
 (repeat' (first|exact kY.pure trivial|exact ke.pure trivial|refine kY.oQ (fun _=>?_) (fun _=>?_)|refine ke.oQ (fun _=>?_) (fun _=>?_)))
 refine kY.GA (F:=fun n m=>JZ n m s true 0) ?_;refine ke.up (S:=Bool) (L:=fun n m i b=>JZ n m s b i) s.length (fun _ _=>True) q4 ?_ ?_ 0 true (by omega) trivial
 ·intro i b hi _ next
  refine ke.lp (fun n m=>by simp only[afc,JY,mB];exact rfl) ?_;simp only[hi,ik,decide_true,jE];refine ke.Bz hi ?_;rw[lj (by unfold xD at hk;omega)]
  (repeat' (first|exact kY.pure trivial|exact ke.pure trivial|refine kY.oQ (fun _=>?_) (fun _=>?_)|refine ke.oQ (fun _=>?_) (fun _=>?_)))
  ·refine ke.oU (ac2 _) fun x _=>?_
   (repeat' (first|exact kY.pure trivial|exact ke.pure trivial|refine kY.oQ (fun _=>?_) (fun _=>?_)|refine ke.oQ (fun _=>?_) (fun _=>?_)))
   exact next _ trivial
  ·exact next _ trivial
  ·refine ke.oU (ac2 _) fun x _=>?_
   (repeat' (first|exact kY.pure trivial|exact ke.pure trivial|refine kY.oQ (fun _=>?_) (fun _=>?_)|refine ke.oQ (fun _=>?_) (fun _=>?_)))
   all_goals exact next _ trivial
 ·intro s _;refine ke.lp (fun n m=>by simp only[afc,JY,mB];exact rfl) ?_;simp only[ij,decide_false,jF];exact ke.pure trivial
theorem afS(l:kA)(p q:Int)(hk:l.kQ<xD):kY (fun n=>Lz n l p q) q4:=by
 have hl:=l.ac1;refine kY.fn (fun n=>by simp only[Lz,kL,QA,mB];exact rfl) ?_;refine kY.bind (arF l hk) fun x _=>?_
 (repeat' (first|exact kY.pure trivial|exact ke.pure trivial|refine kY.oQ (fun _=>?_) (fun _=>?_)|refine ke.oQ (fun _=>?_) (fun _=>?_)))
 have k1:kY (fun n=>wJ n n q 0 l) q4:=by
  refine kY.GA (F:=fun n m=>wJ n m q 0 l) ?_;refine ke.up (S:=Unit) (L:=fun n m i s=>wJ n m q i l) l.vars.length (fun _ _=>True) q4 ?_ ?_ 0 () (by omega) trivial
  ·intro i s hi _ next
   refine ke.lp (fun n m=>by simp only[Ip,AN,mB];exact rfl) ?_;simp only[hi,ik,decide_true,jE];refine ke.Bz hi ?_;rw[lj (by unfold xD at hk;omega)]
   (repeat' (first|exact kY.pure trivial|exact ke.pure trivial|refine kY.oQ (fun _=>?_) (fun _=>?_)|refine ke.oQ (fun _=>?_) (fun _=>?_)))
   ·refine ke.Bz hi ?_
    (repeat' (first|exact kY.pure trivial|exact ke.pure trivial|refine kY.oQ (fun _=>?_) (fun _=>?_)|refine ke.oQ (fun _=>?_) (fun _=>?_)))
    exact next s trivial
   ·exact next s trivial
  ·intro s _;refine ke.lp (fun n m=>by simp only[Ip,AN,mB];exact rfl) ?_;simp only[ij,decide_false,jF];exact ke.pure trivial
 refine kY.GA (F:=fun n m=>AP n m p q 0 l) ?_;refine ke.up (S:=Unit) (L:=fun n m i s=>AP n m p q i l) l.vars.length (fun _ _=>True) q4 ?_ ?_ 0 () (by omega) trivial
 ·intro i s hi _ next
  refine ke.lp (fun n m=>by simp only[Iq,AO,mB];exact rfl) ?_;simp only[hi,ik,decide_true,jE];refine ke.Bz hi ?_;rw[lj (by unfold xD at hk;omega)]
  (repeat' (first|exact kY.pure trivial|exact ke.pure trivial|refine kY.oQ (fun _=>?_) (fun _=>?_)|refine ke.oQ (fun _=>?_) (fun _=>?_)))
  ·refine ke.Bz hi ?_
   (repeat' (first|exact kY.pure trivial|exact ke.pure trivial|refine kY.oQ (fun _=>?_) (fun _=>?_)|refine ke.oQ (fun _=>?_) (fun _=>?_)))
   exact next s trivial
  ·exact next s trivial
 ·intro s _;refine ke.lp (fun n m=>by simp only[Iq,AO,mB];exact rfl) ?_;simp only[ij,decide_false,jF];exact ke.of1 k1
theorem aug(t:jW):kY (fun n=>P6 n t) q4:=by
 refine kY.fn (fun n=>by simp only[P6,kL,Vg,mB];exact rfl) ?_
 (repeat' (first|exact kY.pure trivial|exact ke.pure trivial|refine kY.oQ (fun _=>?_) (fun _=>?_)|refine ke.oQ (fun _=>?_) (fun _=>?_)))
 refine kY.bind (auf _) fun x _=>?_
 (repeat' (first|exact kY.pure trivial|exact ke.pure trivial|refine kY.oQ (fun _=>?_) (fun _=>?_)|refine ke.oQ (fun _=>?_) (fun _=>?_)))
theorem arG:∀(t:jW)(a b c d e:Int),t.kQ<xD->kY (fun n=>qw n t a b c d e) q4:=by
 intro t;induction h:t.kQ using iy generalizing t with
 |ind k ih=>
  intro a b c d e hk;have hl:=t.Kr;have hl2:=t.K5;have hl3:=t.aop;refine kY.fn (fun n=>by simp only[qw,kL,QG,mB];exact rfl) ?_
  have k1:kY (fun n=>wN (qw n) n n a b c d e 0 t) q4:=by
   refine kY.GA (F:=fun n m=>wN (qw n) n m a b c d e 0 t) ?_;refine ke.up (S:=Unit) (L:=fun n m i s=>wN (qw n) n m a b c d e i t) t.kI.length (fun _ _=>True) q4 ?_ ?_ 0 () (by omega) trivial
   ·intro i s hi _ next
    refine ke.lp (fun n m=>by simp only[Ix,A3,mB];exact rfl) ?_;simp only[hi,ik,decide_true,jE];refine ke.Bz hi ?_;have hm:=t.Cl (il hi);rw[lj (by unfold xD at hk;omega)];refine ke.oU (afR _ _) fun x _=>?_
    refine ke.oU (ih _ (by omega) _ rfl _ _ _ _ _ (by omega)) fun x _=>?_
    (repeat' (first|exact kY.pure trivial|exact ke.pure trivial|refine kY.oQ (fun _=>?_) (fun _=>?_)|refine ke.oQ (fun _=>?_) (fun _=>?_)))
    exact next s trivial
   ·intro s _;refine ke.lp (fun n m=>by simp only[Ix,A3,mB];exact rfl) ?_;simp only[ij,decide_false,jF];exact ke.pure trivial
  have k2:kY (fun n=>wO (qw n) n n a b c d e 0 t) q4:=by
   refine kY.GA (F:=fun n m=>wO (qw n) n m a b c d e 0 t) ?_;refine ke.up (S:=Unit) (L:=fun n m i s=>wO (qw n) n m a b c d e i t) t.kg.length (fun _ _=>True) q4 ?_ ?_ 0 () (by omega) trivial
   ·intro i s hi _ next
    refine ke.lp (fun n m=>by simp only[Iy,A4,mB];exact rfl) ?_;simp only[hi,ik,decide_true,jE];refine ke.Bz hi ?_;have hm:=t.aoq (il hi);rw[lj (by unfold xD at hk;omega)];refine ke.oU (afS _ _ _ (by omega)) fun x _=>?_
    (repeat' (first|exact kY.pure trivial|exact ke.pure trivial|refine kY.oQ (fun _=>?_) (fun _=>?_)|refine ke.oQ (fun _=>?_) (fun _=>?_)))
    exact next s trivial
   ·intro s _;refine ke.lp (fun n m=>by simp only[Iy,A4,mB];exact rfl) ?_;simp only[ij,decide_false,jF]
    (repeat' (first|exact kY.pure trivial|exact ke.pure trivial|refine kY.oQ (fun _=>?_) (fun _=>?_)|refine ke.oQ (fun _=>?_) (fun _=>?_)))
    all_goals exact ke.of1 k1
  refine kY.bind (aug _) fun x _=>?_
  (repeat' (first|exact kY.pure trivial|exact ke.pure trivial|refine kY.oQ (fun _=>?_) (fun _=>?_)|refine ke.oQ (fun _=>?_) (fun _=>?_)))
  ·refine kY.bind (Xw _ (by omega)) fun x _=>?_
   (repeat' (first|exact kY.pure trivial|exact ke.pure trivial|refine kY.oQ (fun _=>?_) (fun _=>?_)|refine ke.oQ (fun _=>?_) (fun _=>?_)))
   exact k2
  ·exact k2
theorem arH(t:jW)(a b c d:Int)(hk:t.kQ<xD):kY (fun n=>HG n t a b c d) q4:=by
 refine kY.fn (fun n=>by simp only[HG,kL,QI,mB];exact rfl) ?_;refine kY.bind (arG _ _ _ _ _ _ hk) fun x _=>?_
 (repeat' (first|exact kY.pure trivial|exact ke.pure trivial|refine kY.oQ (fun _=>?_) (fun _=>?_)|refine ke.oQ (fun _=>?_) (fun _=>?_)))
 refine kY.bind (Xv _ hk) fun x _=>?_
 (repeat' (first|exact kY.pure trivial|exact ke.pure trivial|refine kY.oQ (fun _=>?_) (fun _=>?_)|refine ke.oQ (fun _=>?_) (fun _=>?_)))
 refine kY.bind (Ub _ hk) fun x _=>?_
 (repeat' (first|exact kY.pure trivial|exact ke.pure trivial|refine kY.oQ (fun _=>?_) (fun _=>?_)|refine ke.oQ (fun _=>?_) (fun _=>?_)))
theorem yX(t:jW)(hk:t.kQ<xD):kY (fun n=>Rg n t) q4:=by
 refine kY.fn (fun n=>by simp only[Rg,kL,Z7,mB];exact rfl) ?_;refine kY.bind (Xv _ hk) fun x _=>?_
 (repeat' (first|exact kY.pure trivial|exact ke.pure trivial|refine kY.oQ (fun _=>?_) (fun _=>?_)|refine ke.oQ (fun _=>?_) (fun _=>?_)))
 refine kY.bind (Ub _ hk) fun x _=>?_
 (repeat' (first|exact kY.pure trivial|exact ke.pure trivial|refine kY.oQ (fun _=>?_) (fun _=>?_)|refine ke.oQ (fun _=>?_) (fun _=>?_)))
theorem ld.aeJ(x:ld):x.oe.length<x.kQ:=by rw[ld.yc];have:=uR kw.vV x.oe;omega
theorem ld.ayC(x:ld):x.body.kQ<x.kQ:=by rw[ld.yc];omega
theorem ld.Cl{x:ld}{b:kw}(h:b∈x.oe):b.tA.kQ<x.kQ:=by rw[ld.yc x];have:=uQ (f:=kw.kQ) h;rw[kw.yc]at this;omega
theorem akk:∀(t:ld)(a:Int),t.kQ<xD->kY (fun n=>xe n t a) q4:=by
 intro t;induction h:t.kQ using iy generalizing t with
 |ind k ih=>
  intro a hk;have hl:=t.aeJ;have hl2:=t.ayC;refine kY.fn (fun n=>by simp only[xe,kL,Nl,mB];exact rfl) ?_
  (repeat' (first|exact kY.pure trivial|exact ke.pure trivial|refine kY.oQ (fun _=>?_) (fun _=>?_)|refine ke.oQ (fun _=>?_) (fun _=>?_)))
  refine kY.bind (yX _ (by omega)) fun x _=>?_
  (repeat' (first|exact kY.pure trivial|exact ke.pure trivial|refine kY.oQ (fun _=>?_) (fun _=>?_)|refine ke.oQ (fun _=>?_) (fun _=>?_)))
  refine kY.GA (F:=fun n m=>AY (xe n) n m a 0 t) ?_;refine ke.up (S:=Unit) (L:=fun n m i s=>AY (xe n) n m a i t) t.oe.length (fun _ _=>True) q4 ?_ ?_ 0 () (by omega) trivial
  ·intro i s hi _ next
   refine ke.lp (fun n m=>by simp only[RI,AX,mB];exact rfl) ?_;simp only[hi,ik,decide_true,jE];refine ke.Bz hi ?_;have hm:=t.Cl (il hi);rw[lj (by unfold xD at hk;omega)];refine ke.oU (ih _ (by omega) _ rfl _ (by omega)) fun x _=>?_
   (repeat' (first|exact kY.pure trivial|exact ke.pure trivial|refine kY.oQ (fun _=>?_) (fun _=>?_)|refine ke.oQ (fun _=>?_) (fun _=>?_)))
   refine ke.Bz hi ?_
   (repeat' (first|exact kY.pure trivial|exact ke.pure trivial|refine kY.oQ (fun _=>?_) (fun _=>?_)|refine ke.oQ (fun _=>?_) (fun _=>?_)))
   exact next s trivial
  ·intro s _;refine ke.lp (fun n m=>by simp only[RI,AX,mB];exact rfl) ?_;simp only[ij,decide_false,jF];exact ke.pure trivial
theorem ayD(a b:kp):eqb a b=(a.index==b.index&&a.plus==b.plus):=by
 rw[jc,Zl,iK,jL,jL];cases a;cases b;simp
theorem aGg(a b:kA):eqb a b=(a.const==b.const&&eqb a.vars b.vars):=by
 rw[jc,Zl,iK,jL,Zl];cases a;cases b;simp
theorem aIF(a b:jW):eqb a b=(a.kind==b.kind&&(a.index==b.index&&(a.name==b.name&&(eqb a.kg b.kg&&eqb a.kI b.kI)))):=by
 rw[jc,Zl];simp only[iK,jL,Zl];cases a;cases b;simp only[jW.mk.injEq,jW.kind,jW.index,jW.name,jW.kg,jW.kI]
theorem ajL(xs:List W)(ys:List O):((xs.length:Int) !=(ys.length:Int))=(xs.length !=ys.length):=by
 rw[jc,bne_iff_ne,bne_iff_ne];omega
theorem avR(a b:kA)(hk:a.kQ<xD):Ev (fun n=>adC n a b) (eqb a b):=by
 have h1:=a.ac1;refine Ev.fn (fun n=>by simp only[adC,kL,adB,mB];exact rfl) ?_;rw[aGg];cases hc:(a.const==b.const)with
 |false=>
  have e:(a.const !=b.const)=true:=by simp only[bne,hc,jw]
  simp only[e,jE,jf];exact Ev.pure
 |true=>
  have e:(a.const !=b.const)=false:=by simp only[bne,hc,Bool.not_true]
  simp only[e,jF,iM];by_cases hl:a.vars.length=b.vars.length
  ·have e:((a.vars.length:Int) !=(b.vars.length:Int))=false:=by rw[ajL,hl];simp
   simp only[e,jF];refine Ev.GA (F:=fun n m=>JL n m 0 a b) ?_;refine rS.same (L:=fun n m i=>JL n m i a b) a.vars b.vars hl ?_ ?_
   ·intro i hi hj r hr;refine rS.lp (fun n m=>by simp only[ae0,JK,mB];exact rfl) ?_;simp only[hi,ik,decide_true,jE];rw[lj (by unfold xD at hk;omega),ayD];exact rS.Bz hi (rS.Bz hj (rS.andThen hr))
   ·refine rS.lp (fun n m=>by simp only[ae0,JK,mB];exact rfl) ?_;simp only[ij,decide_false,jF];exact rS.pure
  ·have e:((a.vars.length:Int) !=(b.vars.length:Int))=true:=by rw[ajL];simpa using hl
   simp only[e,jE];rw[ayB hl];exact Ev.pure
theorem amt(a b:List kA)(hk:a.length<xD)(hb:∀l∈a,l.kQ<xD):Ev (fun n=>KD n a b) (eqb a b):=by
 refine Ev.fn (fun n=>by simp only[KD,kL,M6,mB];exact rfl) ?_;by_cases hl:a.length=b.length
 ·have e:((a.length:Int) !=(b.length:Int))=false:=by rw[ajL,hl];simp
  simp only[e,jF];refine Ev.GA (F:=fun n m=>AM n m a b 0) ?_;refine rS.same (L:=fun n m i=>AM n m a b i) a b hl ?_ ?_
  ·intro i hi hj r hr;refine rS.lp (fun n m=>by simp only[Rh,AK,mB];exact rfl) ?_;simp only[hi,ik,decide_true,jE];rw[lj (by unfold xD at hk;omega)];exact rS.Bz hi (rS.Bz hj (rS.oU (avR _ _ (hb _ (il hi))) (rS.andThen hr)))
  ·refine rS.lp (fun n m=>by simp only[Rh,AK,mB];exact rfl) ?_;simp only[ij,decide_false,jF];exact rS.pure
 ·have e:((a.length:Int) !=(b.length:Int))=true:=by rw[ajL];simpa using hl
  simp only[e,jE];rw[ayB hl];exact Ev.pure
theorem Ev.orElse(h:Ev F r):Ev (fun n=>bif !c then some false else F n) (c&&r):=by
 cases c with
 |true=>exact h
 |false=>exact Ev.pure
theorem aaY:∀(a b:jW),a.kQ<xD->Ev (fun n=>Ca n a b) (eqb a b):=by
 intro a;induction h:a.kQ using iy generalizing a with
 |ind k ih=>
  intro b hk;have h1:=a.Kr;have h2:=a.K5;refine Ev.fn (fun n=>by simp only[Ca,kL,ad0,mB];exact rfl) ?_;rw[aIF];refine Ev.orElse (Ev.orElse (Ev.andThen (Ev.bind (amt _ _ (by omega) ?_) (Ev.andThen ?_))))
  ·intro l hl;have:=a.aoq hl;omega
  ·by_cases hl:a.kI.length=b.kI.length
   ·have e:((a.kI.length:Int) !=(b.kI.length:Int))=false:=by rw[ajL,hl];simp
    simp only[e,jF];refine Ev.GA (F:=fun n m=>Ka (Ca n) n m 0 a b) ?_;refine rS.same (L:=fun n m i=>Ka (Ca n) n m i a b) a.kI b.kI hl ?_ ?_
    ·intro i hi hj r hr;refine rS.lp (fun n m=>by simp only[afo,aQJ,mB];exact rfl) ?_;simp only[hi,ik,decide_true,jE];have:=a.Cl (il hi);rw[lj (by unfold xD at hk;omega)];exact rS.Bz hi (rS.Bz hj (rS.oU (ih _ (by omega) _ rfl _ (by omega)) (rS.andThen hr)))
    ·refine rS.lp (fun n m=>by simp only[afo,aQJ,mB];exact rfl) ?_;simp only[ij,decide_false,jF];exact rS.pure
   ·have e:((a.kI.length:Int) !=(b.kI.length:Int))=true:=by rw[ajL];simpa using hl
    simp only[e,jE];rw[ayB hl];exact Ev.pure
abbrev lf:Nat:=1048640
theorem aIG(h:((t.kI.length:Int)==2)=true):∃x y,t.kI=[x,y]:=by
 have h:t.kI.length=2:=by have:=jL.1 h;omega
 match hk:t.kI,h with
 |[x,y],_=>exact⟨x,y,rfl⟩
theorem aeK {x y:jW}(h:t.kI=[x,y]):x.kQ+y.kQ<t.kQ:=by
 rw[jW.yc t,h];simp only[qB];omega
theorem aIH(h:k<=lf*2):decide ((k+1)*80<=17592186044416)=true:=by
 simp only[lf]at h;simp only[jK];omega
theorem aM9:∀(t:jW),∃r:List jW×jW,(∀lR:List jW,lR.length+t.kQ<=lf*2->rS (fun n m=>aQT n m t lR) (lR++r.1,r.2))/\qB jW.kQ r.1+r.2.kQ<=t.kQ+1:=by
 intro t;induction h:t.kQ using iy generalizing t with
 |ind k ih=>
  cases hc:(t.kind==6&&((t.kI.length:Int)==2))with
  |false=>
   refine⟨([],t),fun lR ha=>?_,by simp only[qB];omega⟩
   ·refine rS.lp (fun n m=>by simp only[ahx,MF,mB];exact rfl) ?_;rw[iL];cases h1:(t.kind==6)with
    |false=>simp only[jF];exact rS.pure
    |true=>
     rw[h1,iM]at hc;simp only[hc,jE,jF];exact rS.pure
  |true=>
   rw[iK]at hc;obtain⟨x,y,hxy⟩:=aIG hc.2;have hb:=aeK hxy;obtain⟨r,hr,hrb⟩:=ih y.kQ (by omega) y rfl;refine⟨(x::r.1,r.2),fun lR ha=>?_,by simp only[qB];omega⟩;have h2:=hr (lR++[x]) (by have:=x.vV;simp only[iv,iz];omega);rw[iR,List.singleton_append]at h2;have i0:Mg t.kI 0=some x:=by rw[hxy];rfl
   have i1:Mg t.kI 1=some y:=by rw[hxy];rfl
   have Bm:=aIH (k:=lR.length) (by omega);refine rS.lp (fun n m=>by simp only[ahx,MF,mB];exact rfl) ?_;simp only[hc.1,hc.2,jE,i0,i1,iq,Bm];exact h2
theorem aNa(t:jW)(ht:t.kQ<=lf):∃r:List jW×jW,True/\Ev (fun n=>ajJ n t) r/\qB jW.kQ r.1+r.2.kQ<=t.kQ+1:=by
 obtain⟨r,hr,hb⟩:=aM9 t;have:=hr [] (by simp only[iC];omega);refine⟨r,trivial,?_,hb⟩;refine Ev.fn (fun n=>by simp only[ajJ,kL,ahy,mB];exact rfl) ?_;exact Ev.GA this
theorem aII:∀(k:Nat)(pre mid suf:List jW),mid.length=k->pre.length+k<xD->rS (fun n m=>zw n m pre.length ((pre.length:Int)+mid.length-1) (pre++(mid++suf))) ((pre++(mid.reverse++suf),()),()):=by
 intro k;induction k using iy with
 |ind k ih=>
  intro pre mid suf hk aK9;refine rS.lp (fun n m=>by simp only[ZK,zu,mB];exact rfl) ?_
  match mid,hk with
  |[],hk=>
   have:decide ((pre.length:Int)<(pre.length:Int)+([]:List jW).length-1)=false:=by simp;omega
   simp only[this,jF];exact rS.pure
  |[x],hk=>
   have:decide ((pre.length:Int)<(pre.length:Int)+([x]:List jW).length-1)=false:=by simp
   simp only[this,jF];exact rS.pure
  |x::y'::rest,hk=>
   obtain⟨OJ,y,hy⟩:∃OJ y,y'::rest=OJ++[y]:=⟨(y'::rest).dropLast,(y'::rest).getLast (by simp),(List.dropLast_concat_getLast (by simp)).symm⟩;rw[hy]at hk ⊢;simp only[iw,iv,iC]at hk;have hd:decide ((pre.length:Int)<(pre.length:Int)+(x::(OJ++[y])).length-1)=true:=by simp only[iw,iv,iC,jK];omega
   have e1:((pre.length:Int)+(x::(OJ++[y])).length-1)=((pre.length+OJ.length+1:Nat):Int):=by simp only[iw,iv,iC];omega
   have g1:(pre++(x::(OJ++[y])++suf))[pre.length+OJ.length+1]? =some y:=by
    rw[iZ (by omega)];have:pre.length+OJ.length+1-pre.length=OJ.length+1:=by omega
    rw[this];simp
   have g0:(pre++(x::(OJ++[y])++suf))[pre.length]? =some x:=by
    rw[iZ (by omega)];simp
   have s0:(pre++(x::(OJ++[y])++suf)).set pre.length y=pre++(y::(OJ++[y])++suf):=by
    rw[jk _ _ (by omega)];simp
   have g2:(pre++(y::(OJ++[y])++suf))[pre.length+OJ.length+1]? =some y:=by
    rw[iZ (by omega)];have:pre.length+OJ.length+1-pre.length=OJ.length+1:=by omega
    rw[this];simp
   have s1:(pre++(y::(OJ++[y])++suf)).set (pre.length+OJ.length+1) x=(pre++[y])++(OJ++(x::suf)):=by
    rw[jk _ _ (by omega)];have:pre.length+OJ.length+1-pre.length=OJ.length+1:=by omega
    rw[this];simp only[iP,List.set_cons_succ,iR];rw[jk _ _ (by omega)];simp
   rw[e1]at hd;simp only[e1];simp only[hd,jE];have n0:(0:Int)<=((pre.length+OJ.length+1:Nat):Int):=by omega
   have n1:(0:Int)<=(pre.length:Int):=by omega
   simp only[Mg,n0,n1,jM,iF,g1,g0,g2,s0,s1,iq]
   have w1:IntKind.i64.wrap ((pre.length:Int)+1)=((pre++[y]).length:Int):=by
    unfold xD at aK9;rw[lj (by omega)];simp
   have w2:IntKind.i64.wrap (((pre.length+OJ.length+1:Nat):Int)-1)=((pre++[y]).length:Int)+OJ.length-1:=by
    unfold xD at aK9;rw[ri (by omega) (by omega)];simp;omega
   rw[w1,w2];have:=ih OJ.length (by omega) (pre++[y]) OJ (x::suf) rfl (by simp;omega);have e:pre++((x::(OJ++[y])).reverse++suf)=(pre++[y])++(OJ.reverse++(x::suf)):=by simp
   rw[e];exact this
theorem aeL(r:List jW)(h:r.length<xD):Ev (fun n=>CA n r) ((r.reverse,()),()):=by
 refine Ev.fn (fun n=>by simp only[CA,kL,Fy,mB];exact rfl) ?_;have:=aII r.length [] r [] rfl (by simpa using h);simp only[iO,iL,iC]at this;have w:IntKind.i64.wrap ((r.length:Int)-1)=(0:Nat)+(r.length:Int)-1:=by unfold xD at h;rw[ri (by omega) (by omega)];omega
 rw[w];exact Ev.GA this
noncomputable def K6 (t:jW):jW×List jW:=
 if h:t.kind=4/\t.kI.length=2 then
  ((K6 (t.kI[0]'(by omega))).1,(K6 (t.kI[0]'(by omega))).2++[t.kI[1]'(by omega)])
 else(t,[])
termination_by t.kQ
decreasing_by all_goals exact jW.Cl _ (il _)
theorem amu {x y:jW}(h:t.kind=4)(hk:t.kI=[x,y]):K6 t=((K6 x).1,(K6 x).2++[y]):=by
 rw[K6,dif_pos ⟨h,by rw[hk];rfl⟩];simp only[hk,iW,List.getElem_cons_succ]
theorem amv(h: ¬ (t.kind=4/\t.kI.length=2)):K6 t=(t,[]):=by
 rw[K6,dif_neg h]
theorem aNb(h:t.kI.length=2):∃x y,t.kI=[x,y]:=by
 match hk:t.kI,h with
 |[x,y],_=>exact⟨x,y,rfl⟩
theorem aQj(t:jW)(k:Int)(h: ¬ (t.kind=k/\t.kI.length=2)):(t.kind==k)=false\/((t.kind==k)=true/\((t.kI.length:Int)==2)=false):=by
 by_cases h1:t.kind=k
 ·refine .inr ⟨by simp [h1],?_⟩;rw[beq_eq_false_iff_ne];intro e;exact h ⟨h1,by omega⟩
 ·exact .inl (by simpa using h1)
theorem aBs:∀t:jW,qB jW.kQ (K6 t).2+(K6 t).1.kQ<=t.kQ+1:=by
 intro t;induction h:t.kQ using iy generalizing t with
 |ind k ih=>
  by_cases hc:t.kind=4/\t.kI.length=2
  ·obtain⟨x,y,hxy⟩:=aNb hc.2;have hb:=aeK hxy;have:=ih x.kQ (by omega) x rfl;rw[amu hc.1 hxy]
   have e:∀xs:List jW,qB jW.kQ (xs++[y])=qB jW.kQ xs+y.kQ:=by
    intro xs;induction xs with
    |nil=>simp only[iO,qB];omega
    |cons z zs ih=>simp only[iP,qB,ih];omega
   simp only[e];omega
  ·rw[amv hc];simp only[qB];omega
theorem aGh(t:jW)(ht:t.kQ<=lf):Ev (fun n=>KE n t) (K6 t)/\True:=by
 have key:∀(t:jW),t.kQ<=lf->(∀lR:List jW,lR.length+t.kQ<=lf*2->rS (fun n m=>Et n m t lR) ((K6 t).1,(K6 t).2++lR.reverse))/\True:=by
  intro t;induction h:t.kQ using iy generalizing t with
  |ind k ih=>
   intro Cp;by_cases hc:t.kind=4/\t.kI.length=2
   ·obtain⟨x,y,hxy⟩:=aNb hc.2;have hb:=aeK hxy;obtain⟨hr,hs⟩:=ih x.kQ (by omega) x rfl (by omega);have i0:Mg t.kI 0=some x:=by rw[hxy];rfl
    have i1:Mg t.kI 1=some y:=by rw[hxy];rfl
    have e1:(t.kind==4)=true:=by simp [hc.1]
    have e2:((t.kI.length:Int)==2)=true:=by simp [hc.2]
    have hsb:=aBs x;rw[amu hc.1 hxy];refine⟨fun lR ha=>?_,?_⟩
    ·have h2:=hr (lR++[y]) (by have:=y.vV;simp only[iv,iz];omega);have Bm:=aIH (k:=lR.length) (by omega);refine rS.lp (fun n m=>by simp only[Ri,AQ,mB];exact rfl) ?_;simp only[e1,e2,jE,i0,i1,iq,Bm];simpa only[List.reverse_append,List.reverse_cons,List.reverse_nil,iO,iR] using h2
    ·trivial
   ·rw[amv hc];refine⟨fun lR ha=>?_,?_⟩
    ·refine rS.lp (fun n m=>by simp only[Ri,AQ,mB];exact rfl) ?_;have aO9:=aeL lR (by unfold xD;simp only[lf]at ha;omega);rcases aQj t 4 hc with e|⟨e,e'⟩
     ·simp only[e,jF];exact rS.oU aO9 (by simp only[jz,jM,beq_self_eq_true,iI,jE,jW.lU,iq,iO];exact rS.pure)
     ·simp only[e,e',jE,jF];exact rS.oU aO9 (by simp only[jz,jM,beq_self_eq_true,iI,jE,jW.lU,iq,iO];exact rS.pure)
    ·trivial
 obtain⟨h1,h2⟩:=key t ht;refine⟨?_,h2⟩;refine Ev.fn (fun n=>by simp only[KE,kL,M7,mB];exact rfl) ?_;have:=h1 [] (by simp only[iC];omega);rw[List.reverse_nil,iL]at this;exact Ev.GA this
theorem Bb{n:Nat}(h:n<=lf):n<xD:=by simp only[lf]at h;unfold xD;omega
theorem mI.vV(x:mI):1<=x.kQ:=by rw[mI.kQ];omega
theorem qH.vV(x:qH):1<=x.kQ:=by rw[qH.kQ];omega
theorem kz.aLa{c:mI}(h:c∈d.q5):c.type.kQ<=d.kQ/\c.name.length<=d.kQ:=by
 have:=uQ (f:=mI.kQ) h;rw[mI.kQ]at this;rw[kz.kQ];omega
theorem kz.awT(d:kz):d.q5.length<=d.kQ:=by
 have:=uR mI.vV d.q5;rw[kz.kQ];omega
theorem aor(d:kz)(hd:d.kQ<=lf):kY (fun n=>QH n d) q4:=by
 have hd':=hd;rw[kz.kQ]at hd';have hl1:=d.awT;have hl2:=uR qH.vV d.Aj;have hl3:qB jW.kQ d.oZ.yA<d.oZ.kQ:=by rw[kV.kQ];omega
 have hl4:=uR jW.vV d.oZ.yA;have hl5:d.oZ.type.kQ<d.oZ.kQ:=by rw[kV.kQ];omega
 have k1:kY (fun n=>An n n 0 d) q4:=by
  refine kY.GA (F:=fun n m=>An n m 0 d) ?_;refine ke.up (S:=Unit) (L:=fun n m i s=>An n m i d) d.Aj.length (fun _ _=>True) q4 ?_ ?_ 0 () (by omega) trivial
  ·intro i s hi _ next
   refine ke.lp (fun n m=>by simp only[aQ8,Dv,mB];exact rfl) ?_;simp only[hi,ik,decide_true,jE];refine ke.Bz hi ?_;have hm:=uQ (f:=qH.kQ) (il hi);rw[qH.kQ]at hm
   (repeat' (first|exact kY.pure trivial|exact ke.pure trivial|refine kY.oQ (fun _=>?_) (fun _=>?_)|refine ke.oQ (fun _=>?_) (fun _=>?_)))
   refine ke.Bz hi ?_;refine ke.oU (yX _ (Bb (by omega))) fun x _=>?_
   (repeat' (first|exact kY.pure trivial|exact ke.pure trivial|refine kY.oQ (fun _=>?_) (fun _=>?_)|refine ke.oQ (fun _=>?_) (fun _=>?_)))
   refine ke.Bz hi ?_;refine ke.oU (akk _ _ (Bb (by omega))) fun x _=>?_
   (repeat' (first|exact kY.pure trivial|exact ke.pure trivial|refine kY.oQ (fun _=>?_) (fun _=>?_)|refine ke.oQ (fun _=>?_) (fun _=>?_)))
   rw[lj (by simp only[lf]at hd hd';omega)];exact next s trivial
  ·intro s _;refine ke.lp (fun n m=>by simp only[aQ8,Dv,mB];exact rfl) ?_;simp only[ij,decide_false,jF];exact ke.pure trivial
 have k2:kY (fun n=>Ao n n 0 d) q4:=by
  refine kY.GA (F:=fun n m=>Ao n m 0 d) ?_;refine ke.up (S:=Unit) (L:=fun n m i s=>Ao n m i d) d.oZ.yA.length (fun _ _=>True) q4 ?_ ?_ 0 () (by omega) trivial
  ·intro i s hi _ next
   refine ke.lp (fun n m=>by simp only[aQ9,Dw,mB];exact rfl) ?_;simp only[hi,ik,decide_true,jE];refine ke.Bz hi ?_;have hm:=uQ (f:=jW.kQ) (il hi);refine ke.oU (yX _ (Bb (by omega))) fun x _=>?_
   (repeat' (first|exact kY.pure trivial|exact ke.pure trivial|refine kY.oQ (fun _=>?_) (fun _=>?_)|refine ke.oQ (fun _=>?_) (fun _=>?_)))
   rw[lj (by simp only[lf]at hd hd';omega)];exact next s trivial
  ·intro s _;refine ke.lp (fun n m=>by simp only[aQ9,Dw,mB];exact rfl) ?_;simp only[ij,decide_false,jF];exact ke.of1 k1
 have k3:kY (fun n=>Ap n n 0 d) q4:=by
  refine kY.GA (F:=fun n m=>Ap n m 0 d) ?_;refine ke.up (S:=Unit) (L:=fun n m i s=>Ap n m i d) d.q5.length (fun _ _=>True) q4 ?_ ?_ 0 () (by omega) trivial
  ·intro i s hi _ next
   refine ke.lp (fun n m=>by simp only[aRa,Dx,mB];exact rfl) ?_;simp only[hi,ik,decide_true,jE];refine ke.Bz hi ?_;have hm:=(kz.aLa (il hi)).1
   (repeat' (first|exact kY.pure trivial|exact ke.pure trivial|refine kY.oQ (fun _=>?_) (fun _=>?_)|refine ke.oQ (fun _=>?_) (fun _=>?_)))
   refine ke.Bz hi ?_;refine ke.oU (yX _ (Bb (by omega))) fun x _=>?_
   (repeat' (first|exact kY.pure trivial|exact ke.pure trivial|refine kY.oQ (fun _=>?_) (fun _=>?_)|refine ke.oQ (fun _=>?_) (fun _=>?_)))
   rw[lj (by simp only[lf]at hd hd';omega)];exact next s trivial
  ·intro s _;refine ke.lp (fun n m=>by simp only[aRa,Dx,mB];exact rfl) ?_;simp only[ij,decide_false,jF];exact ke.of1 k2
 refine kY.fn (fun n=>by simp only[QH,kL,SL,mB];exact rfl) ?_
 (repeat' (first|exact kY.pure trivial|exact ke.pure trivial|refine kY.oQ (fun _=>?_) (fun _=>?_)|refine ke.oQ (fun _=>?_) (fun _=>?_)))
 refine kY.bind (yX _ (Bb (by omega))) fun x _=>?_
 (repeat' (first|exact kY.pure trivial|exact ke.pure trivial|refine kY.oQ (fun _=>?_) (fun _=>?_)|refine ke.oQ (fun _=>?_) (fun _=>?_)))
 refine kY.bind (yX _ (Bb (by omega))) fun x _=>?_
 (repeat' (first|exact kY.pure trivial|exact ke.pure trivial|refine kY.oQ (fun _=>?_) (fun _=>?_)|refine ke.oQ (fun _=>?_) (fun _=>?_)))
 refine kY.bind (yX _ (Bb (by omega))) fun x _=>?_
 (repeat' (first|exact kY.pure trivial|exact ke.pure trivial|refine kY.oQ (fun _=>?_) (fun _=>?_)|refine ke.oQ (fun _=>?_) (fun _=>?_)))
 exact k3
noncomputable def Vu (s:kj) (t:jW):Bool:=(t.kind==3&&t.name==s)||t.kI.attach.any (fun k=>Vu s k.1)
termination_by t.kQ
decreasing_by exact jW.Cl _ k.2
theorem aeM(s:kj)(t:jW):Vu s t=((t.kind==3&&t.name==s)||t.kI.any (Vu s)):=by
 have h:∀xs:List jW,(xs.attach.any fun k=>Vu s k.1)=xs.any (Vu s):=by
  intro xs;have:=congrArg (List.any · (Vu s)) (List.attach_map_subtype_val xs);simp only[List.any_map]at this;rw[<-this];rfl
 rw[Vu,h]
theorem Sh(p:W->Bool)(xs:List W)(i:Nat)(h:i<xs.length):(xs.drop i).any p=(p xs[i]||(xs.drop (i+1)).any p):=by
 rw[ir h,iT]
theorem aBt(l:List kj)(s:kj)(hl:l.length<xD):Ev (fun n=>anH n l s) (l.any (· ==s)):=by
 refine kY.ev ?_;refine kY.fn (fun n=>by simp only[anH,kL,alX,mB];exact rfl) ?_;refine kY.GA (F:=fun n m=>Rf n m l s 0) ?_;refine ke.up (S:=Unit) (L:=fun n m i _=>Rf n m l s i) l.length (fun i _=>l.any (· ==s)=(l.drop i).any (· ==s)) _ ?_ ?_ 0 () (by omega) rfl
 ·intro i u hi hI next
  refine ke.lp (fun n m=>by simp only[akG,Re,mB];exact rfl) ?_;simp only[hi,ik,decide_true,jE];refine ke.Bz hi ?_;rw[Sh _ _ _ hi]at hI;refine ke.oQ (fun hc=>ke.pure ?_) fun hc=>?_
  ·rw[hI,hc,iI]
  ·rw[lj (by unfold xD at hl;omega)];exact next u (by rw[hI,hc,iG])
 ·intro u hI;refine ke.lp (fun n m=>by simp only[akG,Re,mB];exact rfl) ?_;simp only[ij,decide_false,jF];refine ke.pure ?_;rw[hI,iA];rfl
theorem aeN(l:List kj)(s:kj)(hl:l.length<xD):Ev (fun n=>VA n l s) (l.any (· ==s)):=by
 refine kY.ev ?_;refine kY.fn (fun n=>by simp only[VA,kL,ahi,mB];exact rfl) ?_;refine kY.GA (F:=fun n m=>ME n m l s 0) ?_;refine ke.up (S:=Unit) (L:=fun n m i _=>ME n m l s i) l.length (fun i _=>l.any (· ==s)=(l.drop i).any (· ==s)) _ ?_ ?_ 0 () (by omega) rfl
 ·intro i u hi hI next
  refine ke.lp (fun n m=>by simp only[ahh,MD,mB];exact rfl) ?_;simp only[hi,ik,decide_true,jE];refine ke.Bz hi ?_;rw[Sh _ _ _ hi]at hI;refine ke.oQ (fun hc=>ke.pure ?_) fun hc=>?_
  ·rw[hI,hc,iI]
  ·rw[lj (by unfold xD at hl;omega)];exact next u (by rw[hI,hc,iG])
 ·intro u hI;refine ke.lp (fun n m=>by simp only[ahh,MD,mB];exact rfl) ?_;simp only[ij,decide_false,jF];refine ke.pure ?_;rw[hI,iA];rfl
theorem aE4(h:k<=lf*2):decide ((k+1)*16<=17592186044416)=true:=by
 simp only[lf]at h;simp only[jK];omega
theorem aGi:∀(t:jW)(l:List kj),l.length+t.kQ<=lf*2->kY (fun n=>xY n l t) (fun r=>r.1.1.length<=l.length+t.kQ/\∀s,r.1.1.any (· ==s)=(l.any (· ==s)||Vu s t)):=by
 intro t;induction h:t.kQ using iy generalizing t with
 |ind k ih=>
  intro l hk;have hl:=t.Kr;have aK9:l.length<xD:=by simp only[lf]at hk;unfold xD;omega
  have hb:1+qB jW.kQ t.kI<=t.kQ:=by rw[jW.yc];omega
  have loop:∀(l0:List kj),l0.length<=l.length+1->kY (fun n=>Bx (xY n) n n 0 l0 t) (fun r=>r.1.1.length<=l.length+k/\∀s,r.1.1.any (· ==s)=(l0.any (· ==s)||t.kI.any (Vu s))):=by
   intro l0 hl0;refine kY.GA (F:=fun n m=>Bx (xY n) n m 0 l0 t) ?_;refine ke.up (S:=List kj) (L:=fun n m i r=>Bx (xY n) n m i r t) t.kI.length (fun i r=>r.length+qB jW.kQ (t.kI.drop i)<=l.length+k/\∀s,(l0.any (· ==s)||t.kI.any (Vu s))=(r.any (· ==s)||(t.kI.drop i).any (Vu s))) _ ?_ ?_ 0 l0 (by omega) ⟨by simp only[iY];omega,fun s=>by simp⟩
   ·intro i r hi hI next
    refine ke.lp (fun n m=>by simp only[YQ,EY,mB];exact rfl) ?_;simp only[hi,ik,decide_true,jE];refine ke.Bz hi ?_;obtain⟨hI1,hI2⟩:=hI;have sJ:=t.Cl (il hi);have e:qB jW.kQ (t.kI.drop i)=t.kI[i].kQ+qB jW.kQ (t.kI.drop (i+1)):=by rw[ir hi];simp only[qB]
    have axp:1<=qB jW.kQ (t.kI.drop (i+1)):=ajj _;refine ke.oU (ih _ (by omega) _ rfl r (by omega)) fun x hx=>?_
    rw[lj (by simp only[lf]at hk;omega)];refine next _ ⟨by have:=hx.1;omega,fun s=>?_⟩
    rw[hI2 s,Sh _ _ _ hi,hx.2 s,jq]
   ·intro r hI;refine ke.lp (fun n m=>by simp only[YQ,EY,mB];exact rfl) ?_;simp only[ij,decide_false,jF];obtain⟨hI1,hI2⟩:=hI;refine ke.pure ⟨by show r.length<=_;omega,fun s=>?_⟩;rw[hI2 s,iA];simp
  refine kY.fn (fun n=>by simp only[xY,kL,WC,mB];exact rfl) ?_;refine kY.oQ (fun h3=>?_) fun h3=>?_
  ·refine kY.bind ((aBt l t.name aK9).tot (Q:=(· =l.any (· ==t.name))) rfl) fun x hx=>?_
   refine kY.oQ (fun hc=>?_) fun hc=>?_
   ·refine(loop l (by omega)).imp fun r hr=>⟨hr.1,fun s=>?_⟩
    rw[hr.2 s,aeM,h3,iM];cases hs:(t.name==s)with
    |false=>rfl
    |true=>
     have:=jL.1 hs;rw[<-this,<-hx,hc];simp
   ·have Bm:=aE4 (k:=l.length) (by omega);simp only[Bm,jE];refine(loop (l++[t.name]) (by simp)).imp fun r hr=>⟨hr.1,fun s=>?_⟩
    rw[hr.2 s,aeM,h3,iM,jm];simp [jq]
  ·refine(loop l (by omega)).imp fun r hr=>⟨hr.1,fun s=>?_⟩
   rw[hr.2 s,aeM,h3,jf,iG]
theorem arI(t:jW)(h:t.kQ<=lf):kY (fun n=>Vp n t) (fun r=>r.length<=lf/\∀s,r.any (· ==s)=Vu s t):=by
 refine kY.fn (fun n=>by simp only[Vp,kL,aQ7,mB];exact rfl) ?_;refine kY.bind (aGi t [] (by simp only[iC];omega)) fun x hx=>?_
 refine kY.pure ⟨?_,fun s=>by rw[hx.2 s];rfl⟩;have:=hx.1;simp only[iC]at this;omega
theorem Zm{W:Type}(x s:kj)(v:W):∀es:List (kj×W),Fx x (aeX s v es)=bif x==s then some v else Fx x es
 |[]=>rfl
 |(k,u)::es=>by
  simp only[aeX];cases h:(s==k)with
  |true=>
   obtain rfl:=jL.1 h;simp only[jE,Fx];cases x==s<;>rfl
  |false=>
   simp only[jF,Fx,Zm x s v es];cases h2:(x==k)with
   |true=>
    obtain rfl:=jL.1 h2
    have:(x==s)=false:=by
     cases h3:(x==s)with
     |false=>rfl
     |true=>obtain rfl:=jL.1 h3;rw[h2]at h;cases h
    rw[this];rfl
   |false=>rfl
theorem aqr{W:Type}:∀(n:Nat)(v:yB W n),(Eh n v).length=n
 |0,_=>rfl
 |n+1,v=>by rw[Eh,iw,aqr n v.2]
def ayE(met:List (kj×Bool))(out:List kj):Prop:=∀s,(Fx s met).getD false=out.any (· ==s)
abbrev aNc(met:List (kj×Bool))(out:List kj):(((Unit×Int)×(Unit×(Unit×((List (kj×Bool))×((List kj)×Unit)))))×(Bool×Unit)):=((((),0),(),(),met,out,()),true,())
theorem ayF(d:Int)(t:jW)(met:List (kj×Bool))(out:List kj)(hk:out.length<=lf*2)(hm:ayE met out):
 kY (fun n=>wE n d t met out) (fun r=>∃aos Vv,r=aNc aos Vv/\Vv.length<=out.length+1/\ayE aos Vv/\∀s,Vv.any (· ==s)=(out.any (· ==s)||(t.kind==3&&t.name==s))):=by
 refine kY.fn (fun n=>by simp only[wE,kL,yN,mB];exact rfl) ?_;refine kY.oQ (fun h3=>?_) fun h3=>?_
 ·refine kY.oQ (fun hf=>?_) fun hf=>?_
  ·refine kY.pure ⟨met,out,rfl,by omega,hm,fun s=>?_⟩;rw[h3,iM];cases hs:(t.name==s)with
   |false=>rw[ja]
   |true=>
    have:=jL.1 hs;rw[<-this,<-hm,hf];rfl
  ·rw[aE4 hk,jE];refine kY.pure ⟨_,_,rfl,by simp,fun s=> ?_,fun s=> ?_⟩
   ·rw[Zm,jm];cases hs:(s==t.name)with
    |true=>obtain rfl:=jL.1 hs;simp
    |false=>
     have:(t.name==s)=false:=by
      cases h:(t.name==s)with
      |false=>rfl
      |true=>obtain rfl:=jL.1 h;rw[hs]at h;cases h
     simp only[jF,iT,jr,this,ja];exact hm s
   ·rw[h3,iM,jm];simp
 ·exact kY.pure ⟨met,out,rfl,by omega,hm,fun s=>by rw[h3,jf,ja]⟩
abbrev ayG(K:yB kn 13)(met:List (kj×Bool))(out:List kj):((Unit×((((yB kn 13)×Unit)×Unit)×((Unit×Int)×(Unit×(Unit×((List (kj×Bool))×((List kj)×Unit)))))))×(Bool×Unit)):=(((),((K,()),()),((),0),(),(),met,out,()),true,())
theorem ayH(K:yB kn 13):∀(t:jW)(d:Int)(met:List (kj×Bool))(out:List kj),out.length+t.kQ<=lf*2->ayE met out->
 kY (fun n=>sQ n t d K K met out) (fun r=>∃aos Vv,r=ayG K aos Vv/\Vv.length<=out.length+t.kQ/\ayE aos Vv/\∀s,Vv.any (· ==s)=(out.any (· ==s)||Vu s t)):=by
 intro t;induction h:t.kQ using iy generalizing t with
 |ind k ih=>
  intro d met out hk hm;have hl:=t.Kr;have hb:1+qB jW.kQ t.kI<=t.kQ:=by rw[jW.yc];omega
  have loop:∀(below:Int)(aIJ:List (kj×Bool))(ayI:List kj),ayI.length<=out.length+1->ayE aIJ ayI->
   kY (fun n=>uH (sQ n) n n d below t.kI t.kI.length 0 K 0 aIJ ayI) (fun r=>∃aos Vv,r=ayG K aos Vv/\Vv.length<=out.length+k/\ayE aos Vv/\∀s,Vv.any (· ==s)=(ayI.any (· ==s)||t.kI.any (Vu s))):=by
   intro below aIJ ayI hl0 hm0;refine kY.GA (F:=fun n m=>uH (sQ n) n m d below t.kI t.kI.length 0 K 0 aIJ ayI) ?_
   refine ke.up (S:=List (kj×Bool)×List kj) (L:=fun n m i r=>uH (sQ n) n m d below t.kI t.kI.length i K 0 r.1 r.2) t.kI.length
    (fun i r=>r.2.length+qB jW.kQ (t.kI.drop i)<=out.length+k/\ayE r.1 r.2/\∀s,(ayI.any (· ==s)||t.kI.any (Vu s))=(r.2.any (· ==s)||(t.kI.drop i).any (Vu s))) _ ?_ ?_ 0 (aIJ,ayI) (by omega) ⟨by simp only[iY];omega,hm0,fun s=>by simp⟩
   ·rintro i ⟨m1,o1⟩ hi ⟨hI1,hI2,hI3⟩ next
    have e:qB jW.kQ (t.kI.drop i)=t.kI[i].kQ+qB jW.kQ (t.kI.drop (i+1)):=by rw[ir hi];simp only[qB]
    have axp:1<=qB jW.kQ (t.kI.drop (i+1)):=ajj _;have sJ:=t.Cl (il hi);simp only at hI1 hI2 hI3
    have step:∀d':Int,ke (fun n m=>(sQ n t.kI[i] d' K K m1 o1).bind fun x=>
          bif x.snd.fst then
           uH (sQ n) n m d below t.kI t.kI.length (IntKind.i64.wrap ((i:Int)+1)) x.fst.snd.fst.fst.fst x.fst.snd.snd.fst.snd x.fst.snd.snd.snd.snd.snd.fst x.fst.snd.snd.snd.snd.snd.snd.fst
          else
           some (((),((x.fst.snd.fst.fst.fst,()),()),((),x.fst.snd.snd.fst.snd),(),(),x.fst.snd.snd.snd.snd.snd.fst,x.fst.snd.snd.snd.snd.snd.snd.fst,()),false,()))
     (fun r=>∃aos Vv,r=ayG K aos Vv/\Vv.length<=out.length+k/\ayE aos Vv/\∀s,Vv.any (· ==s)=(ayI.any (· ==s)||t.kI.any (Vu s))):=by
     intro d';refine ke.oU (ih _ (by omega) _ rfl d' m1 o1 (by omega) hI2) fun x hx=>?_
     obtain⟨m2,o2,rfl,h1,h2,h3⟩:=hx;simp only[jE];rw[lj (by simp only[lf]at hk;omega)];refine next (m2,o2) ⟨by simp only;omega,h2,fun s=>?_⟩
     rw[hI3 s,Sh _ _ _ hi,h3 s,jq]
    refine ke.lp (fun n m=>by simp only[Uz,BK,mB];exact rfl) ?_;simp only[hi,ik,decide_true,jE,beq_self_eq_true];refine ke.Bz hi ?_;exact ke.oQ (fun _=>step _) (fun _=>step _)
   ·rintro⟨m1,o1⟩ ⟨hI1,hI2,hI3⟩;refine ke.lp (fun n m=>by simp only[Uz,BK,mB];exact rfl) ?_;simp only[ij,decide_false,jF];refine ke.pure ⟨m1,o1,rfl,by simp only at hI1;omega,hI2,fun s=>?_⟩;rw[hI3 s,iA];simp
  refine kY.fn (fun n=>by simp only[sQ,kL,P8];exact rfl) ?_;refine kY.bind (ayF d t met out (by have:=t.vV;omega) hm) fun x hx=>?_
  obtain⟨m1,o1,rfl,h1,h2,h3⟩:=hx;simp only[jE]
  have y9:∀below:Int,kY (fun n=>uH (sQ n) n n d below t.kI t.kI.length 0 K 0 m1 o1) (fun r=>∃aos Vv,r=ayG K aos Vv/\Vv.length<=out.length+k/\ayE aos Vv/\∀s,Vv.any (· ==s)=(out.any (· ==s)||Vu s t)):=by
   intro below;refine(loop below m1 o1 h1 h2).imp fun r hr=>?_
   obtain⟨m',o',e,a,b,c⟩:=hr;exact⟨m',o',e,a,b,fun s=>by rw[c s,h3 s,aeM,jq]⟩
  refine kY.oQ (fun a=>?_) (fun _=>y9 _);refine kY.oQ (fun b=>?_) (fun _=>y9 _);have a':=jI a;have b':=jI b;have hi:t.kind.toNat<(Eh 13 K).length:=by rw[aqr];omega
  simp only[a',b',and_self,decide_true,jE,List.getElem?_eq_getElem hi,iq];exact y9 _
theorem auh(t:jW)(h:t.kQ<=lf):kY (fun n=>aQW n t) (fun r=>r.length<=lf/\∀s,r.any (· ==s)=Vu s t):=by
 refine kY.fn (fun n=>by simp only[aQW,kL,aao,mB];exact rfl) ?_;have hn:Ev (fun n=>KQ n t) t:=by refine Ev.fn (fun n=>by simp only[KQ,kL,Vb,mB];exact rfl) ?_;exact Ev.pure
 refine kY.bind (hn.tot (Q:=(· =t)) rfl) fun x hx=>?_
 subst hx;have hu:kY (fun n=>P0 n) (fun _=>True):=by refine kY.fn (fun n=>by simp only[P0,kL,Yr];exact rfl) ?_;exact kY.pure trivial
 have h1:kY (fun n=>Vo n x [] []) (fun r=>r.1.2.2.2.2.1.length<=lf/\∀s,r.1.2.2.2.2.1.any (· ==s)=Vu s x):=by
  refine kY.fn (fun n=>by simp only[Vo,kL,WP,mC];exact rfl) ?_;refine kY.bind hu fun K _=>?_
  refine kY.bind (ayH K x 0 [] [] (by simp only[iC];omega) (fun s=>rfl)) fun y hy=>?_
  obtain⟨m,o,rfl,a,b,c⟩:=hy;refine kY.pure ⟨?_,fun s=>by simp only[c s,jr,iG]⟩;show o.length<=lf;simp only[iC]at a;omega
 refine kY.bind h1 fun y hy=>?_
 exact kY.pure hy
def PK(k:Int):Int:=bif (k==4||k==5||k==6||k==7)then 2 else bif (k==8||k==11)then 3 else bif (k==9||k==10)then 1 else 0
inductive OkT:jW->Prop
 |mk {t:jW} (h1:0<=t.kind) (h2:t.kind<13) (h3:(t.kI.length:Int)=PK t.kind) (h4:t.kind=0->0<=t.index) (h5:∀k∈t.kI,OkT k):OkT t
theorem OkT.lo(h:OkT t):0<=t.kind:=by cases h;assumption
theorem OkT.hi(h:OkT t):t.kind<13:=by cases h;assumption
theorem OkT.len(h:OkT t):(t.kI.length:Int)=PK t.kind:=by cases h;assumption
theorem OkT.Bz(h:OkT t):t.kind=0->0<=t.index:=by cases h;assumption
theorem OkT.kid(h:OkT t):∀k∈t.kI,OkT k:=by cases h;assumption
theorem avS(k:Int):kY (fun n=>PY n k) (fun r=>r=PK k):=by
 refine kY.fn (fun n=>by simp only[PY,kL,aQS,mB];exact rfl) ?_
 repeat' (first|exact kY.pure (by grind [PK])|refine kY.oQ (fun _=>?_) (fun _=>?_))
def kws:List kj:=[[102,117,110],[108,101,116],[105,110],[83,105,103,109,97],[80,114,111,112],[84,121,112,101],
       [98,121],[97,120,105,111,109],[100,101,102],[116,104,101,111,114,101,109],
       [105,110,100,117,99,116,105,118,101],[102,117,110,99,116,105,111,110],[97,110,100],
       [101,110,100],[99,108,97,115,115],[105,110,115,116,97,110,99,101],
       [110,111,116,97,116,105,111,110],[110,97,109,101,115,112,97,99,101],[111,112,101,110],
       [99,104,101,99,107],[101,118,97,108],[105,109,112,111,114,116]]
def aLI:List (kj×Bool):=kws.map fun s=>(s,true)
theorem aDS(k:Nat):HE (k+250)=some ((aLI,()),()):=jN
theorem aBu:Ev (fun n=>HE n) ((aLI,()),()):=by
 refine⟨250,fun n hn=>?_⟩;obtain⟨k,rfl⟩:∃k,n=k+250:=⟨n-250,by omega⟩;exact aDS k
theorem aui(s:kj):∀xs:List kj,(Fx s (xs.map fun x=>(x,true))).getD false=xs.contains s
 |[]=>rfl
 |x::xs=>by
  rw[jy,Fx,List.contains_cons];cases s==x with
  |true=>rfl
  |false=>exact aui s xs
theorem aDT(s:kj):Ev (fun n=>Ke n s) (kws.contains s):=by
 refine Ev.fn (fun n=>by simp only[Ke,kL,SM,mB];exact rfl) ?_;refine Ev.bind aBu ?_;rw[<-aui];exact Ev.pure
def aBv(out:List kj)(s:kj):List kj:=bif s==[]||out.contains s then out else out++[s]
def ajm(out:List kj)(ps:List kj):List kj:=ps.foldl aBv out
def aqs(out:List kj)(T:List jR):List kj:=T.foldl (fun out n=>ajm out n.parts) out
def ajn(T:List jR):Nat:=(T.map fun n=>n.parts.length).sum
theorem apL:∀(ps:List kj)(out:List kj),(ajm out ps).length<=out.length+ps.length
 |[],out=>jp _
 |s::ps,out=>by
  have h1:=apL ps (aBv out s)
  grind [ajm,aBv]
theorem ajo(n:jR)(T:List jR):ajn (n::T)=n.parts.length+ajn T:=by grind [ajn]
def Met(m:List (kj×Bool))(out:List kj):Prop:=∀s,(Fx s m).getD false=(s==[]||out.contains s)
theorem Met.ins{m:List (kj×Bool)}{out:List kj}(h:Met m out)(hs:(Fx s m).getD false=false):Met (aeX s true m) (out++[s]):=by
 intro t;rw[Zm,jt,jm,<-jt,iT,jr,ja];cases hts:t==s with
 |true=>simp
 |false=>rw[jF,h t,ja]
theorem aLb(f:Nat)(X:List jR->Int->Int->List (kj×Bool)->List kj->Option (List kj))(T:List jR)(tl:Int)(i:Nat)(parts:List kj)(hl:parts.length<=1048640)(hi:i<=1048641)(R:Option (List kj)):
 ∀d j:Nat,∀(m:List (kj×Bool))(out:List kj),j+d=parts.length->out.length+d<=4000000->Met m out->(∀m',Met m' (ajm out (parts.drop j))->X T tl ((i+1:Nat):Int) m' (ajm out (parts.drop j))=R)->∀k,d<k->
  CD f X k T tl (i:Int) parts (parts.length:Int) (j:Int) m out=R:=by
 intro d;induction d with
 |zero=>
  intro j m out hj ho hm hX k hk;obtain⟨k,rfl⟩:∃k',k=k'+1:=⟨k-1,by omega⟩;simp only[OS,ze,mB];rw[jH (show ¬ (j:Int)<(parts.length:Int) by omega),jF,lj (by omega)];rw[ju (by omega)]at hX;exact hX m hm
 |succ d ih=>
  intro j m out hj ho hm hX k hk;obtain⟨k,rfl⟩:∃k',k=k'+1:=⟨k-1,by omega⟩;have hjl:j<parts.length:=by omega
  simp only[OS,ze,vh hjl,iq,mB];rw[jG (show(j:Int)<(parts.length:Int) by omega),jE,lj (by omega)];rw[ir hjl]at hX;have hX:∀m',Met m' (ajm (aBv out parts[j]) (parts.drop (j+1)))->X T tl ((i+1:Nat):Int) m' (ajm (aBv out parts[j]) (parts.drop (j+1)))=R:=hX;unfold aBv at hX;rw[hm];cases hq:parts[j]==[]||out.contains parts[j]with
  |true=>
   rw[hq]at hX;rw[jE];exact ih (j+1) m out (by omega) (by omega) hm hX k (by omega)
  |false=>
   rw[hq]at hX;rw[jF,jG (show(out.length+1)*16<=17592186044416 by omega),jE];exact ih (j+1) _ _ (by omega) (by grind) (hm.ins (by rw[hm];exact hq)) hX k (by omega)
theorem aIK(T:List jR)(hT:T.length<=lf)(hN:∀n∈T,n.parts.length<=lf)(hp:ajn T<=lf):Ev (fun f=>Ak f T) (aqs [] T):=by
 simp only[lf]at hT hp;refine Ev.fn (fun n=>by simp only[Ak,kL,KS,mB];exact rfl) ?_
 have key:∀(d i:Nat)(out:List kj),i+d=T.length->out.length+ajn (T.drop i)<=2000000->∃N,∀f m,N<=f->N<=m->∀mt,Met mt out->CE f m T (T.length:Int) (i:Int) mt out=some (aqs out (T.drop i)):=by
  intro d;induction d with
  |zero=>
   intro i out hi ho;refine⟨1,fun f m hf hm mt hmt=>?_⟩;obtain⟨m,rfl⟩:∃m',m=m'+1:=⟨m-1,by omega⟩;simp only[OT,zf];rw[jH (show ¬ (i:Int)<(T.length:Int) by omega),jF,ju (by omega)];rfl
  |succ d ih=>
   intro i out hi ho;have sJ:i<T.length:=by omega
   have hs:=hN _ (il sJ);simp only[lf]at hs;rw[ir sJ,ajo]at ho;have hlen:=apL T[i].parts out;obtain⟨N,hN'⟩:=ih (i+1) (ajm out T[i].parts) (by omega) (by omega);refine⟨max (N+1) 6000000,fun f m hf hm mt hmt=>?_⟩;obtain⟨m,rfl⟩:∃m',m=m'+1:=⟨m-1,by omega⟩;simp only[OT,zf,vh sJ,iq];rw[jG (show(i:Int)<(T.length:Int) by omega),jE,ir sJ];refine aLb f _ T _ i T[i].parts hs (by omega) _ T[i].parts.length 0 mt out (by omega) (by omega) hmt (fun m' hm'=>?_) f (by omega);rw[iY]at hm' ⊢;exact hN' f m (by omega) (by omega) m' hm'
 obtain⟨N,hN'⟩:=key T.length 0 [] (by omega) (by grind);rw[iY]at hN';refine⟨N,fun n hn=>hN' n n hn hn _ fun s=>?_⟩;rw[Zm];cases s==[]<;>rfl
theorem awU:∀(T:List jR)(out:List kj),(aqs out T).length<=out.length+ajn T
 |[],out=>jp _
 |n::T,out=>by
  have h1:=awU T (ajm out n.parts)
  grind [apL,aqs,ajo]
theorem aqt:∀T:List jR,ajn T<=qB jR.kQ T
 |[]=>Nat.zero_le _
 |n::T=>by
  have h1:=aqt T;have h2:=uR (f:=fun m:kj=>m.length+1) (fun _=>Nat.le_add_left _ _) n.parts
  grind [ajo,qB,jR.kQ]
theorem aot(h:k<=lf*4):decide ((k+1)*16<=17592186044416)=true:=by
 simp only[lf]at h;simp only[jK];omega
def aLc:kj:=[46,114,101,99]
def yY(d:kz):List kj:=
 bif d.kind==0 then [d.name] else bif d.kind==1 then [d.name] else bif d.kind==2 then [d.name] else
 bif d.kind==3 then d.name::d.q5.map (·.name)++[d.name++aLc] else bif d.kind==4 then d.Aj.map (·.name)else []
structure DOK(d:kz):Prop where
 q5:d.q5.length<=lf
 Aj:d.Aj.length<=lf
 name:d.name.length<=lf
theorem DOK.of(h:d.kQ<=lf):DOK d:=by
 rw[kz.kQ]at h;have h1:=d.awT;have h2:=uR qH.vV d.Aj;have h3:=uR mI.vV d.q5;exact⟨by omega,by omega,by omega⟩
theorem Xx(h:DOK d):(yY d).length<=lf+2:=by
 obtain⟨h1,h2,_⟩:=h;unfold yY;cases d.kind==0<;>cases d.kind==1<;>cases d.kind==2<;>cases d.kind==3<;>cases d.kind==4<;>simp [lf]<;>simp only[lf]at h1 h2<;>omega
theorem Ks(f:W->O)(l:List W)(i:Nat)(h:i<l.length):(l.take (i+1)).map f=(l.take i).map f++[f l[i]]:=by
 rw[iD h,List.map_append];rfl
theorem Vw(d:kz)(h:DOK d):Ev (fun n=>Ln n d) (yY d):=by
 obtain⟨h1,h2,h3⟩:=h;have hn:decide (d.name.length<=9223372036854775803)=true:=by simp only[lf]at h3;simp only[jK];omega
 refine Ev.fn (fun n=>by simp only[Ln,kL,ZE];exact rfl) ?_;unfold yY;cases d.kind==0 with
 |true=>exact Ev.pure
 |false=>
 cases d.kind==1 with
 |true=>exact Ev.pure
 |false=>
 cases d.kind==2 with
 |true=>exact Ev.pure
 |false=>
 cases d.kind==3 with
 |true=>
  simp only[jE,jF]
  have loop:∀(i:Nat)(s:List kj),i<=d.q5.length->s=d.name::(d.q5.take i).map (·.name)->ke (fun n m=>GY n m i d s) (· =d.name::d.q5.map (·.name)++[d.name++aLc]):=by
   refine ke.up (S:=List kj) (L:=fun n m i s=>GY n m i d s) d.q5.length (fun i s=>s=d.name::(d.q5.take i).map (·.name)) _ ?_ ?_
   ·intro i s hi hs next
    refine ke.lp (fun n m=>by simp only[abp,GX];exact rfl) ?_;have hl:s.length<=lf*4:=by rw[hs];simp only[iw,iU,iE,lf]at*;omega
    simp only[hi,ik,decide_true,jE,aot hl];refine ke.Bz hi ?_;rw[lj (by simp only[lf]at h1;omega)];exact next _ (by rw[hs,Ks _ _ _ hi];rfl)
   ·intro s hs;refine ke.lp (fun n m=>by simp only[abp,GX];exact rfl) ?_;have hl:s.length<=lf*4:=by rw[hs];simp only[iw,iU,iE,lf]at*;omega
    simp only[ij,decide_false,jF,hn,jE,aot hl];exact ke.pure (by rw[hs,iN];rfl)
  refine kY.ev (kY.GA (F:=fun n m=>V0 n m [d.name] 0 d) ?_);refine ke.lp (fun n m=>by simp only[V0,Sw];exact rfl) ?_;have hl:[d.name].length<=lf*4:=by simp [lf]
  refine ke.oQ (fun hc=>?_) fun hc=>?_
  ·have hi:0<d.q5.length:=by have:=jI hc;omega
   refine ke.Bz (i:=0) hi ?_;simp only[aot hl,jE];have e:IntKind.i64.wrap (0+1)=((1:Nat):Int):=rfl;rw[e];refine loop 1 _ hi ?_;rw[Ks _ _ _ hi];rfl
  ·have hz:d.q5=[]:=by
    have:=jJ hc;exact iX (by omega)
   simp only[hn,jE,aot hl];exact ke.pure (by rw[hz];rfl)
 |false=>
 cases d.kind==4 with
 |true=>
  simp only[jE,jF];refine kY.ev (kY.GA (F:=fun n m=>G1 n m 0 d []) ?_);refine ke.up (S:=List kj) (L:=fun n m i s=>G1 n m i d s) d.Aj.length (fun i s=>s=(d.Aj.take i).map (·.name)) _ ?_ ?_ 0 _ (by omega) rfl
  ·intro i s hi hs next
   refine ke.lp (fun n m=>by simp only[abq,GZ];exact rfl) ?_;have hl:s.length<=lf*4:=by rw[hs];simp only[iw,iU,iE,lf]at*;omega
   simp only[hi,ik,decide_true,jE,aot hl];refine ke.Bz hi ?_;rw[lj (by simp only[lf]at h2;omega)];exact next _ (by rw[hs,Ks _ _ _ hi])
  ·intro s hs;refine ke.lp (fun n m=>by simp only[abq,GZ];exact rfl) ?_;simp only[ij,decide_false,jF];exact ke.pure (by rw[hs,iN])
 |false=>exact Ev.pure
def aou(i:Int)(p:Int)(name:kj):Nat->List mI->Option Entry
 |_,[]=>none
 |k,c::cs=>bif c.name==name then some {kind:=4,abk:=i,ag7:=k,params:=p,type:=c.type} else aou i p name (k+1) cs
def aov(i:Int)(p:Int)(name:kj):Nat->List qH->Option Entry
 |_,[]=>none
 |k,c::cs=>bif c.name==name then some {kind:=6,abk:=i,ag7:=k,params:=p,type:=c.type} else aov i p name (k+1) cs
def aaZ(d:kz)(i:Int)(name:kj):Entry:=
 bif d.kind==0 then {kind:=0,abk:=i,ag7:=0,params:=d.params,type:=d.type} else
 bif d.kind==1 then {kind:=1,abk:=i,ag7:=0,params:=d.params,type:=d.type} else
 bif d.kind==2 then {kind:=2,abk:=i,ag7:=0,params:=d.params,type:=d.type} else
 bif d.kind==3 then bif name==d.name then {kind:=3,abk:=i,ag7:=0,params:=d.params,type:=d.type} else
  (aou i d.params name 0 d.q5).getD {kind:=5,abk:=i,ag7:=0,params:=d.oZ.params,type:=d.oZ.type}
 else(aov i d.params name 0 d.Aj).getD {kind:=0,abk:=i,ag7:=0,params:=d.params,type:=d.type}
theorem aow(d:kz)(h:DOK d)(i:Int)(name:kj):Ev (fun n=>Q1 n d i name) (aaZ d i name):=by
 obtain⟨h1,h2,h3⟩:=h;refine Ev.fn (fun n=>by simp only[Q1,kL,ZF,mB];exact rfl) ?_;unfold aaZ;cases d.kind==0 with
 |true=>exact Ev.pure
 |false=>
 cases d.kind==1 with
 |true=>exact Ev.pure
 |false=>
 cases d.kind==2 with
 |true=>exact Ev.pure
 |false=>
 simp only[jF];cases d.kind==3 with
 |true=>
  cases name==d.name with
  |true=>exact Ev.pure
  |false=>
   simp only[jE,jF];refine kY.ev (kY.GA (F:=fun n m=>G3 n m i name 0 d) ?_);refine ke.up (S:=Unit) (L:=fun n m k _=>G3 n m i name k d) d.q5.length (fun k _=>aou i d.params name 0 d.q5=aou i d.params name k (d.q5.drop k)) _ ?_ ?_ 0 () (by omega) rfl
   ·intro k s hk hs next
    refine ke.lp (fun n m=>by simp only[abr,G2,mB];exact rfl) ?_;simp only[hk,ik,decide_true,jE];refine ke.Bz hk ?_;rw[lj (by simp only[lf]at h1;omega)];rw[ir hk,aou]at hs;refine ke.oQ (fun hc=>?_) fun hc=>?_
    ·refine ke.Bz hk (ke.pure ?_);rw[hs,hc];rfl
    ·exact next () (by rw[hs,hc];rfl)
   ·intro s hs;refine ke.lp (fun n m=>by simp only[abr,G2,mB];exact rfl) ?_;simp only[ij,decide_false,jF];refine ke.pure ?_;rw[hs,iA];rfl
 |false=>
  simp only[jF];have ety:d.type=jW.mk d.type.kind d.type.index d.type.name d.type.kg d.type.kI:=by cases d.type;rfl
  refine kY.ev (kY.GA (F:=fun n m=>G5 n m i name 0 d i d.params d.type.kind d.type.index d.type.name d.type.kg d.type.kI) ?_);refine ke.up (S:=Unit) (L:=fun n m k _=>G5 n m i name k d i d.params d.type.kind d.type.index d.type.name d.type.kg d.type.kI) d.Aj.length (fun k _=>aov i d.params name 0 d.Aj=aov i d.params name k (d.Aj.drop k)) _ ?_ ?_ 0 () (by omega) rfl
  ·intro k s hk hs next
   refine ke.lp (fun n m=>by simp only[abt,G4,mB];exact rfl) ?_;simp only[hk,ik,decide_true,jE];refine ke.Bz hk ?_;rw[lj (by simp only[lf]at h2;omega)];rw[ir hk,aov]at hs;refine ke.oQ (fun hc=>?_) fun hc=>?_
   ·refine ke.Bz hk (ke.pure ?_);rw[hs,hc];rfl
   ·exact next () (by rw[hs,hc];rfl)
  ·intro s hs;refine ke.lp (fun n m=>by simp only[abt,G4,mB];exact rfl) ?_;simp only[ij,decide_false,jF];refine ke.pure ?_;rw[hs,iA,<-ety];rfl
def noEntry:Entry:={kind:=0,abk:=0,ag7:=0,params:=0,type:=jW.mk 0 0 [] [] []}
def K7(name:kj):Nat->List kz->Entry×Int
 |_,[]=>(noEntry,9)
 |i,d::ds=>bif (yY d).any (· ==name)then(aaZ d i name,0)else K7 name (i+1) ds
structure EOK(env:List kz):Prop where
 len:env.length<=lf
 ds:∀d∈env,d.kQ<=lf
theorem Zn(env:List kz)(h:EOK env)(name:kj):Ev (fun n=>KT n env name) (K7 name 0 env):=by
 have hl:=h.len;refine Ev.fn (fun n=>by simp only[KT,kL,adS,mB];exact rfl) ?_;refine kY.ev (kY.GA (F:=fun n m=>alM n m env name 0) ?_);refine ke.up (S:=Unit) (L:=fun n m k _=>alM n m env name k) env.length (fun k _=>K7 name 0 env=K7 name k (env.drop k)) _ ?_ ?_ 0 () (by omega) rfl
 ·intro k s hk hs next
  refine ke.lp (fun n m=>by simp only[afd,alC,mB];exact rfl) ?_;simp only[hk,ik,decide_true,jE];refine ke.Bz hk ?_;have hd:=DOK.of (h.ds _ (il hk));rw[lj (by simp only[lf]at hl;omega)];rw[ir hk,K7]at hs;refine ke.oU ((Vw _ hd).tot (Q:=(· =yY env[k])) rfl) fun x hx=>?_
  subst hx;refine ke.oU ((aeN _ name (by have:=Xx hd;simp only[lf,xD]at*;omega)).tot (Q:=(· =(yY env[k]).any (· ==name))) rfl) fun x hx=>?_
  subst hx;refine ke.oQ (fun hc=>?_) fun hc=>?_
  ·refine ke.Bz hk ?_;refine ke.oU ((aow _ hd k name).tot (Q:=(· =aaZ env[k] k name)) rfl) fun x hx=>ke.pure ?_
   rw[hs,hc,hx];rfl
  ·exact next () (by rw[hs,hc];rfl)
 ·intro s hs;refine ke.lp (fun n m=>by simp only[afd,alC,mB];exact rfl) ?_;simp only[ij,decide_false,jF];refine ke.pure ?_;rw[hs,iA];rfl
theorem aBw{i p:Int}{name:kj}:∀{k:Nat}{cs:List mI}{e:Entry},aou i p name k cs=some e->e.kind=4/\e.abk=i/\∃j:Nat,e.ag7=j/\k<=j/\j<k+cs.length
 |k,[],e,h=>by simp [aou]at h
 |k,c::cs,e,h=>by
  rw[aou]at h;cases hc:c.name==name with
  |true=>
   rw[hc,jE,Option.some.injEq]at h;subst h;exact⟨rfl,rfl,k,rfl,jp _,by simp⟩
  |false=>
   rw[hc,jF]at h;obtain⟨h1,h2,j,h3,h4,h5⟩:=aBw h;exact⟨h1,h2,j,h3,by omega,by rw[iw];omega⟩
theorem aE5{i p:Int}{name:kj}:∀{k:Nat}{cs:List qH}{e:Entry},aov i p name k cs=some e->e.kind=6/\e.abk=i
 |k,[],e,h=>by simp [aov]at h
 |k,c::cs,e,h=>by
  rw[aov]at h;cases hc:c.name==name with
  |true=>
   rw[hc,jE,Option.some.injEq]at h;subst h;exact⟨rfl,rfl⟩
  |false=>
   rw[hc,jF]at h;exact aE5 h
theorem awV(d:kz)(i:Int)(name:kj):(aaZ d i name).abk=i/\((aaZ d i name).kind=4->∃j:Nat,(aaZ d i name).ag7=j/\j<d.q5.length)/\((aaZ d i name).kind=3->d.kind=3/\name=d.name):=by
 unfold aaZ;cases h0:d.kind==0 with
 |true=>exact⟨rfl,fun h=>by simp at h,fun h=>by simp at h⟩
 |false=>
 cases h1:d.kind==1 with
 |true=>exact⟨rfl,fun h=>by simp at h,fun h=>by simp at h⟩
 |false=>
 cases h2:d.kind==2 with
 |true=>exact⟨rfl,fun h=>by simp at h,fun h=>by simp at h⟩
 |false=>
 cases h3:d.kind==3 with
 |true=>
  simp only[jE,jF];cases hn:name==d.name with
  |true=>exact⟨rfl,fun h=>by simp at h,fun _=>⟨jL.1 h3,jL.1 hn⟩⟩
  |false=>
   simp only[jF];cases hc:aou i d.params name 0 d.q5 with
   |none=>exact⟨rfl,fun h=>by simp at h,fun h=>by simp at h⟩
   |some e=>
    obtain⟨e1,e2,j,e3,e4,e5⟩:=aBw hc;exact⟨e2,fun _=>⟨j,e3,by omega⟩,fun h=>absurd (e1.symm.trans h) (by decide)⟩
 |false=>
  simp only[jF];cases hc:aov i d.params name 0 d.Aj with
  |none=>exact⟨rfl,fun h=>by simp at h,fun h=>by simp at h⟩
  |some e=>
   obtain⟨e1,e2⟩:=aE5 hc;exact⟨e2,fun h=>absurd (e1.symm.trans h) (by decide),fun h=>absurd (e1.symm.trans h) (by decide)⟩
theorem aBx{name:kj}:∀{k:Nat}{env:List kz},(K7 name k env).2=0->∃(j:Nat)(hj:j<env.length),(K7 name k env).1.abk=(k+j:Nat)/\(K7 name k env).1=aaZ env[j] (k+j:Nat) name/\(yY env[j]).any (· ==name)=true
 |k,[],h=>by simp [K7]at h
 |k,d::ds,h=>by
  rw[K7]at h ⊢;cases hc:(yY d).any (· ==name)with
  |true=>
   simp only[jE];exact⟨0,by simp,(awV d k name).1,rfl,hc⟩
  |false=>
   rw[hc,jF]at h;simp only[jF];obtain⟨j,hj,h1,h2,h3⟩:=aBx h;refine⟨j+1,by simp;omega,?_,?_,h3⟩
   ·rw[h1];omega
   ·rw[h2];have:((k+1+j:Nat):Int)=((k+(j+1):Nat):Int):=by omega
    rw[this];rfl
theorem aox(t:jW)(h:t.kQ<=lf):kY (fun n=>aRb n t) q4:=by
 refine kY.fn (fun n=>by simp only[aRb,kL,aea,mB];exact rfl) ?_;exact kY.bind ((aaY t (jW.mk 0 0 [] [] []) (Bb h)).tot (Q:=q4) trivial) fun x _=>kY.pure trivial
structure Xy(d:kz):Prop where
 ajp:DOK d
 type:d.type.kQ<=lf
 value:d.value.kQ<=lf
 aIL:d.oZ.type.kQ<=lf
 rl:d.oZ.yA.length<=lf
 yA:∀t∈d.oZ.yA,t.kQ<=lf
 cts:∀c∈d.q5,c.type.kQ<=lf
 fns:∀f∈d.Aj,f.type.kQ<=lf/\f.tA.kQ<=lf/\f.name.length<=lf
 cns:∀c∈d.q5,c.name.length<=lf
theorem Xy.q5(h:Xy d):d.q5.length<=lf:=h.ajp.q5
theorem Xy.Aj(h:Xy d):d.Aj.length<=lf:=h.ajp.Aj
theorem Xy.name(h:Xy d):d.name.length<=lf:=h.ajp.name
theorem Xy.of(h:d.kQ<=lf):Xy d:=by
 have h0:=DOK.of h;rw[kz.kQ]at h;have hl3:qB jW.kQ d.oZ.yA<d.oZ.kQ:=by rw[kV.kQ];omega
 have hl4:=uR jW.vV d.oZ.yA;have hl5:d.oZ.type.kQ<d.oZ.kQ:=by rw[kV.kQ];omega
 refine {ajp:=h0,type:=by omega,value:=by omega,aIL:=by omega,rl:=by omega,yA:=fun t ht=>?_,cts:=fun c hc=>?_,fns:=fun f hf=>?_,cns:=fun c hc=>?_}
 ·have:=uQ (f:=jW.kQ) ht;omega
 ·have:=uQ (f:=mI.kQ) hc;rw[mI.kQ]at this;omega
 ·have:=uQ (f:=qH.kQ) hf;rw[qH.kQ]at this;exact⟨by omega,by omega,by omega⟩
 ·have:=uQ (f:=mI.kQ) hc;rw[mI.kQ]at this;omega
theorem aDU(d:kz)(h:Xy d):kY (fun n=>Vq n d) q4:=by
 refine kY.fn (fun n=>by simp only[Vq,kL,aRe,mB];exact rfl) ?_
 repeat' (first|exact kY.pure trivial|refine kY.oQ (fun _=>?_) (fun _=>?_)|refine kY.bind (aox _ h.aIL) (fun x _=>?_)|refine kY.bind (aox _ h.value) (fun x _=>?_)|refine kY.bind (aox _ h.type) (fun x _=>?_))
theorem aqu(t:jW):kY (fun n=>Qu n t) q4:=by
 refine kY.fn (fun n=>by simp only[Qu,kL,Sv,mB];exact rfl) ?_
 have key:∀(t:jW)(v:Int),ke (fun n m=>C4 n m v t) q4:=by
  intro t;induction h:t.kQ using iy generalizing t with
  |ind k ih=>
   intro v;refine ke.lp (fun n m=>by simp only[alQ,Ij,mB];exact rfl) ?_;refine ke.oQ (fun _=>?_) fun _=>ke.pure trivial
   refine ke.oQ (fun hc=>?_) fun _=>ke.pure trivial
   have hl:1<t.kI.length:=by have:=jL.1 hc;omega
   refine ke.Bz (i:=1) hl ?_;exact ih _ (by rw[<-h];exact t.Cl (il hl)) _ rfl _
 exact kY.GA (F:=fun n m=>C4 n m 0 t) (key t 0)
theorem aGj(d:kz)(h:Xy d):kY (fun n=>YD n d) q4:=by
 have h1:=h.q5;refine kY.fn (fun n=>by simp only[YD,kL,Z9,mB];exact rfl) ?_;refine kY.bind (aqu _) fun x _=>?_
 refine kY.GA (F:=fun n m=>Ho n m (decide (d.GS<=x)) 0 d) ?_;refine ke.up (S:=Bool) (L:=fun n m i s=>Ho n m s i d) d.q5.length (fun _ _=>True) q4 ?_ ?_ 0 _ (by omega) trivial
 ·intro i s hi _ next
  refine ke.lp (fun n m=>by simp only[abL,Hl,mB];exact rfl) ?_;simp only[hi,ik,decide_true,jE];rw[lj (by simp only[lf]at h1;omega)];refine ke.oQ (fun _=>?_) fun _=>next _ trivial
  refine ke.Bz hi ?_;exact ke.oU (aqu _) fun y _=>next _ trivial
 ·intro s _;refine ke.lp (fun n m=>by simp only[abL,Hl,mB];exact rfl) ?_;simp only[ij,decide_false,jF];exact ke.pure trivial
theorem aDV(d:kz)(h:Xy d):kY (fun n=>Vm n d) (fun r=>r=0->0<=d.GS/\0<=d.params/\d.params<=8):=by
 have h1:=h.Aj;refine kY.fn (fun n=>by simp only[Vm,kL,WH,mB];exact rfl) ?_;have bad:∀k:Int,k≠0->(k=0->0<=d.GS/\0<=d.params/\d.params<=8):=fun k hk e=>absurd e hk
 refine kY.oQ (fun _=>kY.pure (bad 2 (by decide))) fun hp=>?_
 refine kY.oQ (fun _=>kY.pure (bad 2 (by decide))) fun hp8=>?_
 refine kY.oQ (fun _=>kY.pure (bad 2 (by decide))) fun hf=>?_
 have good:0<=d.GS/\0<=d.params/\d.params<=8:=by
  have a:=jJ hp;have b:=jJ hp8;have c:=jJ hf;omega
 refine kY.imp (P:=q4) ?_ fun _ _ _=>good
 have loop:kY (fun n=>By n n 0 d) q4:=by
  refine kY.GA (F:=fun n m=>By n m 0 d) ?_;refine ke.up (S:=Unit) (L:=fun n m i _=>By n m i d) d.Aj.length (fun _ _=>True) q4 ?_ ?_ 0 () (by omega) trivial
  ·intro i s hi _ next
   refine ke.lp (fun n m=>by simp only[YS,EZ,mB];exact rfl) ?_;simp only[hi,ik,decide_true,jE];rw[lj (by simp only[lf]at h1;omega)];refine ke.Bz hi ?_;refine ke.oQ (fun _=>ke.pure trivial) fun _=>?_
   refine ke.Bz hi ?_;exact ke.oQ (fun _=>ke.pure trivial) fun _=>next s trivial
  ·intro s _;refine ke.lp (fun n m=>by simp only[YS,EZ,mB];exact rfl) ?_;simp only[ij,decide_false,jF]
   repeat' (first|exact ke.pure trivial|refine ke.oQ (fun _=>?_) (fun _=>?_)|refine ke.oU (aGj d h) (fun x _=>?_))
 repeat' (first|exact kY.pure trivial|exact loop|refine kY.oQ (fun _=>?_) (fun _=>?_))
theorem aDW(h:Xy d):∀s∈yY d,s.length<=lf+4:=by
 have hn:=h.name;intro s hs;have one:∀{p:Prop},s=d.name->s.length<=lf+4:=fun e=>by rw[e];omega
 unfold yY at hs;cases h0:d.kind==0 with
 |true=>rw[h0]at hs;simp only[jE,iH]at hs;rw[hs];omega
 |false=>
 cases h1:d.kind==1 with
 |true=>rw[h0,h1]at hs;simp only[jE,jF,iH]at hs;rw[hs];omega
 |false=>
 cases h2:d.kind==2 with
 |true=>rw[h0,h1,h2]at hs;simp only[jE,jF,iH]at hs;rw[hs];omega
 |false=>
 cases h3:d.kind==3 with
 |true=>
  rw[h0,h1,h2,h3]at hs;simp only[jE,jF,iP,List.mem_cons,iV,List.mem_map,iH,List.not_mem_nil,or_false]at hs;rcases hs with rfl|⟨c,hc,rfl⟩|rfl
  ·omega
  ·have:=h.cns c hc;omega
  ·rw[iv];simp only[aLc,iw,iC];omega
 |false=>
 cases h4:d.kind==4 with
 |true=>
  rw[h0,h1,h2,h3,h4]at hs;simp only[jE,jF,List.mem_map]at hs;obtain⟨c,hc,rfl⟩:=hs;have:=(h.fns c hc).2.2;omega
 |false=>rw[h0,h1,h2,h3,h4]at hs;simp at hs
theorem avT(env:List kz)(he:EOK env)(d:kz)(h:Xy d):kY (fun n=>KG n env d) q4:=by
 refine kY.fn (fun n=>by simp only[KG,kL,No,mB];exact rfl) ?_;refine kY.bind ((Vw d h.ajp).tot (Q:=(· =yY d)) rfl) fun x hx=>?_
 subst hx;have hl:=Xx h.ajp;have hm:=aDW h;generalize yY d=l at hl hm;refine kY.GA (F:=fun n m=>A2 n m env l 0) ?_;refine ke.up (S:=Unit) (L:=fun n m i _=>A2 n m env l i) l.length (fun _ _=>True) q4 ?_ ?_ 0 () (by omega) trivial
 ·intro i s hi _ next
  refine ke.lp (fun n m=>by simp only[RJ,AZ,mB];exact rfl) ?_;have d2:decide ((0:Int)<=(i:Int)/\(i:Int)<=(l.length:Int)/\(l.length:Int)<=(l.length:Int))=true:=jG (by omega);simp only[hi,ik,decide_true,jE,d2,iF];rw[lj (by simp only[lf]at hl;omega)];refine ke.Bz hi ?_;have hs:=hm _ (il hi);refine ke.oU (Xw _ (by simp only[lf,xD]at*;omega)) fun x _=>?_
  refine ke.oQ (fun _=>?_) fun _=>ke.pure trivial
  refine ke.Bz hi ?_;refine ke.oU ((Zn env he l[i]).tot (Q:=q4) trivial) fun x _=>?_
  refine ke.oQ (fun _=>ke.pure trivial) fun _=>?_
  refine ke.Bz hi ?_;refine ke.oU ((aeN (l.take i) l[i] (by rw[iE];simp only[lf,xD]at*;omega)).tot (Q:=q4) trivial) fun x _=>?_
  exact ke.oQ (fun _=>ke.pure trivial) fun _=>next s trivial
 ·intro s _;refine ke.lp (fun n m=>by simp only[RJ,AZ,mB];exact rfl) ?_;simp only[ij,decide_false,jF];exact ke.pure trivial
structure ZOK(z:j6):Prop where
 env:EOK z.env
 own:z.own.length<=lf+2
 d:Xy z.d
theorem avU(z:j6)(h:ZOK z):∀t:jW,t.kQ<=lf->kY (fun n=>ve n z t) q4:=by
 have ho:=h.own;intro t;induction hb:t.kQ using iy generalizing t with
 |ind k ih=>
  intro hk;have hl:=t.Kr;refine kY.fn (fun n=>by simp only[ve,kL,Nr,mB];exact rfl) ?_
  have loop:kY (fun n=>xF (ve n) n n 0 z t) q4:=by
   refine kY.GA (F:=fun n m=>xF (ve n) n m 0 z t) ?_;refine ke.up (S:=Unit) (L:=fun n m i _=>xF (ve n) n m i z t) t.kI.length (fun _ _=>True) q4 ?_ ?_ 0 () (by omega) trivial
   ·intro i s hi _ next
    refine ke.lp (fun n m=>by simp only[RL,A5,mB];exact rfl) ?_;simp only[hi,ik,decide_true,jE];rw[lj (by simp only[lf]at hk;omega)];refine ke.Bz hi ?_;have hm:=t.Cl (il hi);refine ke.oU (ih _ (by omega) _ rfl (by omega)) fun x _=>?_
    exact ke.oQ (fun _=>ke.pure trivial) fun _=>next s trivial
   ·intro s _;refine ke.lp (fun n m=>by simp only[RL,A5,mB];exact rfl) ?_;simp only[ij,decide_false,jF];exact ke.pure trivial
  repeat' (first|exact kY.pure trivial|exact loop|refine kY.oQ (fun _=>?_) (fun _=>?_)|refine kY.bind ((Zn z.env h.env t.name).tot (Q:=q4) trivial) (fun x _=>?_)|refine kY.bind ((aeN z.own t.name (by simp only[lf,xD]at*;omega)).tot (Q:=q4) trivial) (fun x _=>?_)|refine kY.bind ((aow z.d h.d.ajp _ t.name).tot (Q:=q4) trivial) (fun x _=>?_))
theorem K8(z:j6)(h:ZOK z)(t:jW)(a b:Int)(hk:t.kQ<=lf):kY (fun n=>IB n z t a b) q4:=by
 refine kY.fn (fun n=>by simp only[IB,kL,aRf,mB];exact rfl) ?_;refine kY.bind (arH t a b 0 0 (Bb hk)) fun x _=>?_
 refine kY.oQ (fun _=>kY.pure trivial) fun _=>?_
 exact kY.bind (avU z h t hk) fun x _=>kY.pure trivial
theorem ayJ:∀(t u:ld),t.kQ<=lf->kY (fun n=>yn n t u) q4:=by
 intro t;induction h:t.kQ using iy generalizing t with
 |ind k ih=>
  intro u hk;have hl:=t.aeJ;have hl2:=t.ayC;refine kY.fn (fun n=>by simp only[yn,kL,Qh,mB];exact rfl) ?_;refine kY.oQ (fun _=>kY.pure trivial) fun _=>?_
  refine kY.oQ (fun _=>kY.pure trivial) fun _=>?_
  refine kY.bind ((aaY t.body u.body (Bb (by omega))).tot (Q:=q4) trivial) fun x _=>?_
  refine kY.oQ (fun _=>?_) fun _=>kY.pure trivial
  refine kY.oQ (fun _=>kY.pure trivial) fun hlen=>?_
  have hlen:t.oe.length=u.oe.length:=by
   have:=hlen;rw[bne,je,jL]at this;omega
  refine kY.GA (F:=fun n m=>BR (yn n) n m 0 t u) ?_;refine ke.up (S:=Unit) (L:=fun n m i s=>BR (yn n) n m i t u) t.oe.length (fun _ _=>True) q4 ?_ ?_ 0 () (by omega) trivial
  ·intro i s hi _ next
   refine ke.lp (fun n m=>by simp only[UL,BQ,mB];exact rfl) ?_;simp only[hi,ik,decide_true,jE];rw[lj (by simp only[lf]at hk;omega)];refine ke.Bz hi (ke.Bz (by omega) ?_);have hm:=t.Cl (il hi);refine ke.oQ (fun _=>?_) fun _=>ke.pure trivial
   refine ke.oQ (fun _=>?_) fun _=>ke.pure trivial
   refine ke.oU (ih _ (by omega) _ rfl _ (by omega)) fun x _=>?_
   exact ke.oQ (fun _=>next s trivial) fun _=>ke.pure trivial
  ·intro s _;refine ke.lp (fun n m=>by simp only[UL,BQ,mB];exact rfl) ?_;simp only[ij,decide_false,jF];exact ke.pure trivial
theorem aDX(d:kz)(h:Xy d)(j:Nat)(hj:j<d.q5.length):kY (fun n=>Vh n d j) q4:=by
 refine kY.fn (fun n=>by simp only[Vh,kL,Wq,mB];exact rfl) ?_;refine kY.Bz hj ?_;obtain⟨r,_,hr,_⟩:=aNa d.q5[j].type (h.cts _ (il hj));exact kY.bind (hr.tot (Q:=q4) trivial) fun x _=>kY.pure trivial
theorem aDY(z:j6)(h:ZOK z):∀(t:ld)(a b:Int),t.kQ<=lf->kY (fun n=>BV n z t a b) q4:=by
 intro t;induction hb:t.kQ using iy generalizing t with
 |ind k ih=>
  intro a b hk;have hl:=t.aeJ;have hl2:=t.ayC;refine kY.fn (fun n=>by simp only[BV,kL,Xb,mB];exact rfl) ?_;refine kY.oQ (fun _=>kY.pure trivial) fun _=>?_
  refine kY.oQ (fun _=>?_) fun _=>?_
  ·refine kY.oQ (fun _=>kY.pure trivial) fun _=>?_
   refine kY.oQ (fun _=>kY.pure trivial) fun _=>?_
   exact kY.bind (K8 z h _ _ _ (by omega)) fun x _=>kY.pure trivial
  refine kY.oQ (fun _=>?_) fun _=>kY.pure trivial
  refine kY.bind (aox _ (by omega)) fun x _=>?_
  refine kY.oQ (fun _=>?_) fun _=>kY.pure trivial
  refine kY.oQ (fun _=>kY.pure trivial) fun _=>?_
  refine kY.oQ (fun _=>kY.pure trivial) fun _=>?_
  refine kY.oQ (fun _=>kY.pure trivial) fun _=>?_
  refine kY.GA (F:=fun n m=>E8 (BV n) n m a b 0 z t) ?_;refine ke.up (S:=Unit) (L:=fun n m i s=>E8 (BV n) n m a b i z t) t.oe.length (fun _ _=>True) q4 ?_ ?_ 0 () (by omega) trivial
  ·intro i s hi _ next
   refine ke.lp (fun n m=>by simp only[aQX,E7,mB];exact rfl) ?_;simp only[hi,ik,decide_true,jE];rw[lj (by simp only[lf]at hk;omega)];refine ke.Bz hi ?_;have hm:=t.Cl (il hi);refine ke.oU ((Zn z.env h.env t.oe[i].XE).tot (Q:=(· =K7 t.oe[i].XE 0 z.env)) rfl) fun x hx=>?_
   refine ke.oQ (fun _=>ke.pure trivial) fun h0=>?_
   refine ke.oQ (fun _=>ke.pure trivial) fun h4=>?_
   refine ke.oQ (fun _=>?_) fun _=>?_
   ·refine ke.oU (ayJ _ _ (by omega)) fun y _=>?_
    exact ke.oQ (fun _=>next s trivial) fun _=>ke.pure trivial
   ·rw[bne,je,jL]at h0 h4;rw[hx]at h0 h4 ⊢;obtain⟨j,hj,e1,e2,_⟩:=aBx h0;have hat:=(awV z.env[j] (0+j:Nat) t.oe[i].XE).2.1;rw[<-e2]at hat;obtain⟨q,hq,hql⟩:=hat h4;have ej:(K7 t.oe[i].XE 0 z.env).1.abk=(j:Int):=by rw[e1];omega
    rw[ej,hq];refine ke.Bz hj ?_;refine ke.oU (aDX _ (Xy.of (h.env.ds _ (il hj))) q hql) fun y _=>?_
    refine ke.oU (ih _ (by omega) _ rfl _ _ (by omega)) fun y _=>?_
    exact ke.oQ (fun _=>ke.pure trivial) fun _=>next s trivial
  ·intro s _;refine ke.lp (fun n m=>by simp only[aQX,E7,mB];exact rfl) ?_;simp only[ij,decide_false,jF];exact ke.pure trivial
theorem kz.aPa(d:kz):({kind:=d.kind,name:=d.name,params:=d.params,type:=jW.mk d.type.kind d.type.index d.type.name d.type.kg d.type.kI,value:=jW.mk d.value.kind d.value.index d.value.name d.value.kg d.value.kI,GS:=d.GS,q5:=d.q5,oZ:={params:=d.oZ.params,type:=jW.mk d.oZ.type.kind d.oZ.type.index d.oZ.type.name d.oZ.type.kg d.oZ.type.kI,yA:=d.oZ.yA},Aj:=d.Aj}:kz)=d:=by
 have h:∀t:jW,jW.mk t.kind t.index t.name t.kg t.kI=t:=fun t=>by cases t;rfl
 rw[h,h,h]
theorem aDZ(d:kz)(h:Xy d)(z:j6)(hz:ZOK z):kY (fun n=>DE n n 0 d z) q4:=by
 have hr:=h.rl;refine kY.GA (F:=fun n m=>DE n m 0 d z) ?_;refine ke.up (S:=Unit) (L:=fun n m i _=>DE n m i d z) d.oZ.yA.length (fun _ _=>True) q4 ?_ ?_ 0 () (by omega) trivial
 ·intro i s hi _ next
  refine ke.lp (fun n m=>by simp only[acv,HN,mB];exact rfl) ?_;simp only[hi,ik,decide_true,jE];rw[lj (by simp only[lf]at hr;omega)];refine ke.Bz hi ?_;refine ke.oU (K8 z hz _ _ _ (h.yA _ (il hi))) fun x _=>?_
  exact ke.oQ (fun _=>ke.pure trivial) fun _=>next s trivial
 ·intro s _;refine ke.lp (fun n m=>by simp only[acv,HN,mB];exact rfl) ?_;simp only[ij,decide_false,jF];exact ke.pure trivial
theorem aD0(env:List kz)(he:EOK env)(d:kz)(h:Xy d)(h3:d.kind=3):kY (fun n=>DF n n 0 d {env:=env,own:=[d.name],d:=d}) q4:=by
 have hr:=h.q5;have hz:ZOK {env:=env,own:=[d.name],d:=d}:=⟨he,by simp [lf],h⟩;refine kY.GA (F:=fun n m=>DF n m 0 d {env:=env,own:=[d.name],d:=d}) ?_;refine ke.up (S:=Unit) (L:=fun n m i _=>DF n m i d {env:=env,own:=[d.name],d:=d}) d.q5.length (fun _ _=>True) q4 ?_ ?_ 0 () (by omega) trivial
 ·intro i s hi _ next
  refine ke.lp (fun n m=>by simp only[acw,HO,mB];exact rfl) ?_;simp only[hi,ik,decide_true,jE];rw[lj (by simp only[lf]at hr;omega)];refine ke.Bz hi ?_;refine ke.oU (K8 _ hz _ _ _ (h.cts _ (il hi))) fun x _=>?_
  exact ke.oQ (fun _=>ke.pure trivial) fun _=>next s trivial
 ·intro s _;refine ke.lp (fun n m=>by simp only[acw,HO,mB];exact rfl) ?_;simp only[ij,decide_false,jF];refine ke.oU ((Vw d h.ajp).tot (Q:=(· =yY d)) rfl) fun x hx=>?_
  subst hx;have hl:=Xx h.ajp
  have axp:1<=(yY d).length:=by
   unfold yY;rw[h3];show 1<=(d.name::d.q5.map (·.name)++[d.name++aLc]).length;simp
  generalize hL:yY d=l at hl axp
  have hw:IntKind.i64.wrap ((l.length:Int)-1)=((l.length-1:Nat):Int):=by
   rw[ri (by omega) (by simp only[lf]at hl;omega)];omega
  have d2:decide ((0:Int)<=((l.length-1:Nat):Int)/\((l.length-1:Nat):Int)<=(l.length:Int)/\(l.length:Int)<=(l.length:Int))=true:=jG (by omega);simp only[hw,d2,jE,iF];refine ke.oU (K8 {env:=env,own:=l.take (l.length-1),d:=d} ⟨he,by rw[iE];show min _ _<=_;omega,h⟩ _ _ _ h.aIL) fun x _=>?_
  refine ke.oQ (fun _=>ke.pure trivial) fun _=>?_
  exact ke.of1 (aDZ d h {env:=env,own:=l,d:=d} ⟨he,hl,h⟩)
theorem aD1(d:kz)(h:Xy d)(z:j6)(hz:ZOK z):kY (fun n=>DG n n 0 d z) q4:=by
 have hr:=h.Aj;refine kY.GA (F:=fun n m=>DG n m 0 d z) ?_;refine ke.up (S:=Unit) (L:=fun n m i _=>DG n m i d z) d.Aj.length (fun _ _=>True) q4 ?_ ?_ 0 () (by omega) trivial
 ·intro i s hi _ next
  refine ke.lp (fun n m=>by simp only[acy,HP,mB];exact rfl) ?_;simp only[hi,ik,decide_true,jE];rw[lj (by simp only[lf]at hr;omega)];refine ke.Bz hi (ke.Bz hi ?_);refine ke.oU (aDY z hz _ _ _ (h.fns _ (il hi)).2.1) fun x _=>?_
  exact ke.oQ (fun _=>ke.pure trivial) fun _=>next s trivial
 ·intro s _;refine ke.lp (fun n m=>by simp only[acy,HP,mB];exact rfl) ?_;simp only[ij,decide_false,jF];exact ke.pure trivial
theorem aD2(env:List kz)(he:EOK env)(d:kz)(h:Xy d):kY (fun n=>DH n n 0 d env d.kind d.name d.params d.type.kind d.type.index d.type.name d.type.kg d.type.kI d.value.kind d.value.index d.value.name d.value.kg d.value.kI d.GS d.q5 d.oZ.params d.oZ.type.kind d.oZ.type.index d.oZ.type.name d.oZ.type.kg d.oZ.type.kI d.oZ.yA d.Aj) q4:=by
 have hr:=h.Aj;have hz:ZOK {env:=env,own:=[],d:=d}:=⟨he,by simp,h⟩;refine kY.GA (F:=fun n m=>DH n m 0 d env d.kind d.name d.params d.type.kind d.type.index d.type.name d.type.kg d.type.kI d.value.kind d.value.index d.value.name d.value.kg d.value.kI d.GS d.q5 d.oZ.params d.oZ.type.kind d.oZ.type.index d.oZ.type.name d.oZ.type.kg d.oZ.type.kI d.oZ.yA d.Aj) ?_;refine ke.up (S:=Unit) (L:=fun n m i _=>DH n m i d env d.kind d.name d.params d.type.kind d.type.index d.type.name d.type.kg d.type.kI d.value.kind d.value.index d.value.name d.value.kg d.value.kI d.GS d.q5 d.oZ.params d.oZ.type.kind d.oZ.type.index d.oZ.type.name d.oZ.type.kg d.oZ.type.kI d.oZ.yA d.Aj) d.Aj.length (fun _ _=>True) q4 ?_ ?_ 0 () (by omega) trivial
 ·intro i s hi _ next
  refine ke.lp (fun n m=>by simp only[acz,HQ,mB];exact rfl) ?_;simp only[hi,ik,decide_true,jE,kz.aPa];rw[lj (by simp only[lf]at hr;omega)];refine ke.Bz hi ?_;refine ke.oU (K8 _ hz _ _ _ (h.fns _ (il hi)).1) fun x _=>?_
  exact ke.oQ (fun _=>ke.pure trivial) fun _=>next s trivial
 ·intro s _;refine ke.lp (fun n m=>by simp only[acz,HQ,mB];exact rfl) ?_;simp only[ij,decide_false,jF,kz.aPa];refine ke.oU ((Vw d h.ajp).tot (Q:=(· =yY d)) rfl) fun x hx=>?_
  subst hx;exact ke.of1 (aD1 d h {env:=env,own:=yY d,d:=d} ⟨he,Xx h.ajp,h⟩)
theorem aGk(env:List kz)(he:EOK env)(d:kz)(h:Xy d):kY (fun n=>Za n env d) q4:=by
 have hz:ZOK {env:=env,own:=[],d:=d}:=⟨he,by simp,h⟩;have v:=K8 {env:=env,own:=[],d:=d} hz d.value 0 d.params h.value;refine kY.fn (fun n=>by simp only[Za,kL,aaC,mB];exact rfl) ?_;refine kY.oQ (fun _=>kY.bind (K8 _ hz _ _ _ h.type) fun x _=>kY.oQ (fun _=>kY.pure trivial) fun _=>?_) fun _=>?_
 all_goals
  refine kY.oQ (fun _=>kY.bind v fun x _=>kY.pure trivial) fun _=>?_
  refine kY.oQ (fun _=>kY.bind v fun x _=>kY.pure trivial) fun _=>?_
  refine kY.oQ (fun h3=>aD0 env he d h (jL.1 h3)) fun _=>?_
  exact kY.oQ (fun _=>aD2 env he d h) fun _=>kY.pure trivial
def aBy(d:kz):Prop:=0<=d.GS/\0<=d.params/\d.params<=8
theorem aIM(env:List kz)(he:EOK env)(d:kz)(h:Xy d):kY (fun n=>aep n env d) (fun r=>r=0->aBy d):=by
 refine kY.fn (fun n=>by simp only[aep,kL,aeo,mB];exact rfl) ?_;refine kY.oQ (fun _=>kY.pure (by intro e;cases e)) fun _=>?_
 refine kY.oQ (fun _=>kY.pure (by intro e;cases e)) fun _=>?_
 refine kY.bind (aDU d h) fun x _=>?_
 refine kY.oQ (fun _=>?_) fun _=>kY.pure (by intro e;cases e)
 refine kY.bind (aDV d h) fun y hy=>?_
 refine kY.oQ (fun hc=>kY.pure fun e=>hy e) fun hc=>?_
 have good:aBy d:=by
  rw[bne,je,jL]at hc;exact hy hc
 refine kY.bind (avT env he d h) fun y _=>?_
 refine kY.oQ (fun _=>kY.pure fun _=>good) fun _=>?_
 exact kY.bind (aGk env he d h) fun x _=>kY.pure fun _=>good
theorem EOK.take{env:List kz}(h:EOK env)(k:Nat):EOK (env.take k):=⟨by rw[iE];have:=h.len;omega,fun d hd=>h.ds d (List.mem_of_mem_take hd)⟩
theorem aGl(env:List kz)(he:EOK env):kY (fun n=>Ze n env) (fun r=>r.2=0->∀d∈env,aBy d):=by
 have hl:=he.len;refine kY.fn (fun n=>by simp only[Ze,kL,aaN,mB];exact rfl) ?_;refine kY.oQ (fun _=>kY.pure (by intro e;cases e)) fun _=>?_
 refine kY.GA (F:=fun n m=>HU n m env 0) ?_;refine ke.up (S:=Unit) (L:=fun n m i _=>HU n m env i) env.length (fun i _=>∀d∈env.take i,aBy d) _ ?_ ?_ 0 () (by omega) (by simp)
 ·intro i s hi hI next
  refine ke.lp (fun n m=>by simp only[acE,HT,mB];exact rfl) ?_;have d2:decide ((0:Int)<=(i:Int)/\(i:Int)<=(env.length:Int)/\(env.length:Int)<=(env.length:Int))=true:=jG (by omega);simp only[hi,ik,decide_true,jE,d2,iF];rw[lj (by simp only[lf]at hl;omega)];refine ke.Bz hi ?_;refine ke.oU (aIM _ (he.take i) _ (Xy.of (he.ds _ (il hi)))) fun x hx=>?_
  refine ke.oQ (fun hc=>ke.pure fun e=>?_) fun hc=>next () ?_
  ·have e:x=0:=e;rw[e]at hc;cases hc
  ·rw[bne,je,jL]at hc;intro d hd;rw[iD hi,iV,iH]at hd;rcases hd with hd|rfl
   ·exact hI d hd
   ·exact hx hc
 ·intro s hI;refine ke.lp (fun n m=>by simp only[acE,HT,mB];exact rfl) ?_;simp only[ij,decide_false,jF];rw[iN]at hI;exact ke.pure fun _=>hI
theorem aIN(env:List kz)(he:EOK env):kY (fun n=>ajK n env) q4:=by
 have hl:=he.len;refine kY.fn (fun n=>by simp only[ajK,kL,aiz,mB];exact rfl) ?_;refine kY.GA (F:=fun n m=>NL n m env 0) ?_;refine ke.up (S:=Unit) (L:=fun n m i _=>NL n m env i) env.length (fun _ _=>True) q4 ?_ ?_ 0 () (by omega) trivial
 ·intro i s hi _ next
  refine ke.lp (fun n m=>by simp only[aiy,NK,mB];exact rfl) ?_;simp only[hi,ik,decide_true,jE];rw[lj (by simp only[lf]at hl;omega)];refine ke.oQ (fun _=>?_) fun _=>ke.pure trivial
  refine ke.Bz hi ?_;refine ke.oU (aor _ (he.ds _ (il hi))) fun x _=>?_
  exact ke.oQ (fun _=>next () trivial) fun _=>ke.pure trivial
 ·intro s _;refine ke.lp (fun n m=>by simp only[aiy,NK,mB];exact rfl) ?_;simp only[ij,decide_false,jF];exact ke.pure trivial
theorem aIO(env:List kz)(he:EOK env):kY (fun n=>aes n env) (fun r=>r=true->∀d∈env,aBy d):=by
 refine kY.fn (fun n=>by simp only[aes,kL,aer,mB];exact rfl) ?_;refine kY.bind (aIN env he) fun x _=>?_
 refine kY.oQ (fun _=>?_) fun _=>kY.pure (by intro e;cases e)
 exact kY.bind (aGl env he) fun x hx=>kY.pure fun e=>hx (jL.1 e)
def UY(l:List kj)(name:kj):kj:=l.foldr (fun x a=>x++46::a) name
theorem aD3(x:kj)(l:List kj)(name:kj):UY (x::l) name=x++46::UY l name:=rfl
theorem aBz(x y:kj)(r:List kj)(s:kj):jh (x::y::r) s=x++(s++jh (y::r) s):=by
 rw[Lib.join_cons,Lib.join_cons];simp [Lib.joinTail]
theorem apM(name:kj):∀l:List kj,jh (l++[name]) [46]=UY l name
 |[]=>Lib.join_one _ _
 |[x]=>by
  show jh [x,name] [46]=_;rw[aBz,Lib.join_one];rfl
 |x::y::r=>by
  have ih:=apM name (y::r);show jh (x::y::(r++[name])) [46]=_;rw[aBz];rw[iP]at ih;rw[ih];rfl
def aeO:List kj->Nat
 |[]=>0
 |x::l=>x.length+1+aeO l
theorem awW(name:kj):∀l:List kj,(UY l name).length=aeO l+name.length
 |[]=>by simp [UY,aeO]
 |x::l=>by rw[aD3,iv,iw,awW name l,aeO];omega
theorem awX:∀(l:List kj)(k:Nat),aeO (l.take k)<=aeO l
 |[],k=>by simp [aeO]
 |x::l,0=>by simp [aeO]
 |x::l,k+1=>by have:=awX l k;simp only[List.take_succ_cons,aeO];omega
theorem OA:∀(l:List kj),l.length<=aeO l
 |[]=>by simp [aeO]
 |x::l=>by have:=OA l;simp only[iw,aeO];omega
theorem ajq:∀{l:List kj}{x:kj},x∈l->x.length<=aeO l
 |y::l,x,h=>by
  simp only[List.mem_cons]at h;simp only[aeO];rcases h with rfl|h
  ·omega
  ·have:=ajq h;omega
def awY(c:UInt8):Bool:=(decide (97<=(c.toNat:Int))&&decide ((c.toNat:Int)<=122))||((decide (65<=(c.toNat:Int))&&decide ((c.toNat:Int)<=90))||((c.toNat:Int)==95))
def Zo:Bool->kj->Bool
 |b,[]=> !b
 |b,c::s=>bif awY c then Zo false s else bif b then false else bif ((c.toNat:Int)==46)then Zo true s else bif ((c.toNat:Int)==39)||(decide (48<=(c.toNat:Int))&&decide ((c.toNat:Int)<=57))then Zo false s else false
def Uc(s:kj):Bool:=Zo true s&&decide ((s.length:Int)<=64)
theorem auj[BEq W][LawfulBEq W](a b:W):(a==b)=(b==a):=by
 rw[jc,jL,jL];exact eq_comm
theorem EU(l:List kj)(s:kj)(hl:l.length<=lf*4):Ev (fun n=>oG n l s) (l.any (· ==s)):=by
 refine kY.ev ?_;refine kY.fn (fun n=>by simp only[oG,kL,B6,mB];exact rfl) ?_
 have h1:kY (fun n=>CB n l s) (fun r=>decide (0<=r)=l.any (· ==s)):=by
  refine kY.fn (fun n=>by simp only[CB,kL,Fz,mB];exact rfl) ?_;refine kY.GA (F:=fun n m=>wC n m l s l.length 0) ?_;refine ke.up (S:=Unit) (L:=fun n m i _=>wC n m l s l.length i) l.length (fun i _=>l.any (· ==s)=(l.drop i).any (· ==s)) _ ?_ ?_ 0 () (by omega) rfl
  ·intro i u hi hI next
   refine ke.lp (fun n m=>by simp only[JO,wB,mB];exact rfl) ?_;simp only[hi,ik,decide_true,jE];refine ke.Bz hi ?_;rw[Sh _ _ _ hi,auj]at hI;refine ke.oQ (fun hc=>ke.pure ?_) fun hc=>?_
   ·rw[hI,hc,iI];simp
   ·rw[lj (by simp only[lf]at hl;omega)];exact next u (by rw[hI,hc,iG])
  ·intro u hI;refine ke.lp (fun n m=>by simp only[JO,wB,mB];exact rfl) ?_;simp only[ij,decide_false,jF];refine ke.pure ?_;rw[hI,iA];rfl
 exact kY.bind h1 fun x hx=>kY.pure hx
theorem aoy(h:k<=lf*4):decide ((k+1)*16<=17592186044416)=true:=by
 simp only[lf]at h;simp only[jK];omega
theorem ayK(d:kz)(h:DOK d):Ev (fun n=>KA n d) (yY d):=by
 obtain⟨h1,h2,h3⟩:=h;refine Ev.fn (fun n=>by simp only[KA,kL,ML,mB];exact rfl) ?_;unfold yY;cases d.kind==0 with
 |true=>exact Ev.pure
 |false=>
 cases d.kind==1 with
 |true=>exact Ev.pure
 |false=>
 cases d.kind==2 with
 |true=>exact Ev.pure
 |false=>
 cases d.kind==3 with
 |true=>
  simp only[jE,jF];refine kY.ev (kY.GA (F:=fun n m=>AG n m d.q5 d.q5.length 0 d [d.name]) ?_);refine ke.up (S:=List kj) (L:=fun n m i s=>AG n m d.q5 d.q5.length i d s) d.q5.length (fun i s=>s=d.name::(d.q5.take i).map (·.name)) _ ?_ ?_ 0 _ (by omega) rfl
  ·intro i s hi hs next
   refine ke.lp (fun n m=>by simp only[Q5,AF,mB];exact rfl) ?_;have hl:s.length<=lf*4:=by rw[hs];simp only[iw,iU,iE,lf]at*;omega
   simp only[hi,ik,decide_true,jE,aoy hl];refine ke.Bz hi ?_;rw[lj (by simp only[lf]at h1;omega)];exact next _ (by rw[hs,Ks _ _ _ hi];rfl)
  ·intro s hs;refine ke.lp (fun n m=>by simp only[Q5,AF,mB];exact rfl) ?_;have hl:s.length<=lf*4:=by rw[hs];simp only[iw,iU,iE,lf]at*;omega
   have hn:decide (d.name.length<=9223372036854775803)=true:=by simp only[lf]at h3;simp only[jK];omega
   simp only[ij,decide_false,jF,hn,jE,aoy hl];exact ke.pure (by rw[hs,iN];rfl)
 |false=>
 cases d.kind==4 with
 |true=>
  simp only[jE,jF];refine kY.ev (kY.GA (F:=fun n m=>AI n m d.Aj d.Aj.length 0 []) ?_);refine ke.up (S:=List kj) (L:=fun n m i s=>AI n m d.Aj d.Aj.length i s) d.Aj.length (fun i s=>s=(d.Aj.take i).map (·.name)) _ ?_ ?_ 0 _ (by omega) rfl
  ·intro i s hi hs next
   refine ke.lp (fun n m=>by simp only[Q6,AH,mB];exact rfl) ?_;have hl:s.length<=lf*4:=by rw[hs];simp only[iw,iU,iE,lf]at*;omega
   simp only[hi,ik,decide_true,jE,aoy hl];refine ke.Bz hi ?_;rw[lj (by simp only[lf]at h2;omega)];exact next _ (by rw[hs,Ks _ _ _ hi])
  ·intro s hs;refine ke.lp (fun n m=>by simp only[Q6,AH,mB];exact rfl) ?_;simp only[ij,decide_false,jF];exact ke.pure (by rw[hs,iN])
 |false=>exact Ev.pure
structure SOK(st:kH):Prop where
 env:∀d∈st.env,DOK d
 aQk:st.env.length<=lf
 ns:aeO st.sB<=lf
 op:st.opens.length<=lf
 kE:∀o∈st.opens,o.length<=lf
def Ac(env:List kz)(s:kj):Bool:=env.any fun d=>(yY d).any (· ==s)
theorem ajr(st:kH)(h:SOK st)(s:kj):Ev (fun n=>A7 n st s) (Ac st.env s):=by
 have hl:=h.aQk;refine kY.ev ?_;refine kY.fn (fun n=>by simp only[A7,kL,Qj,mB];exact rfl) ?_
 have h1:kY (fun n=>qi n st.env s) (fun r=>r.2.1=Ac st.env s):=by
  refine kY.fn (fun n=>by simp only[qi,kL,rZ,mC];exact rfl) ?_
  have h2:kY (fun n=>qV n st.env s) (fun r=>decide (0<=r.2.1)=Ac st.env s):=by
   refine kY.fn (fun n=>by simp only[qV,kL,tf,mC];exact rfl) ?_;refine kY.GA (F:=fun n m=>oS n m st.env st.env.length 0 s) ?_;refine ke.up (S:=Unit) (L:=fun n m i _=>oS n m st.env st.env.length i s) st.env.length (fun i _=>Ac st.env s=Ac (st.env.drop i) s) _ ?_ ?_ 0 () (by omega) rfl
   ·intro i u hi hI next
    refine ke.lp (fun n m=>by simp only[wi,oR,mB];exact rfl) ?_;simp only[hi,ik,decide_true,jE];refine ke.Bz hi ?_;have hd:=h.env _ (il hi);unfold Ac at hI;rw[Sh _ _ _ hi]at hI
    have h3:Ev (fun n=>IA n st.env[i] s) ((s,()),(yY st.env[i]).any (· ==s),()):=by
     refine Ev.fn (fun n=>by simp only[IA,kL,KW,mB];exact rfl) ?_;exact Ev.bind (ayK _ hd) (Ev.bind (EU _ s (by have:=Xx hd;simp only[lf]at*;omega)) Ev.pure)
    refine ke.oU (h3.tot (Q:=(· =((s,()),(yY st.env[i]).any (· ==s),()))) rfl) fun x hx=>?_
    subst hx;refine ke.oQ (fun hc=>ke.pure ?_) fun hc=>?_
    ·simp only at hc;unfold Ac;rw[hI,hc,iI];simp
    ·simp only at hc;rw[lj (by simp only[lf]at hl;omega)];exact next u (by unfold Ac;rw[hI,hc,iG])
   ·intro u hI;refine ke.lp (fun n m=>by simp only[wi,oR,mB];exact rfl) ?_;simp only[ij,decide_false,jF];refine ke.pure ?_;rw[hI,iA];rfl
  exact kY.bind h2 fun x hx=>kY.pure hx
 exact kY.bind h1 fun x hx=>kY.pure hx
theorem aD4(c:UInt8):Ev (fun n=>Yp n (c.toNat:Int)) (awY c)/\Ev (fun n=>Ik n (c.toNat:Int)) (awY c):=by
 unfold awY;constructor
 ·refine Ev.fn (fun n=>by simp only[Yp,kL,ZN,mB];exact rfl) ?_;cases decide (97<=(c.toNat:Int))<;>cases decide ((c.toNat:Int)<=122)<;>cases decide (65<=(c.toNat:Int))<;>cases decide ((c.toNat:Int)<=90)<;>simp only[jE,jF,iM,jf,iI,iG]<;>exact Ev.pure
 ·refine Ev.fn (fun n=>by simp only[Ik,kL,MC,mB];exact rfl) ?_;cases decide (97<=(c.toNat:Int))<;>cases decide ((c.toNat:Int)<=122)<;>cases decide (65<=(c.toNat:Int))<;>cases decide ((c.toNat:Int)<=90)<;>simp only[jE,jF,iM,jf,iI,iG]<;>exact Ev.pure
theorem aBA(s:kj)(hl:s.length<=lf*4):Ev (fun n=>VB n s) (Uc s):=by
 refine kY.ev ?_;refine kY.fn (fun n=>by simp only[VB,kL,ah2,mB];exact rfl) ?_;refine kY.GA (F:=fun n m=>M9 n m s true s.length 0) ?_;refine ke.up (S:=Bool) (L:=fun n m i b=>M9 n m s b s.length i) s.length (fun i b=>Zo true s=Zo b (s.drop i)) _ ?_ ?_ 0 true (by omega) rfl
 ·intro i b hi hI next
  refine ke.lp (fun n m=>by simp only[ah1,M8,mB];exact rfl) ?_;simp only[hi,ik,decide_true,jE];refine ke.Bz hi ?_;rw[ir hi,Zo]at hI;rw[lj (by simp only[lf]at hl;omega)];refine ke.oU ((aD4 s[i]).1.tot (Q:=(· =awY s[i])) rfl) fun x hx=>?_
  subst hx;cases h1:awY s[i]with
  |true=>
   rw[h1,jE]at hI;simp only[jE];exact next _ hI
  |false=>
   rw[h1,jF]at hI;cases b with
   |true=>exact ke.pure (by simp only[jE]at hI;unfold Uc;rw[hI];rfl)
   |false=>
    simp only[jF]at hI ⊢;cases h2:((s[i].toNat:Int)==46)with
    |true=>
     rw[h2,jE]at hI;simp only[jE];exact next _ hI
    |false=>
     rw[h2,jF]at hI;simp only[jF];cases h3:((s[i].toNat:Int)==39)with
     |true=>
      rw[h3,iI,jE]at hI;have e:((s[i].toNat:Int) !=39)=false:=by rw[bne,h3];rfl
      simp only[e,jF];refine ke.oQ (fun _=>next _ hI) fun _=>ke.oQ (fun _=>next _ hI) fun _=>next _ hI
     |false=>
      rw[h3,iG]at hI;have e:((s[i].toNat:Int) !=39)=true:=by rw[bne,h3];rfl
      simp only[e,jE];refine ke.oQ (fun h4=>ke.pure ?_) fun h4=>ke.oQ (fun h5=>ke.pure ?_) fun h5=>next _ ?_
      ·have:decide (48<=(s[i].toNat:Int))=false:=jH (by have:=jI h4;omega);rw[this]at hI;unfold Uc;rw[hI];rfl
      ·have:decide ((s[i].toNat:Int)<=57)=false:=jH (by have:=jI h5;omega);rw[this,Bool.and_false]at hI;unfold Uc;rw[hI];rfl
      ·have a1:decide (48<=(s[i].toNat:Int))=true:=jG (by have:=jJ h4;omega);have a2:decide ((s[i].toNat:Int)<=57)=true:=jG (by have:=jJ h5;omega);rw[a1,a2]at hI;exact hI
 ·intro b hI;refine ke.lp (fun n m=>by simp only[ah1,M8,mB];exact rfl) ?_;simp only[ij,decide_false,jF];rw[iA,Zo]at hI;cases b with
  |true=>exact ke.pure (by unfold Uc;rw[hI];rfl)
  |false=>exact ke.pure (by unfold Uc;rw[hI];simp)
theorem aLd(l:List kj)(sep:kj)(h:(jh l sep).length<=140737488355328)(hl:l.length<=140737488355328):Ev (fun n=>strings_Join n l sep) (jh l sep):=by
 refine Ev.fn (G:=fun _=>some (jh l sep)) (fun n=>?_) Ev.pure;simp only[strings_Join,jG h,jG hl,Bool.and_self,jE]
theorem aBB(l:List kj)(h:l.length<=lf*4):Ev (fun n=>tI n l) ((l,()),()):=by
 refine⟨1,fun n hn=>?_⟩;obtain⟨k,rfl⟩:∃k,n=k+1:=⟨n-1,by omega⟩
 match l,h with
 |[],_=>rfl
 |x::xs,h=>
  simp only[lf,iw]at h;show(bif decide ((xs.length+1)*16<=17592186044416)then some ((x::xs,()),())else none)=_;rw[jG (by omega)];rfl
theorem awZ(l:List kj)(name:kj)(h:aeO l<=lf*2)(hn:name.length<=lf*2):Ev (fun n=>yH n l name) (UY l name):=by
 have hll:=OA l;refine Ev.fn (fun n=>by simp only[yH,kL,Je,mB];exact rfl) ?_;refine Ev.bind (aBB l (by omega)) ?_;simp only[aoy (k:=l.length) (by omega),jE];have hj:=awW name l;refine Ev.bind (x:=UY l name) ?_ Ev.pure;have:=aLd (l++[name]) [46] (by rw[apM,hj];simp only[lf]at h hn;omega) (by rw[iv];simp only[lf,iz]at*;omega)
 rwa [apM]at this
def aeP(env:List kz)(ns:List kj)(name:kj):Nat->Option kj
 |0=>none
 |k+1=>bif Ac env (UY (ns.take (k+1)) name)then some (UY (ns.take (k+1)) name)else aeP env ns name k
def UZ(env:List kz)(opens:List kj)(name:kj):List kj:=(opens.map fun o=>o++[46]++name).filter (Ac env)
def aBC(env:List kz)(name:kj):List kj->kj×Int
 |[]=>bif Ac env name then(name,0)else([],9)
 |s::r=>bif r.all (· ==s)then(s,0)else([],8)
def auk(st:kH)(name:kj):kj×Int:=
 bif Uc name then
  match aeP st.env st.sB name st.sB.length with
  |some s=>(s,0)
  |none=>aBC st.env name (UZ st.env st.opens name)
 else([],29)
theorem avV{env:List kz}{opens:List kj}{name:kj}(hi:i<opens.length)(h:Ac env (opens[i]++[46]++name)=true):
 UZ env (opens.drop i) name=(opens[i]++[46]++name)::UZ env (opens.drop (i+1)) name:=by
 rw[ir hi];simp only[UZ,jy];rw[List.filter_cons_of_pos (by exact h)]
theorem ayL{env:List kz}{opens:List kj}{name:kj}(hi:i<opens.length)(h:Ac env (opens[i]++[46]++name)=false):
 UZ env (opens.drop i) name=UZ env (opens.drop (i+1)) name:=by
 rw[ir hi];simp only[UZ,jy];rw[List.filter_cons_of_neg (by rw[h];simp)]
def sdd(lR:List kj)(l:List kj):List kj:=l.foldl (fun a x=>bif a.any (· ==x)then a else a++[x]) lR
theorem aD5:∀(l lR:List kj),lR.length<=(sdd lR l).length
 |[],lR=>jp _
 |x::l,lR=>by
  show lR.length<=(sdd (bif lR.any (· ==x)then lR else lR++[x]) l).length;cases lR.any (· ==x)with
  |true=>exact aD5 l lR
  |false=>exact Nat.le_trans (by simp) (aD5 l (lR++[x]))
theorem aIP(s:kj):∀l:List kj,l.all (· ==s)=true->sdd [s] l=[s]
 |[],_=>rfl
 |x::l,h=>by
  rw[List.all_cons,iK]at h;have e:=jL.1 h.1;subst e;show sdd (bif [x].any (· ==x)then [x] else [x]++[x]) l=[x];simp only[iT,beq_self_eq_true,iI,jE];exact aIP x l h.2
theorem aIQ(s:kj):∀l:List kj,l.all (· ==s)=false->2<=(sdd [s] l).length
 |[],h=>by simp at h
 |x::l,h=>by
  show 2<=(sdd (bif [s].any (· ==x)then [s] else [s]++[x]) l).length;cases hx:(x==s)with
  |true=>
   rw[List.all_cons,hx,iM]at h;have e:=jL.1 hx;subst e;simp only[iT,beq_self_eq_true,iI,jE];exact aIQ x l h
  |false=>
   rw[auj]at hx;simp only[iT,hx,jr,ja,jF];exact aD5 l ([s]++[x])
theorem aGm(st:kH)(h:SOK st)(name:kj)(hn:name.length<=lf*2):Ev (fun n=>Vs n st name) (sdd [] (UZ st.env st.opens name)):=by
 have hl:=h.op;refine kY.ev ?_;refine kY.fn (fun n=>by simp only[Vs,kL,Xf,mB];exact rfl) ?_;refine kY.GA (F:=fun n m=>Fa n m name st.opens st.opens.length 0 st []) ?_;refine ke.up (S:=List kj) (L:=fun n m i a=>Fa n m name st.opens st.opens.length i st a) st.opens.length (fun i a=>a.length<=i/\sdd [] (UZ st.env st.opens name)=sdd a (UZ st.env (st.opens.drop i) name)) _ ?_ ?_ 0 [] (by omega) ⟨by simp,rfl⟩
 ·rintro i a hi ⟨ha,hI⟩ next
  refine ke.lp (fun n m=>by simp only[Zb,E9,mB];exact rfl) ?_;simp only[hi,ik,decide_true,jE];refine ke.Bz hi ?_;have ho:=h.kE _ (il hi);rw[lj (by simp only[lf]at hl;omega)];have ej:UY [st.opens[i]] name=st.opens[i]++[46]++name:=by simp [UY]
  refine ke.oU ((awZ [st.opens[i]] name (by simp only[aeO];omega) hn).tot (Q:=(· =st.opens[i]++[46]++name)) ej) fun x hx=>?_
  subst hx;refine ke.oU ((ajr st h (st.opens[i]++[46]++name)).tot (Q:=(· =Ac st.env (st.opens[i]++[46]++name))) rfl) fun x hx=>?_
  subst hx;cases hd:Ac st.env (st.opens[i]++[46]++name)with
  |false=>
   rw[ayL hi hd]at hI;simp only[jF];exact next _ ⟨by omega,hI⟩
  |true=>
   rw[avV hi hd]at hI;simp only[jE];refine ke.oU ((EU a (st.opens[i]++[46]++name) (by omega)).tot (Q:=(· =a.any (· ==st.opens[i]++[46]++name))) rfl) fun x hx=>?_
   subst hx;have hI':sdd [] (UZ st.env st.opens name)=sdd (bif a.any (· ==st.opens[i]++[46]++name)then a else a++[st.opens[i]++[46]++name]) (UZ st.env (st.opens.drop (i+1)) name):=hI;cases hc:a.any (· ==st.opens[i]++[46]++name)with
   |true=>
    rw[hc]at hI';simp only[jE]at hI' ⊢;exact next _ ⟨by omega,hI'⟩
   |false=>
    rw[hc]at hI';simp only[jF,aoy (k:=a.length) (by omega),jE]at hI' ⊢;exact next _ ⟨by simp only[iv,iz];omega,hI'⟩
 ·rintro a ⟨ha,hI⟩;refine ke.lp (fun n m=>by simp only[Zb,E9,mB];exact rfl) ?_;simp only[ij,decide_false,jF];refine ke.pure ?_;rw[hI,iA];rfl
theorem aD6(st:kH)(h:SOK st)(name:kj)(hn:name.length<=lf*2):Ev (fun n=>QK n st name) (auk st name):=by
 refine Ev.fn (fun n=>by simp only[QK,kL,Ua,mB];exact rfl) ?_;refine Ev.bind (aBA name (by omega)) ?_;unfold auk;cases hnm:Uc name with
 |false=>exact Ev.pure
 |true=>
 simp only[jE];have he:Ev (fun n=>Kz n st) st:=by refine Ev.fn (fun n=>by simp only[Kz,kL,MJ,mB];exact rfl) ?_;exact Ev.pure
 refine Ev.bind he ?_;have hns:=h.ns;have hll:=OA st.sB
 have round:∀k:Nat,Ev (fun n=>wU n (st.sB.take k) st name [] 0) (bif Ac st.env (UY (st.sB.take k) name)then((((),1),(st,()),(name,()),(UY (st.sB.take k) name,()),(0,()),()),false,())else((((),0),(st,()),(name,()),([],()),(0,()),()),true,())):=by
  intro k;have:=awX st.sB k;refine Ev.fn (fun n=>by simp only[wU,kL,yQ,mB];exact rfl) ?_;refine Ev.bind (awZ _ name (by omega) hn) (Ev.bind (ajr st h _) ?_);cases Ac st.env (UY (st.sB.take k) name)<;>exact Ev.pure
 have loop:∀k:Nat,k<=st.sB.length->rS (fun n m=>BY n m st k 0 st name [] 0) (match aeP st.env st.sB name k with
  |some s=>((((),1),(st,()),(name,()),(s,()),(0,()),()),())
  |none=>((((),0),(st,()),(name,()),([],()),(0,()),()),())):=by
  intro k;induction k with
  |zero=>
   intro _;refine rS.lp (fun n m=>by simp only[N6,yo,mB];exact rfl) ?_;have d:decide ((0:Int)<((0:Nat):Int))=false:=rfl;simp only[d,jF];exact rS.pure
  |succ k ih=>
   intro hk;refine rS.lp (fun n m=>by simp only[N6,yo,mB];exact rfl) ?_;have d:decide ((0:Int)<((k+1:Nat):Int))=true:=jG (by omega);have d2:decide ((0:Int)<=((k+1:Nat):Int)/\((k+1:Nat):Int)<=(st.sB.length:Int)/\(st.sB.length:Int)<=(st.sB.length:Int))=true:=jG (by omega);simp only[d,d2,jE,beq_self_eq_true,iF];refine rS.oU (round (k+1)) ?_;simp only[aeP];cases Ac st.env (UY (st.sB.take (k+1)) name)with
   |true=>exact rS.pure
   |false=>
    simp only[jF,jE];rw[ri (by omega) (by simp only[lf]at hns;omega)];have e:((k+1:Nat):Int)-1=(k:Int):=by omega
    rw[e];exact ih (by omega)
 have aQl:Ev (fun n=>Gz n st st name [] 0) (match aeP st.env st.sB name st.sB.length with
  |some s=>((((),1),(st,()),(name,()),(s,()),(0,()),()),())
  |none=>((((),0),(st,()),(name,()),([],()),(0,()),()),())):=by
  refine Ev.fn (fun n=>by simp only[Gz,kL,Jl,mC];exact rfl) ?_;exact Ev.GA (loop st.sB.length (jp _))
 refine Ev.bind aQl ?_;cases aeP st.env st.sB name st.sB.length with
 |some s=>exact Ev.pure
 |none=>
  simp only[beq_self_eq_true,jE];refine Ev.bind (aGm st h name hn) ?_;cases hc:UZ st.env st.opens name with
  |nil=>
   have e1:decide ((1:Int)<((sdd [] ([]:List kj)).length:Int))=false:=rfl;have e2:(((sdd [] ([]:List kj)).length:Int)==1)=false:=rfl;simp only[e1,e2,jF];refine Ev.bind (ajr st h name) ?_;simp only[aBC];cases Ac st.env name<;>exact Ev.pure
  |cons s r=>
   have hdd:sdd [] (s::r)=sdd [s] r:=rfl;rw[hdd];simp only[aBC];cases hr:r.all (· ==s)with
   |true=>
    rw[aIP s r hr];have e1:decide ((1:Int)<(([s]:List kj).length:Int))=false:=rfl;have e2:((([s]:List kj).length:Int)==1)=true:=rfl;simp only[e1,e2,jF,jE];exact Ev.pure
   |false=>
    have h2:=aIQ s r hr;have e1:decide ((1:Int)<((sdd [s] r).length:Int))=true:=jG (by omega);simp only[e1,jE,jF];exact Ev.pure
theorem alq(l:List kj)(s:kj)(hl:l.length<=lf*4):Ev (fun n=>uX n l s) (l.any (· ==s)):=by
 refine kY.ev ?_;refine kY.fn (fun n=>by simp only[uX,kL,AR,mB];exact rfl) ?_
 have h1:kY (fun n=>Bc n l s) (fun r=>decide (0<=r)=l.any (· ==s)):=by
  refine kY.fn (fun n=>by simp only[Bc,kL,C5,mB];exact rfl) ?_;refine kY.GA (F:=fun n m=>uW n m l s l.length 0) ?_;refine ke.up (S:=Unit) (L:=fun n m i _=>uW n m l s l.length i) l.length (fun i _=>l.any (· ==s)=(l.drop i).any (· ==s)) _ ?_ ?_ 0 () (by omega) rfl
  ·intro i u hi hI next
   refine ke.lp (fun n m=>by simp only[Hg,uV,mB];exact rfl) ?_;simp only[hi,ik,decide_true,jE];refine ke.Bz hi ?_;rw[Sh _ _ _ hi,auj]at hI;refine ke.oQ (fun hc=>ke.pure ?_) fun hc=>?_
   ·rw[hI,hc,iI];simp
   ·rw[lj (by simp only[lf]at hl;omega)];exact next u (by rw[hI,hc,iG])
  ·intro u hI;refine ke.lp (fun n m=>by simp only[Hg,uV,mB];exact rfl) ?_;simp only[ij,decide_false,jF];refine ke.pure ?_;rw[hI,iA];rfl
 exact kY.bind h1 fun x hx=>kY.pure hx
theorem ayM:∀s:kj,jB s [46]=s.contains 46:=by
 intro s;induction s with
 |nil=>rfl
 |cons x r ih=>
  grind [jB,Lib.index]
theorem aIR(s:kj)(h:s.length<=lf*4):Ev (fun n=>strings_Contains n s [46]) (s.contains 46):=by
 refine⟨1,fun n hn=>?_⟩;obtain⟨k,rfl⟩:∃k,n=k+1:=⟨n-1,by omega⟩;show(bif decide (s.length<4294967281)then some (jB s [46])else none)=_;rw[jG (by simp only[lf]at h;omega),ayM];rfl
theorem aLe(k:Nat)(h:k<4611686018427387904):Ev (fun n=>strconv_Itoa n (k:Int)) (jD k):=by
 refine⟨1,fun n hn=>?_⟩;obtain⟨m,rfl⟩:∃m,n=m+1:=⟨n-1,by omega⟩;show(bif decide ((0:Int)<=(k:Int))&&decide ((k:Int)<=9223372036854775807)then some (jD k)else none)=_;rw[jG (show(0:Int)<=(k:Int) by omega),jG (show(k:Int)<=9223372036854775807 by omega)];rfl
theorem aIS(k:Nat):jD (k:Int)=iJ k:=by
 unfold jD;rw[if_neg (by omega),iF]
theorem avW(k:Nat):∀u:Nat,u<=k->(iJ u).length<=u+1:=by
 induction k with
 |zero=>intro u hu;rw[jg (by omega)];simp
 |succ k ih=>
  intro u hu;by_cases h:u<10
  ·rw[jg h];simp
  ·rw[iJ,dif_neg h,iv,iz];have:=ih (u / 10) (by omega);omega
def ajs(w:List kj)(s:kj):Bool:=Uc s&&(!kws.contains s&&(!(s==[95])&& !w.any (· ==s)))
def aw0(w:List kj)(s:kj):Bool:=ajs w s&& !s.contains 46
theorem aoz(w:List kj)(s:kj)(hw:w.length<=lf*4)(hs:s.length<=lf*4):Ev (fun n=>qO n w s) (ajs w s):=by
 refine Ev.fn (fun n=>by simp only[qO,kL,xH,mB];exact rfl) ?_;refine Ev.bind (aBA s hs) ?_;unfold ajs;cases Uc s with
 |false=>exact Ev.pure
 |true=>
  simp only[jE,iM];refine Ev.bind (aDT s) ?_;cases kws.contains s with
  |true=>exact Ev.pure
  |false=>
   cases s==[95]with
   |true=>exact Ev.pure
   |false=>exact Ev.bind (alq w s hw) Ev.pure
structure TB(T:List jR):Prop where
 len:T.length<=lf
 parts:∀n∈T,n.parts.length<=lf
 sum:ajn T<=lf
theorem TB.aGn{T:List jR}(h:TB T):(aqs [] T).length<=lf:=by
 have:=awU T [];have:=h.sum;simp only[iC]at*;omega
theorem aw1(w:List kj)(s:kj)(hw:w.length<=lf*4)(hs:s.length<=lf*4):Ev (fun n=>qK n w s) (aw0 w s):=by
 refine Ev.fn (fun n=>by simp only[qK,kL,zU,mB];exact rfl) ?_;refine Ev.bind (aoz w s hw hs) ?_;unfold aw0;cases ajs w s with
 |false=>exact Ev.pure
 |true=>exact Ev.bind (aIR s hs) Ev.pure
def aoA(x:j3)(s:kj):Bool:=x.AA.any (· ==s)||(x.I8.any (· ==s)||x.IL.any (· ==s))
theorem aul(h:∀s∈l,s.length<=k)(hs:k<s.length):l.any (· ==s)=false:=by
 rw[Bool.eq_false_iff];intro hc;obtain⟨t,ht,e⟩:=ji.1 hc;obtain rfl:=jL.1 e;have:=h t ht;omega
theorem aoB(h:k<10):UInt8.ofNat (48+k)≠39/\(UInt8.ofNat (48+k)).toNat=48+k:=by
 have:(UInt8.ofNat (48+k)).toNat=48+k:=by rw[UInt8.toNat_ofNat'];omega
 refine⟨fun e=>?_,this⟩;rw[e]at this;have h39:(39:UInt8).toNat=39:=rfl;omega
theorem aw2:∀(u:Nat),∀c∈iJ u,c≠39:=by
 intro u;induction u using iy with
 |ind u ih=>
  intro c hc;by_cases h:u<10
  ·rw[jg h,iH]at hc;subst hc;exact(aoB h).1
  ·rw[iJ,dif_neg h]at hc;rcases iV.1 hc with hc|hc
   ·exact ih _ (by omega) c hc
   ·rw[iH]at hc;subst hc;exact(aoB (Nat.mod_lt _ (by omega))).1
def aLf(l:List UInt8):Nat:=l.foldl (fun a c=>a*10+(c.toNat-48)) 0
theorem aBD:∀(u:Nat),aLf (iJ u)=u:=by
 intro u;induction u using iy with
 |ind u ih=>
  by_cases h:u<10
  ·rw[jg h];simp only[aLf,List.foldl_cons,List.foldl_nil,(aoB h).2];omega
  ·rw[iJ,dif_neg h];have:=ih (u / 10) (by omega);unfold aLf at this ⊢;rw[List.foldl_append,this];simp only[List.foldl_cons,List.foldl_nil,(aoB (Nat.mod_lt u (show 0<10 by omega))).2];omega
theorem aum:∀(A:List UInt8),(∀c∈A,c≠39)->∀i:Nat,(A++iQ i 39).takeWhile (fun c=>c !=39)=A
 |[],_,0=>rfl
 |[],_,i+1=>by simp [jA]
 |a::A,h,i=>by
  have ha:(a !=39)=true:=by simpa using h a (by simp)
  rw[iP,List.takeWhile_cons,ha,if_pos rfl,aum A (fun c hc=>h c (jn _ hc)) i]
theorem aLg {b j:Nat}(h:(120::iJ a)++iQ i 39=(120::iJ b)++iQ j (39:UInt8)):a=b:=by
 rw[iP,iP,List.cons.injEq]at h;have h2:=congrArg (fun l=>aLf (l.takeWhile (fun c=>c !=39))) h.2;simp only[aum _ (aw2 a),aum _ (aw2 b),aBD]at h2;exact h2
structure PN(x:j3):Prop where
 IL:x.IL=aqs [] x.st.sW
 tb:TB x.st.sW
 ayN:x.AA.length<=lf
 aNd:x.kg.length<=lf
 aQm:x.I8.length<=lf
 cs:∀s∈x.AA,s.length<=lf
 ls:∀s∈x.kg,s.length<=lf
 ks:∀s∈x.I8,s.length<=lf
 ws:∀s∈x.IL,s.length<=lf
 sok:SOK x.st
theorem PN.aGn(h:PN x):x.IL.length<=lf:=by
 rw[h.IL];exact h.tb.aGn
theorem ajt(h:PN x)(s:kj)(hs:s.length<=lf*4):
 (aoA x s=false->rS (fun n m=>sD n m x s) s)/\
 (aoA x s=true->∀r,rS (fun n m=>sD n m x (s++[39])) r->rS (fun n m=>sD n m x s) r):=by
 have c1:=EU x.AA s (by have:=h.ayN;omega);have c2:=EU x.I8 s (by have:=h.aQm;omega);have c3:=alq x.IL s (by have:=h.aGn;omega);have hl:decide (s.length<=9223372036854775806)=true:=jG (by simp only[lf]at hs;omega);unfold aoA;constructor
 ·intro ht;simp only[jo]at ht;obtain⟨t1,t2,t3⟩:=ht;rw[t1]at c1;rw[t2]at c2;rw[t3]at c3;refine rS.lp (fun n m=>by simp only[Kb,wP,mB];exact rfl) ?_;exact rS.oU c1 (rS.oU c2 (rS.oU c3 rS.pure))
 ·intro ht r hr1;refine rS.lp (fun n m=>by simp only[Kb,wP,mB];exact rfl) ?_;refine rS.oU c1 ?_;cases t1:x.AA.any (· ==s)with
  |true=>simp only[jE,hl];exact hr1
  |false=>
   rw[t1,iG]at ht;refine rS.oU c2 ?_;cases t2:x.I8.any (· ==s)with
   |true=>simp only[jE,hl];exact hr1
   |false=>
    rw[t2,iG]at ht;refine rS.oU c3 ?_;simp only[ht,jE,hl];exact hr1
theorem aBE(h:PN x):∀(d:Nat)(s:kj),lf+1<=s.length+d->s.length+d<=lf*4->∃j:Nat,aoA x (s++iQ j 39)=false/\rS (fun n m=>sD n m x s) (s++iQ j 39):=by
 intro d;induction d with
 |zero=>
  intro s h1 h2
  have ht:aoA x s=false:=by
   unfold aoA;rw[aul h.cs (by omega),aul h.ks (by omega),aul h.ws (by omega)];rfl
  refine⟨0,?_,?_⟩
  ·rw[jb,iL];exact ht
  ·rw[jb,iL];exact(ajt h s (by omega)).1 ht
 |succ d ih=>
  intro s h1 h2;cases ht:aoA x s with
  |false=>
   refine⟨0,?_,?_⟩
   ·rw[jb,iL];exact ht
   ·rw[jb,iL];exact(ajt h s (by omega)).1 ht
  |true=>
   obtain⟨j,a,b⟩:=ih (s++[39]) (by rw[iv,iz];omega) (by rw[iv,iz];omega);have e:s++[39]++iQ j (39:UInt8)=s++iQ (j+1) 39:=by rw[iR,jA];rfl
   rw[e]at a b;exact⟨j+1,a,(ajt h s (by omega)).2 ht _ b⟩
structure Bv(x:j3)(k:Nat)(s:kj):Prop where
 aNe:∃j,s=(120::iJ k)++iQ j 39
 free:aoA x s=false
 ev:Ev (fun n=>zk n x k) s
theorem aBF(h:PN x)(k:Nat)(hk:k<=lf*2-10):∃s,Bv x k s:=by
 have hl:=avW k k (by omega);obtain⟨j,h1,h2⟩:=aBE h (lf+1) (120::iJ k) (by simp only[iw];omega) (by simp only[iw,lf]at*;omega);have hd:decide (1+(iJ k).length<=9223372036854775807)=true:=jG (by simp only[lf]at hk;omega);refine⟨_,⟨j,rfl⟩,h1,?_⟩;refine Ev.fn (fun n=>by simp only[zk,kL,FH,mB];exact rfl) ?_;have hi:=aLe k (by simp only[lf]at hk;omega);rw[aIS]at hi;refine Ev.bind hi ?_;simp only[hd,jE];exact Ev.GA h2
theorem Bv.inj {b:Nat}(h:Bv x a s)(k:Bv x b s):a=b:=by
 obtain⟨i,hi⟩:=h.aNe;obtain⟨j,hj⟩:=k.aNe;rw[hi]at hj;exact aLg hj
theorem Bv.same {t:kj}(h:Bv x a s)(k:Bv x a t):s=t:=h.ev.aQi k.ev
theorem Bv.ne(h:Bv x a s):s≠[]:=by
 obtain⟨i,hi⟩:=h.aNe;rw[hi];simp
theorem Bv.AA(h:Bv x a s):x.AA.any (· ==s)=false:=by
 have:=h.free;unfold aoA at this;rw[jo]at this;exact this.1
def sI(k i:Int):Int:=bif (i==1&&(k==5||(k==6||k==7)))||(i==2&&k==11)then 1 else 0
abbrev aNf(K:yB kn 13):((Unit×((((yB kn 13)×Unit)×Unit)×((Unit×Int)×((Int×Unit)×((Bool×Unit)×Unit)))))×(Bool×Unit)):=(((),((K,()),()),((),0),(0,()),(false,()),()),true,())
abbrev aNg(K:yB kn 13):((Unit×((((yB kn 13)×Unit)×Unit)×((Unit×Int)×((Int×Unit)×((Bool×Unit)×Unit)))))×(Bool×Unit)):=(((),((K,()),()),((),1),(0,()),(true,()),()),false,())
def KOK(K:yB kn 13):Prop:=∀k:Nat,k<13->∃u,(Eh 13 K)[k]? =some u/\∀i:Nat,i<3->(((i:Nat):Int)==u.below)=(sI k i==1)
theorem aoC(k:Int):PK k<=3:=by
 unfold PK;cases (k==4||k==5||k==6||k==7)<;>cases (k==8||k==11)<;>cases (k==9||k==10)<;>decide
theorem Vx(k i:Int):sI k i=0\/sI k i=1:=by
 unfold sI;cases (i==1&&(k==5||(k==6||k==7)))||(i==2&&k==11)
 ·exact .inl rfl
 ·exact .inr rfl
theorem aGo(t:jW)(d:Nat):Ev (fun n=>xT n d t 0 false) (bif t.kind==0&&(decide ((d:Int)<=t.index)&&IntKind.i64.wrap (t.index-d)==0)then((((),1),(0,()),(true,()),()),false,())else((((),0),(0,()),(false,()),()),true,())):=by
 refine Ev.fn (fun n=>by simp only[xT,kL,AE,mB];exact rfl) ?_;cases t.kind==0 with
 |false=>exact Ev.pure
 |true=>
  cases IntKind.i64.wrap (t.index-d)==0 with
  |false=>simp only[Bool.and_false,jE,jF];exact Ev.pure
  |true=>
   cases decide ((d:Int)<=t.index)with
   |false=>exact Ev.pure
   |true=>exact Ev.pure
def aBG:yB kn 13:=
 ({index:=true,name:=false,kg:=0,kI:=0,below:= -1},{index:=false,name:=false,kg:=0,kI:=0,below:= -1},{index:=false,name:=false,kg:=1,kI:=0,below:= -1},{index:=false,name:=true,kg:= -1,kI:=0,below:= -1},
  {index:=false,name:=false,kg:=0,kI:=2,below:= -1},{index:=false,name:=false,kg:=0,kI:=2,below:=1},{index:=false,name:=false,kg:=0,kI:=2,below:=1},{index:=false,name:=false,kg:=0,kI:=2,below:=1},
  {index:=false,name:=false,kg:=0,kI:=3,below:= -1},{index:=false,name:=false,kg:=0,kI:=1,below:= -1},{index:=false,name:=false,kg:=0,kI:=1,below:= -1},{index:=false,name:=false,kg:=0,kI:=3,below:=2},{index:=true,name:=false,kg:=0,kI:=0,below:= -1},())
theorem aLh:Ev (fun n=>P0 n) aBG:=by
 refine Ev.fn (fun n=>by simp only[P0,kL,Yr];exact rfl) ?_;exact Ev.pure
theorem aIT:KOK aBG:=by
 have key:((List.range 13).all fun k=>match (Eh 13 aBG)[k]? with|none=>false|some u=>(List.range 3).all fun i=>(((i:Nat):Int)==u.below)==(sI k i==1))=true:=jN
 intro k hk;have h1:=List.all_eq_true.1 key k (List.mem_range.2 hk);cases h:(Eh 13 aBG)[k]? with
 |none=>rw[h]at h1;cases h1
 |some u=>
  rw[h]at h1;refine⟨u,rfl,fun i hi=>?_⟩;have h2:=List.all_eq_true.1 h1 i (List.mem_range.2 hi);exact jL.1 h2
theorem aIU(s:kj):∀t:jW,Vu s t=true->s.length<=t.kQ:=by
 intro t;induction h:t.kQ using iy generalizing t with
 |ind k ih=>
  intro ho;rw[aeM,Bool.or_eq_true]at ho;rcases ho with ho|ho
  ·rw[iK]at ho;have:=jL.1 ho.2;have:=t.aop;subst s;omega
  ·obtain⟨x,hx,hox⟩:=ji.1 ho;have:=t.Cl hx;have:=ih x.kQ (by omega) x rfl hox;omega
structure LOk(l:kA):Prop where
 pos:0<=l.const
 asc:∀i (h:i+1<l.vars.length),l.vars[i].index<l.vars[i+1].index
theorem aun(l:kA)(hk:l.kQ<xD):kY (fun n=>Lo n l) (fun r=>r=true->LOk l):=by
 have hl:=l.ac1;refine kY.fn (fun n=>by simp only[Lo,kL,Qv,mB];exact rfl) ?_;refine kY.oQ (fun _=>kY.pure fun h=>by cases h) fun h0=>?_
 refine kY.oQ (fun _=>kY.pure fun h=>by cases h) fun _=>?_
 refine kY.GA (F:=fun n m=>AC n m 0 l) ?_;refine ke.up (S:=Unit) (L:=fun n m i s=>AC n m i l) l.vars.length (fun i _=>∀j (hj:j+1<l.vars.length),j+1<i->l.vars[j].index<l.vars[j+1].index) _ ?_ ?_ 0 () (by omega) (fun j hj h=>by omega)
 ·intro i s hi hI next
  refine ke.lp (fun n m=>by simp only[Il,AB,mB];exact rfl) ?_;simp only[hi,ik,decide_true,jE];refine ke.Bz hi ?_;refine ke.oQ (fun _=>ke.pure fun h=>by cases h) fun _=>?_
  refine ke.oQ (fun _=>ke.pure fun h=>by cases h) fun _=>?_
  refine ke.oQ (fun _=>ke.pure fun h=>by cases h) fun _=>?_
  refine ke.oQ (fun _=>ke.pure fun h=>by cases h) fun _=>?_
  rw[lj (by unfold xD at hk;omega)];refine ke.oQ (fun hp=>?_) fun hp=>?_
  ·have hp:=jI hp;have e:IntKind.i64.wrap ((i:Int)-1)=((i-1:Nat):Int):=by rw[ri (by omega) (by unfold xD at hk;omega)];omega
   simp only[e];refine ke.Bz (by omega) ?_;refine ke.oQ (fun _=>ke.pure fun h=>by cases h) fun sJ=>?_
   have sJ:=jJ sJ
   have hnx:∀j (hj:j+1<l.vars.length),j+1<i+1->l.vars[j].index<l.vars[j+1].index:=by
    intro j hj hji;by_cases hq:j+1=i
    ·subst hq;simp only[Nat.add_sub_cancel]at sJ;omega
    ·exact hI j hj (by omega)
   refine ke.oQ (fun _=>?_) fun _=>next s hnx
   exact ke.oQ (fun _=>ke.pure fun h=>by cases h) fun _=>next s hnx
  ·have hp:=jJ hp;have hnx:∀j (hj:j+1<l.vars.length),j+1<i+1->l.vars[j].index<l.vars[j+1].index:=fun j hj hji=>by omega
   refine ke.oQ (fun _=>?_) fun _=>next s hnx
   exact ke.oQ (fun _=>ke.pure fun h=>by cases h) fun _=>next s hnx
 ·intro s hI;refine ke.lp (fun n m=>by simp only[Il,AB,mB];exact rfl) ?_;simp only[ij,decide_false,jF];have:=jJ h0;exact ke.pure fun _=>⟨by omega,fun i h=>hI i h h⟩
theorem auo(l:kA)(p q:Int)(hk:l.kQ<xD):kY (fun n=>Lz n l p q) (fun r=>r=0->LOk l):=by
 have hl:=l.ac1;refine kY.fn (fun n=>by simp only[Lz,kL,QA,mB];exact rfl) ?_;refine kY.bind (aun l hk) fun x hx=>?_
 refine kY.oQ (fun h=>?_) fun _=>kY.pure fun h=>by cases h
 have ok:=hx h;obtain⟨r,_,hr⟩:=afS l p q hk
 have k1:kY (fun n=>wJ n n q 0 l) q4:=by
  refine kY.GA (F:=fun n m=>wJ n m q 0 l) ?_;refine ke.up (S:=Unit) (L:=fun n m i s=>wJ n m q i l) l.vars.length (fun _ _=>True) q4 ?_ ?_ 0 () (by omega) trivial
  ·intro i s hi _ next
   refine ke.lp (fun n m=>by simp only[Ip,AN,mB];exact rfl) ?_;simp only[hi,ik,decide_true,jE];refine ke.Bz hi ?_;rw[lj (by unfold xD at hk;omega)]
   (repeat' (first|exact kY.pure trivial|exact ke.pure trivial|refine kY.oQ (fun _=>?_) (fun _=>?_)|refine ke.oQ (fun _=>?_) (fun _=>?_)))
   ·refine ke.Bz hi ?_
    (repeat' (first|exact kY.pure trivial|exact ke.pure trivial|refine kY.oQ (fun _=>?_) (fun _=>?_)|refine ke.oQ (fun _=>?_) (fun _=>?_)))
    exact next s trivial
   ·exact next s trivial
  ·intro s _;refine ke.lp (fun n m=>by simp only[Ip,AN,mB];exact rfl) ?_;simp only[ij,decide_false,jF];exact ke.pure trivial
 refine kY.imp (P:=q4) ?_ (fun _ _ _=>ok);refine kY.GA (F:=fun n m=>AP n m p q 0 l) ?_;refine ke.up (S:=Unit) (L:=fun n m i s=>AP n m p q i l) l.vars.length (fun _ _=>True) q4 ?_ ?_ 0 () (by omega) trivial
 ·intro i s hi _ next
  refine ke.lp (fun n m=>by simp only[Iq,AO,mB];exact rfl) ?_;simp only[hi,ik,decide_true,jE];refine ke.Bz hi ?_;rw[lj (by unfold xD at hk;omega)]
  (repeat' (first|exact kY.pure trivial|exact ke.pure trivial|refine kY.oQ (fun _=>?_) (fun _=>?_)|refine ke.oQ (fun _=>?_) (fun _=>?_)))
  ·refine ke.Bz hi ?_
   (repeat' (first|exact kY.pure trivial|exact ke.pure trivial|refine kY.oQ (fun _=>?_) (fun _=>?_)|refine ke.oQ (fun _=>?_) (fun _=>?_)))
   exact next s trivial
  ·exact next s trivial
 ·intro s _;refine ke.lp (fun n m=>by simp only[Iq,AO,mB];exact rfl) ?_;simp only[ij,decide_false,jF];exact ke.of1 k1
inductive OkF:jW->Prop
 |mk {t:jW} (h1:0<=t.kind) (h2:t.kind<13) (h3:(t.kI.length:Int)=PK t.kind) (h4:t.kind=0->0<=t.index) (h6:t.kind≠0->t.kind≠12->t.index=0) (h7:t.kind≠3->t.name=[])
   (h8:t.kind≠2->t.kind≠3->t.kg=[]) (h9:∀l∈t.kg,LOk l) (h5:∀k∈t.kI,OkF k):OkF t
theorem OkF.ok:∀{t:jW},OkF t->OkT t:=by
 intro t h;induction h with
 |mk h1 h2 h3 h4 h6 h7 h8 h9 h5 ih=>exact .mk h1 h2 h3 h4 ih
theorem OkF.aNh(h:OkF t):t.kind≠0->t.kind≠12->t.index=0:=by cases h;assumption
theorem OkF.aIV(h:OkF t):t.kind≠3->t.name=[]:=by cases h;assumption
theorem OkF.aPb(h:OkF t):t.kind≠2->t.kind≠3->t.kg=[]:=by cases h;assumption
theorem OkF.lev(h:OkF t):∀l∈t.kg,LOk l:=by cases h;assumption
theorem OkF.kid(h:OkF t):∀k∈t.kI,OkF k:=by cases h;assumption
structure Frm(t:jW):Prop where
 lo:0<=t.kind
 hi:t.kind<13
 len:(t.kI.length:Int)=PK t.kind
 Bz:t.kind≠0->t.kind≠12->t.index=0
 name:t.kind≠3->t.name=[]
 lev:t.kind≠2->t.kind≠3->t.kg=[]
theorem arJ(t:jW):kY (fun n=>P6 n t) (fun r=>r=true->Frm t):=by
 refine kY.fn (fun n=>by simp only[P6,kL,Vg,mB];exact rfl) ?_;refine kY.oQ (fun _=>kY.pure fun h=>by cases h) fun h1=>?_
 refine kY.oQ (fun _=>kY.pure fun h=>by cases h) fun h2=>?_
 refine kY.bind (avS _) fun x hx=>?_
 refine kY.oQ (fun _=>kY.pure fun h=>by cases h) fun h3=>?_
 have a1:0<=t.kind:=by have:=jJ h1;omega
 have a2:t.kind<13:=by have:=jJ h2;omega
 have a3:(t.kI.length:Int)=PK t.kind:=by rw[<-hx];simpa using h3
 have nil:∀{l:List kA},((l.length:Int)==0)=true->l=[]:=fun h=>by
  have:=jL.1 h;exact iX (by omega)
 have y9:(t.kind≠0->t.kind≠12->t.index=0)->(t.kind≠3->t.name=[])->kY (fun n=>bif t.kind==2 then some ((t.kg.length:Int)==1)else bif (t.kg.length:Int)==0 then some true else some (t.kind==3)) (fun r=>r=true->Frm t):=fun b1 b2=>by
  refine kY.oQ (fun q=>kY.pure fun _=>⟨a1,a2,a3,b1,b2,fun q2=>absurd (jL.1 q) q2⟩) fun _=>?_
  refine kY.oQ (fun q=>kY.pure fun _=>⟨a1,a2,a3,b1,b2,fun _ _=>nil q⟩) fun _=>?_
  exact kY.pure fun q=>⟨a1,a2,a3,b1,b2,fun _ q3=>absurd (jL.1 q) q3⟩
 have nm:(t.kind≠0->t.kind≠12->t.index=0)->kY (fun n=>bif t.name==[] then bif t.kind==2 then some ((t.kg.length:Int)==1)else bif (t.kg.length:Int)==0 then some true else some (t.kind==3)
  else bif t.kind !=3 then some false else bif t.kind==2 then some ((t.kg.length:Int)==1)else bif (t.kg.length:Int)==0 then some true else some (t.kind==3)) (fun r=>r=true->Frm t):=fun b1=>by
  refine kY.oQ (fun q=>y9 b1 fun _=>jL.1 q) fun _=>?_
  refine kY.oQ (fun _=>kY.pure fun h=>by cases h) fun q=>y9 b1 fun q2=>absurd (by simpa using q) q2
 refine kY.oQ (fun _=>?_) fun q=>nm fun _ _=>by simpa using q
 refine kY.oQ (fun _=>?_) fun q=>nm fun q2=>absurd (by simpa using q) q2
 exact kY.oQ (fun _=>kY.pure fun h=>by cases h) fun q=>nm fun _ q2=>absurd (by simpa using q) q2
theorem apN:∀(t:jW)(a b c d e:Int),t.kQ<xD->kY (fun n=>qw n t a b c d e) (fun r=>r=0->OkF t):=by
 intro t;induction h:t.kQ using iy generalizing t with
 |ind k ih=>
  intro a b c d e hk;have hl:=t.Kr;have hl2:=t.K5;have hl3:=t.aop;refine kY.fn (fun n=>by simp only[qw,kL,QG,mB];exact rfl) ?_
  have k1:kY (fun n=>wN (qw n) n n a b c d e 0 t) (fun r=>r=0->∀k∈t.kI,OkF k):=by
   refine kY.GA (F:=fun n m=>wN (qw n) n m a b c d e 0 t) ?_;refine ke.up (S:=Unit) (L:=fun n m i s=>wN (qw n) n m a b c d e i t) t.kI.length (fun i _=>∀k∈t.kI.take i,OkF k) _ ?_ ?_ 0 () (by omega) (fun k hk=>by simp at hk)
   ·intro i s hi hI next
    refine ke.lp (fun n m=>by simp only[Ix,A3,mB];exact rfl) ?_;simp only[hi,ik,decide_true,jE];refine ke.Bz hi ?_;have hm:=t.Cl (il hi);rw[lj (by unfold xD at hk;omega)];refine ke.oU (afR _ _) fun x _=>?_
    refine ke.oU (ih _ (by omega) _ rfl _ _ _ _ _ (by omega)) fun x hx=>?_
    refine ke.oQ (fun hc=>ke.pure fun h0=>by simp [h0]at hc) fun hc=>next s ?_
    intro k hk;rw[iD hi]at hk;rcases iV.1 hk with hk|hk
    ·exact hI k hk
    ·rw[iH]at hk;subst hk;exact hx (by simpa using hc)
   ·intro s hI;refine ke.lp (fun n m=>by simp only[Ix,A3,mB];exact rfl) ?_;simp only[ij,decide_false,jF];rw[iN]at hI;exact ke.pure fun _=>hI
  have k2:kY (fun n=>wO (qw n) n n a b c d e 0 t) (fun r=>r=0->(∀l∈t.kg,LOk l)/\(t.kind=0->0<=t.index)/\∀k∈t.kI,OkF k):=by
   refine kY.GA (F:=fun n m=>wO (qw n) n m a b c d e 0 t) ?_;refine ke.up (S:=Unit) (L:=fun n m i s=>wO (qw n) n m a b c d e i t) t.kg.length (fun i _=>∀l∈t.kg.take i,LOk l) _ ?_ ?_ 0 () (by omega) (fun l hl=>by simp at hl)
   ·intro i s hi hI next
    refine ke.lp (fun n m=>by simp only[Iy,A4,mB];exact rfl) ?_;simp only[hi,ik,decide_true,jE];refine ke.Bz hi ?_;have hm:=t.aoq (il hi);rw[lj (by unfold xD at hk;omega)];refine ke.oU (auo _ _ _ (by omega)) fun x hx=>?_
    refine ke.oQ (fun hc=>ke.pure fun h0=>by simp [h0]at hc) fun hc=>next s ?_
    intro l hl;rw[iD hi]at hl;rcases iV.1 hl with hl|hl
    ·exact hI l hl
    ·rw[iH]at hl;subst hl;exact hx (by simpa using hc)
   ·intro s hI;rw[iN]at hI;refine ke.lp (fun n m=>by simp only[Iy,A4,mB];exact rfl) ?_;simp only[ij,decide_false,jF]
    repeat' (first|exact ke.pure (fun h=>by simp at h)|refine ke.oQ (fun _=>?_) (fun _=>?_)|exact(ke.of1 k1).imp (fun r hr h0=>⟨hI,fun hk=>by simp_all,hr h0⟩))
  refine kY.bind (arJ _) fun x hx=>?_
  have y9:x=true->∀r:Int,(r=0->(∀l∈t.kg,LOk l)/\(t.kind=0->0<=t.index)/\∀k∈t.kI,OkF k)->r=0->OkF t:=fun h r hr h0=>
   let f:=hx h
   let g:=hr h0
   .mk f.lo f.hi f.len g.2.1 f.Bz f.name f.lev g.1 g.2.2
  repeat' (first|exact kY.pure (fun h=>by simp at h)|exact k2.imp (y9 (by simp_all))|refine kY.oQ (fun _=>?_) (fun _=>?_)|refine kY.bind (Xw _ (by omega)) fun x _=>?_)
theorem apO(t:jW)(a b c d:Int)(hk:t.kQ<xD):kY (fun n=>HG n t a b c d) (fun r=>r=0->OkF t):=by
 refine kY.fn (fun n=>by simp only[HG,kL,QI,mB];exact rfl) ?_;refine kY.bind (apN _ _ _ _ _ _ hk) fun x hx=>?_
 refine kY.oQ (fun hc=>kY.pure fun h0=>by simp [h0]at hc) fun hc=>?_
 refine kY.bind (Xv _ hk) fun y _=>?_
 refine kY.oQ (fun hc=>kY.pure fun h0=>by simp at h0) fun hc=>?_
 refine kY.bind (Ub _ hk) fun y _=>?_
 refine kY.oQ (fun hc=>kY.pure fun h0=>by simp at h0) fun hc=>?_
 exact kY.pure fun _=>hx (by simp_all)
inductive avX:jW->Nat->Prop
 |here {t:jW} {d:Nat} (h:t.kind=0) (hi:t.index=d):avX t d
 |kid {t:jW} {d:Nat} (i:Nat) (hi:i<t.kI.length) (c:Nat) (hc:(c:Int)=sI t.kind i) (h:avX t.kI[i] (d+c)):avX t d
theorem aD7(K:yB kn 13)(hK:KOK K):∀(t:jW),OkT t->∀d:Nat,t.kQ+d<=lf->∃b:Bool,Ev (fun n=>rU n t d K K 0 false) (bif b then aNg K else aNf K)/\(b=false-> ¬ avX t d):=by
 intro t;induction h:t.kQ using iy generalizing t with
 |ind k ih=>
  intro ok d hd;have hl:=t.Kr;have h3:t.kI.length<=3:=by have:=ok.len;have:=aoC t.kind;omega
  obtain⟨kk,hkk⟩:∃kk:Nat,t.kind=kk:=⟨t.kind.toNat,by have:=ok.lo;omega⟩;have aQn:kk<13:=by have:=ok.hi;omega
  obtain⟨u,hu1,hu2⟩:=hK kk aQn
  have loop:∀(q i:Nat),i+q=t.kI.length->∃b:Bool,rS (fun n m=>yj (rU n) n m d u.below t.kI t.kI.length i K 0 0 false) (bif b then aNg K else aNf K)/\
   (b=false->∀j (hj:j<t.kI.length),i<=j->∀c:Nat,(c:Int)=sI t.kind j-> ¬ avX t.kI[j] (d+c)):=by
   intro q;induction q with
   |zero=>
    intro i hi;obtain rfl:i=t.kI.length:=by omega
    refine⟨false,?_,fun _ j hj hij=>by omega⟩;refine rS.lp (fun n m=>by simp only[Nd,yg,mB];exact rfl) ?_;simp only[ij,decide_false,jF];exact rS.pure
   |succ q ihq=>
    intro i hi;have sJ:i<t.kI.length:=by omega
    have hm:=t.Cl (il sJ);have hw:=lj (i:=i) (by omega)
    obtain⟨d',hd',aPc⟩:∃d':Nat,(d:Int)+sI t.kind i=(d':Int)/\d'<=d+1:=by
     rcases Vx t.kind i with h|h<;>rw[h]
     ·exact⟨d,by omega,by omega⟩
     ·exact⟨d+1,by omega,by omega⟩
    obtain⟨b1,e1,f1⟩:=ih t.kI[i].kQ (by omega) t.kI[i] rfl (ok.kid _ (il sJ)) d' (by omega);obtain⟨b2,e2,f2⟩:=ihq (i+1) (by omega)
    have step:rS (fun n m=>(rU n t.kI[i] (d':Int) K K 0 false).bind fun x=>
     bif x.snd.fst then yj (rU n) n m d u.below t.kI t.kI.length ((i+1:Nat):Int) x.fst.snd.fst.fst.fst x.fst.snd.snd.fst.snd x.fst.snd.snd.snd.fst.fst x.fst.snd.snd.snd.snd.fst.fst
     else some (((),((x.fst.snd.fst.fst.fst,()),()),((),x.fst.snd.snd.fst.snd),(x.fst.snd.snd.snd.fst.fst,()),(x.fst.snd.snd.snd.snd.fst.fst,()),()),false,())) (bif b1||b2 then aNg K else aNf K):=by
     refine rS.oU e1 ?_;cases b1 with
     |true=>exact rS.pure
     |false=>exact e2
    refine⟨b1||b2,?_,fun hb j hj hij c hc=>?_⟩
    ·refine rS.lp (fun n m=>by simp only[Nd,yg,mB];exact rfl) ?_;simp only[sJ,ik,decide_true,jE,vh sJ,iq,hw,beq_self_eq_true];rw[hu2 i (by omega),<-hkk];rcases Vx t.kind i with h|h<;>rw[h]at hd' ⊢
     ·have e0:((0:Int)==1)=false:=rfl;have e9:(d:Int)=(d':Int):=by omega
      simp only[e0,jF];rw[<-e9]at step;exact step
     ·have e0:((1:Int)==1)=true:=rfl;have e9:IntKind.i64.wrap ((d:Int)+1)=(d':Int):=by rw[hd',ri (by omega) (by simp only[lf]at hd;omega)]
      simp only[e0,jE,e9];exact step
    ·rw[jo]at hb;by_cases hq:j=i
     ·subst hq;have:d+c=d':=by omega
      rw[this];exact f1 hb.1
     ·exact f2 hb.2 j hj (by omega) c hc
  obtain⟨b,e1,f1⟩:=loop t.kI.length 0 (by omega);have rd:=aGo t d;cases ho:t.kind==0&&(decide ((d:Int)<=t.index)&&IntKind.i64.wrap (t.index-d)==0)with
  |true=>
   rw[ho]at rd;refine⟨true,?_,fun h=>by cases h⟩;refine Ev.fn (fun n=>by simp only[rU,kL,CK];exact rfl) ?_;refine Ev.bind rd ?_;exact Ev.pure
  |false=>
   rw[ho]at rd;refine⟨b,?_,fun hb aQo=>?_⟩
   ·refine Ev.fn (fun n=>by simp only[rU,kL,CK];exact rfl) ?_;refine Ev.bind rd ?_;have a1:decide (0<=t.kind)=true:=jG ok.lo;have a2:decide (t.kind<13)=true:=jG ok.hi;have a3:decide (0<=t.kind/\t.kind<13)=true:=jG ⟨ok.lo,ok.hi⟩;have a4:(Eh 13 K)[t.kind.toNat]? =some u:=by rw[hkk,iF];exact hu1
    simp only[jF,jE,a1,a2,a3,a4,iq];exact Ev.GA e1
   ·cases aQo with
    |here h1 h2=>
     have e0:IntKind.i64.wrap (t.index-d)=0:=by rw[h2,Int.sub_self];rfl
     rw[h1,e0,h2,jG (Int.le_refl _)]at ho;cases ho
    |kid i hi c hc h1=>exact f1 hb i hi (by omega) c hc h1
theorem aGp(t:jW)(ok:OkT t)(hk:t.kQ<=lf):∃b:Bool,Ev (fun n=>aQV n t 0) b/\(b=false-> ¬ avX t 0):=by
 obtain⟨b,h1,h2⟩:=aD7 aBG aIT t ok 0 (by omega);refine⟨b,?_,h2⟩;refine Ev.fn (fun n=>by simp only[aQV,kL,aam,mB];exact rfl) ?_;have hn:Ev (fun n=>KQ n t) t:=by refine Ev.fn (fun n=>by simp only[KQ,kL,Vb,mB];exact rfl) ?_;exact Ev.pure
 have e:decide ((0:Int)<0)=false:=rfl;simp only[e,jF];refine Ev.bind hn ?_
 have h3:Ev (fun n=>KH n t 0 false) (bif b then((((),1),(0,()),(true,()),()),())else((((),0),(0,()),(false,()),()),())):=by
  refine Ev.fn (fun n=>by simp only[KH,kL,Nw,mC];exact rfl) ?_;refine Ev.bind aLh (Ev.bind h1 ?_);cases b<;>exact Ev.pure
 refine Ev.bind h3 ?_;cases b<;>exact Ev.pure
theorem aE6(h:l.length<=lf)(k:Nat):((l.take l.length).drop k).length<=lf:=by
 rw[jj,iE];omega
theorem aNi(h:k<=lf*2):decide ((k+1)*24<=17592186044416)=true:=by
 simp only[lf]at h;simp only[jK];omega
theorem aIW(vs:List kp)(hv:vs.length<=lf):Ev (fun n=>oH n vs ()) (vs.any fun v=>decide (v.index<0)):=by
 refine kY.ev ?_;refine kY.fn (fun n=>by simp only[oH,kL,pZ,mB];exact rfl) ?_;refine kY.bind (P:=fun r=>decide (0<=r)=vs.any fun v=>decide (v.index<0)) ?_ fun r hr=>kY.pure hr
 refine kY.fn (fun n=>by simp only[qS,kL,qz,mB];exact rfl) ?_;refine kY.GA (F:=fun n m=>ny n m vs vs.length 0) ?_;refine ke.up (S:=Unit) (L:=fun n m i _=>ny n m vs vs.length i) vs.length (fun i _=>(vs.any fun v=>decide (v.index<0))=((vs.drop i).any fun v=>decide (v.index<0))) _ ?_ ?_ 0 () (by omega) rfl
 ·intro i u hi hI next
  refine ke.lp (fun n m=>by simp only[tB,nv,mB];exact rfl) ?_;simp only[hi,ik,decide_true,jE];refine ke.Bz hi ?_;rw[Sh _ _ _ hi]at hI;have h3:Ev (fun n=>Bd n vs[i]) (decide (vs[i].index<0)):=by refine Ev.fn (fun n=>by simp only[Bd,kL,C6,mB];exact rfl) ?_;exact Ev.pure
  refine ke.oU (h3.tot (Q:=(· =decide (vs[i].index<0))) rfl) fun x hx=>?_
  subst hx;refine ke.oQ (fun hc=>ke.pure ?_) fun hc=>?_
  ·rw[hI,hc,iI];simp
  ·rw[lj (by simp only[lf]at hv;omega)];exact next u (by rw[hI,hc,iG])
 ·intro u hI;refine ke.lp (fun n m=>by simp only[tB,nv,mB];exact rfl) ?_;simp only[ij,decide_false,jF];refine ke.pure ?_;rw[hI,iA];rfl
structure At(L:List kj)(k:Nat)(s:kj):Prop where
 lt:k<L.length
 eq:L[k]=s
 last:∀j (hj:j<L.length),k<j->L[j]≠s
theorem At.of{L:List kj}(h:k<L.length)(ha:((L.take L.length).drop (k+1)).any (· ==L[k])=false):At L k L[k]:=by
 refine⟨h,rfl,fun j hj hkj e=>?_⟩;rw[iN]at ha
 have h1:L[j]∈L.drop (k+1):=by
  rw[jx];refine⟨j-(k+1),by rw[jj];omega,?_⟩;rw[List.getElem_drop];congr 1;omega
 have h2:=List.any_eq_false.1 ha _ h1;rw[e]at h2;simp at h2
theorem aBH{w:List kj}(h:aw0 w s=true):s≠[]:=by
 rintro rfl;unfold aw0 ajs at h;have:Uc []=false:=rfl;rw[this]at h;cases h
theorem aBI(h:PN x)(i:Int)(d:Nat)(h0:0<=i)(h1:i<=9223372036854775807)(hd:d<=lf-20):
 ∃(s:kj)(e:Int),Ev (fun n=>qW n x i d) (s,e)/\(e=0->∃k:Nat,i+k+1=x.AA.length+d/\(x.AA.length<=k->Bv x k s)/\(k<x.AA.length->At x.AA k s/\s≠[])):=by
 have hl:=h.ayN;simp only[lf]at hl hd;by_cases sJ:i<d
 ·obtain⟨r,b1⟩:=aBF h (x.AA.length+d-1-i.toNat) (by simp only[lf];omega)
  have e:IntKind.i64.wrap (IntKind.i64.wrap (IntKind.i64.wrap ((x.AA.length:Int)+d)-1)-i)=((x.AA.length+d-1-i.toNat:Nat):Int):=by
   rw[ri (n:=(x.AA.length:Int)+d) (by omega) (by omega),ri (n:=(x.AA.length:Int)+d-1) (by omega) (by omega),ri (by omega) (by omega)];omega
  refine⟨r,0,?_,fun _=>⟨x.AA.length+d-1-i.toNat,by omega,fun _=>b1,fun hq=>by omega⟩⟩;refine Ev.fn (fun n=>by simp only[qW,kL,q7,mB2];exact rfl) ?_;simp only[jG sJ,jE,e];exact Ev.bind b1.ev Ev.pure
 ·have e:IntKind.i64.wrap (IntKind.i64.wrap ((x.AA.length:Int)-1)-IntKind.i64.wrap (i-d))=(x.AA.length:Int)-1-(i-d):=by
   rw[ri (n:=(x.AA.length:Int)-1) (by omega) (by omega),ri (n:=i-d) (by omega) (by omega),ri (by omega) (by omega)]
  by_cases hk:(x.AA.length:Int)-1-(i-d)<0
  ·refine⟨[],29,?_,fun h=>by cases h⟩;refine Ev.fn (fun n=>by simp only[qW,kL,q7,mB2];exact rfl) ?_;simp only[jH sJ,jF,e,jG hk,jE];exact Ev.pure
  ·obtain⟨k,hkk⟩:∃k:Nat,(x.AA.length:Int)-1-(i-d)=(k:Int):=⟨((x.AA.length:Int)-1-(i-d)).toNat,by omega⟩;have hkl:k<x.AA.length:=by omega
   rw[hkk]at e hk;have hw:=lj (i:=k) (by omega);have hr:decide ((0:Int)<=((k+1:Nat):Int)/\((k+1:Nat):Int)<=(x.AA.length:Int)/\(x.AA.length:Int)<=(x.AA.length:Int))=true:=jG ⟨by omega,by omega,by omega⟩;have hs:=h.cs _ (il hkl);have s1:=aw1 x.IL x.AA[k] (by have:=h.aGn;omega) (by omega);have c1:=EU ((x.AA.take x.AA.length).drop (k+1)) x.AA[k] (by have:=aE6 h.ayN (k+1);omega);cases hsm:aw0 x.IL x.AA[k]with
   |false=>
    rw[hsm]at s1;refine⟨[],29,?_,fun h=>by cases h⟩;refine Ev.fn (fun n=>by simp only[qW,kL,q7,mB2];exact rfl) ?_;simp only[jH sJ,jF,e,jH hk,vh hkl,iq];exact Ev.bind s1 Ev.pure
   |true=>
    rw[hsm]at s1;cases ha:((x.AA.take x.AA.length).drop (k+1)).any (· ==x.AA[k])with
    |true=>
     rw[ha]at c1;refine⟨[],29,?_,fun h=>by cases h⟩;refine Ev.fn (fun n=>by simp only[qW,kL,q7,mB2];exact rfl) ?_;simp only[jH sJ,jF,e,jH hk,vh hkl,iq,hw,hr,jE,iF];exact Ev.bind s1 (Ev.bind c1 Ev.pure)
    |false=>
     rw[ha]at c1;refine⟨x.AA[k],0,?_,fun _=>⟨k,by omega,fun hq=>by omega,fun _=>⟨At.of hkl ha,aBH hsm⟩⟩⟩;refine Ev.fn (fun n=>by simp only[qW,kL,q7,mB2];exact rfl) ?_;simp only[jH sJ,jF,e,jH hk,vh hkl,iq,hw,hr,jE,iF];exact Ev.bind s1 (Ev.bind c1 Ev.pure)
inductive AtL(L:List kj):List kp->List j7->Prop
 |nil:AtL L [] []
 |cons {v:kp} {vs:List kp} {a:j7} {al:List j7} (k:Nat) (h1:v.index=k) (h2:At L k a.name) (h3:a.name≠[]) (h4:a.plus=v.plus) (h:AtL L vs al):AtL L (v::vs) (a::al)
theorem aBJ(h:PN x)(l:kA)(hv:l.vars.length<=lf)(hp:∀v∈l.vars,0<=v.index):∀(q i:Nat)(r:List j7),i+q=l.vars.length->r.length<=i+1->
 ∃(z:jX)(e:Int),rS (fun n m=>wT n m x l.vars l.vars.length i r) (z,e)/\(e=0->z.alL=false/\∃al,z.z8=r++al/\AtL x.kg (l.vars.drop i) al):=by
 intro q;induction q with
 |zero=>
  intro i r hi hr;obtain rfl:i=l.vars.length:=by omega
  refine⟨{alL:=false,z8:=r},0,?_,fun _=>⟨rfl,[],by rw[iL],by rw[iA];exact .nil⟩⟩;refine rS.lp (fun n m=>by simp only[uZ,qX,mB];exact rfl) ?_;simp only[ij,decide_false,jF];exact rS.pure
 |succ q ih=>
  intro i r hi hr;have sJ:i<l.vars.length:=by omega
  have h0:=hp _ (il sJ);have hw:=lj (i:=i) (by simp only[lf]at hv;omega);have hll:=h.aNd;by_cases aB2:(x.kg.length:Int)<=l.vars[i].index
  ·refine⟨{alL:=false,z8:=[]},29,?_,fun h=>by cases h⟩;refine rS.lp (fun n m=>by simp only[uZ,qX,mB];exact rfl) ?_;simp only[sJ,ik,decide_true,jE,vh sJ,iq,jG aB2];exact rS.pure
  ·obtain⟨k,hk⟩:∃k:Nat,l.vars[i].index=(k:Int):=⟨l.vars[i].index.toNat,by omega⟩;have hkl:k<x.kg.length:=by omega
   rw[hk]at aB2;have hwk:=lj (i:=k) (by simp only[lf]at hll;omega);have hr2:decide ((0:Int)<=((k+1:Nat):Int)/\((k+1:Nat):Int)<=(x.kg.length:Int)/\(x.kg.length:Int)<=(x.kg.length:Int))=true:=jG ⟨by omega,by omega,by omega⟩;have hs:=h.ls _ (il hkl);have s1:=aw1 x.IL x.kg[k] (by have:=h.aGn;omega) (by omega);have c1:=EU ((x.kg.take x.kg.length).drop (k+1)) x.kg[k] (by have:=aE6 h.aNd (k+1);omega);cases hsm:aw0 x.IL x.kg[k]with
   |false=>
    rw[hsm]at s1;refine⟨{alL:=false,z8:=[]},29,?_,fun h=>by cases h⟩;refine rS.lp (fun n m=>by simp only[uZ,qX,mB];exact rfl) ?_;simp only[sJ,ik,decide_true,jE,vh sJ,iq,hk,jH aB2,jF,vh hkl];exact rS.oU s1 rS.pure
   |true=>
    rw[hsm]at s1;cases ha:((x.kg.take x.kg.length).drop (k+1)).any (· ==x.kg[k])with
    |true=>
     rw[ha]at c1;refine⟨{alL:=false,z8:=[]},29,?_,fun h=>by cases h⟩;refine rS.lp (fun n m=>by simp only[uZ,qX,mB];exact rfl) ?_;simp only[sJ,ik,decide_true,jE,vh sJ,iq,hk,jH aB2,jF,vh hkl,hwk,hr2,iF];exact rS.oU s1 (rS.oU c1 rS.pure)
    |false=>
     rw[ha]at c1;have Bm:=aNi (k:=r.length) (by omega);obtain⟨z,e,f1,f2⟩:=ih (i+1) (r++[{name:=x.kg[k],plus:=l.vars[i].plus}]) (by omega) (by rw[iv,iz];omega);refine⟨z,e,?_,fun he=>?_⟩
     ·refine rS.lp (fun n m=>by simp only[uZ,qX,mB];exact rfl) ?_;simp only[sJ,ik,decide_true,jE,vh sJ,iq,hk,jH aB2,jF,vh hkl,hwk,hr2,iF,Bm,hw];exact rS.oU s1 (rS.oU c1 f1)
     ·obtain⟨g1,al,g2,g3⟩:=f2 he;refine⟨g1,{name:=x.kg[k],plus:=l.vars[i].plus}::al,by rw[g2,iR];rfl,?_⟩;rw[ir sJ];exact .cons k hk (At.of hkl ha) (aBH hsm) rfl g3
def Xz(l:kA):List j7:=bif l.const !=0 then [{name:=[],plus:=l.const}] else bif (l.vars.length:Int)==0 then [{name:=[],plus:=l.const}] else []
theorem aIX(h:PN x)(l:kA)(hv:l.vars.length<=lf)(hp:∀v∈l.vars,0<=v.index):
 ∃(z:jX)(e:Int),Ev (fun n=>zm n x l) (z,e)/\(e=0->z.alL=false/\∃al,z.z8=Xz l++al/\AtL x.kg l.vars al):=by
 have hh:=aIW l.vars hv
 have hb:l.vars.any (fun v=>decide (v.index<0))=false:=List.any_eq_false.2 fun v hv'=>by
  have:=hp v hv';simp only[jK];omega
 rw[hb]at hh;have hc:(Xz l).length<=1:=by unfold Xz;cases l.const !=0<;>cases (l.vars.length:Int)==0<;>simp
 obtain⟨z,e,f1,f2⟩:=aBJ h l hv hp l.vars.length 0 (Xz l) (by omega) (by omega);rw[iY]at f2;refine⟨z,e,?_,f2⟩;have g1:=Ev.GA (F:=fun n m=>wT n m x l.vars l.vars.length 0 (Xz l)) f1;unfold Xz at g1;refine Ev.fn (fun n=>by simp only[zm,kL,FQ,mB];exact rfl) ?_;refine Ev.bind hh ?_;cases hq:l.const !=0 with
 |true=>rw[hq]at g1;exact g1
 |false=>
  rw[hq]at g1;cases hr:(l.vars.length:Int)==0 with
  |true=>rw[hr]at g1;exact g1
  |false=>rw[hr]at g1;exact g1
theorem aqv{env:List kz}{ns:List kj}{name r:kj}:∀{k:Nat},aeP env ns name k=some r->Ac env r=true
 |0,h=>by cases h
 |k+1,h=>by
  unfold aeP at h;cases hd:Ac env (UY (ns.take (k+1)) name)with
  |true=>rw[hd,jE,Option.some.injEq]at h;subst h;exact hd
  |false=>rw[hd,jF]at h;exact aqv h
theorem aGq(h:(auk st s).2=0):Ac st.env (auk st s).1=true:=by
 unfold auk at h ⊢;cases hn:Uc s with
 |false=>rw[hn]at h;cases h
 |true=>
  simp only[hn,jE]at h ⊢;cases hs:aeP st.env st.sB s st.sB.length with
  |some r=>exact aqv hs
  |none=>
   simp only[hs]at h ⊢;cases hc:UZ st.env st.opens s with
   |nil=>
    simp only[hc,aBC]at h ⊢;cases hd:Ac st.env s with
    |true=>exact hd
    |false=>rw[hd]at h;cases h
   |cons r rs=>
    simp only[hc,aBC]at h ⊢;cases ha:rs.all (· ==r)with
    |true=>
     have:r∈UZ st.env st.opens s:=by rw[hc];simp
     unfold UZ at this;exact(List.mem_filter.1 this).2
    |false=>rw[ha]at h;cases h
theorem aBK(h:PN x)(s:kj)(hs:s.length<=lf):∃e:Int,Ev (fun n=>zW n x s) e/\(e=0->Ac x.st.env s=true):=by
 have r1:=aD6 x.st h.sok s (by omega);have p1:=aoz x.IL s (by have:=h.aGn;omega) (by omega);have c1:=EU x.AA s (by have:=h.ayN;omega);refine⟨bif ajs x.IL s then bif x.AA.any (· ==s)then 29 else bif (auk x.st s).2 !=0 then 29 else bif (auk x.st s).1==s then 0 else 29 else 29,?_,fun he=>?_⟩
 ·refine Ev.fn (fun n=>by simp only[zW,kL,Ci,mB];exact rfl) ?_;refine Ev.bind r1 (Ev.bind p1 ?_);cases ajs x.IL s with
  |false=>exact Ev.pure
  |true=>
   refine Ev.bind c1 ?_;cases x.AA.any (· ==s)<;>cases (auk x.st s).2 !=0<;>cases (auk x.st s).1==s<;>exact Ev.pure
 ·cases h1:ajs x.IL s with
  |false=>rw[h1]at he;cases he
  |true=>
   cases h2:x.AA.any (· ==s)with
   |true=>rw[h1,h2]at he;cases he
   |false=>
    cases h3:(auk x.st s).2 !=0 with
    |true=>rw[h1,h2,h3]at he;cases he
    |false=>
     cases h4:(auk x.st s).1==s with
     |false=>rw[h1,h2,h3,h4]at he;cases he
     |true=>
      have e4:=jL.1 h4;have:=aGq (st:=x.st) (s:=s) (by simpa using h3);rw[e4]at this;exact this
theorem aw3{s:kj}:∀{env:List kz}(i:Nat),Ac env s=true->(K7 s i env).2=0
 |[],_,h=>by cases h
 |d::ds,i,h=>by
  unfold K7;cases hd:(yY d).any (· ==s)with
  |true=>rfl
  |false=>
   rw[jF];refine aw3 (i+1) ?_;unfold Ac at h ⊢;rw[iT,hd,iG]at h;exact h
theorem aLi(h:k<=lf*2):decide ((k+1)*16<=17592186044416)=true:=by
 simp only[lf]at h;simp only[jK];omega
theorem aBL(f:Nat)(X0:List kj->List j7->Int->Int->jX->Int->List kp->Option (kA×Bool))(L:List kj)(hL:L.length<=lf)(V:List j7)(aQ5:Int)(i:Nat)(hi:i<=lf*2)(z:jX)(c:Int)(r:List kp)(hr:r.length<=lf*2)(a:j7)(k:Nat)(hk:At L k a.name):
 ∀(d j:Nat)(p:Int),j+d=L.length->(k<j->p=k)->∀m,d<m->M4 f X0 m L p V aQ5 (i:Int) L (L.length:Int) (j:Int) z c r a=X0 L V aQ5 ((i+1:Nat):Int) z c (r++[{index:=k,plus:=a.plus}]):=by
 intro d;induction d with
 |zero=>
  intro j p hj hp m hm;obtain⟨m,rfl⟩:∃m',m=m'+1:=⟨m-1,by omega⟩;obtain rfl:j=L.length:=by omega
  have:=hk.lt;obtain rfl:=hp (by omega);have h1:decide ((k:Int)<0)=false:=jH (by omega);simp only[abK,Hj,mB,ij,decide_false,jF,h1,aLi hr,jE,lj (i:=i) (by simp only[lf]at hi;omega),mB]
 |succ d ih=>
  intro j p hj hp m hm;obtain⟨m,rfl⟩:∃m',m=m'+1:=⟨m-1,by omega⟩;have sJ:j<L.length:=by omega
  simp only[abK,Hj,mB,sJ,ik,decide_true,jE,vh sJ,iq,lj (i:=j) (by simp only[lf]at hL;omega),mB];cases he:L[j]==a.name with
  |true=>
   rw[jE];refine ih (j+1) j (by omega) (fun h=>?_) m (by omega);have e:=jL.1 he;by_cases hkj:k<j
   ·exact absurd e (hk.last j sJ hkj)
   ·omega
  |false=>
   rw[jF];refine ih (j+1) p (by omega) (fun h=>?_) m (by omega);by_cases hkj:k=j
   ·subst hkj;rw[hk.eq]at he;simp at he
   ·exact hp (by omega)
theorem aqw(L:List kj)(hL:L.length<=lf)(z:jX)(hz:z.alL=false)(hzl:z.z8.length<=lf*2):∀{vs:List kp}{al:List j7},AtL L vs al->∀(i:Nat)(r:List kp)(c:Int),z.z8.drop i=al->i<=z.z8.length->r.length<=i->
 ∃N,∀f m,N<=f->N<=m->De f m L z.z8 (z.z8.length:Int) (i:Int) z c r=some ({const:=c,vars:=r++vs},true):=by
 intro vs al h;induction h with
 |nil=>
  intro i r c hd hi hr
  have hle:z.z8.length<=i:=by
   have:=congrArg List.length hd;rw[jj,iC]at this;omega
  refine⟨1,fun f m hf hm=>?_⟩;obtain⟨m,rfl⟩:∃m',m=m'+1:=⟨m-1,by omega⟩;have h1:decide ((i:Int)<(z.z8.length:Int))=false:=jH (by omega);simp only[P5,Dd,mB,h1,jF,hz,jw,iL]
 | @cons v vs a al k h1 h2 h3 h4 h ih=>
   intro i r c hd hi hr
   have sJ:i<z.z8.length:=by
    have:=congrArg List.length hd;rw[jj,iw]at this;omega
   rw[ir sJ,List.cons.injEq]at hd;obtain⟨N,hN⟩:=ih (i+1) (r++[v]) c hd.2 (by omega) (by rw[iv,iz];omega);refine⟨max (N+1) (L.length+2),fun f m hf hm=>?_⟩;obtain⟨m,rfl⟩:∃m',m=m'+1:=⟨m-1,by omega⟩;have sv:(a.name==[])=false:=by simpa using h3
   have hin:=aBL f (De f m) L hL z.z8 (z.z8.length:Int) i (by omega) z c r (by omega) a k h2 L.length 0 (-1) (by omega) (fun h=>by omega) f (by omega);simp only[P5,Dd,mB,sJ,ik,decide_true,jE,vh sJ,iq,hd.1,sv,jF];have hv:({index:=(k:Int),plus:=a.plus}:kp)=v:=by rw[h4,<-h1]
   rw[hv]at hin;refine Eq.trans hin ?_;have:=hN f m (by omega) (by omega);rw[iR]at this;exact this
theorem aD8(L:List kj)(hL:L.length<=lf)(l:kA)(ok:0<=l.const)(hl:l.vars.length<=lf)(z:jX)(hz:z.alL=false)(al:List j7)(ha:z.z8=Xz l++al)(h:AtL L l.vars al):Ev (fun n=>uG n z L) (l,true):=by
 have hlen:∀{vs:List kp}{al:List j7},AtL L vs al->al.length=vs.length:=by
  intro vs al h;induction h with
  |nil=>rfl
  |cons k h1 h2 h3 h4 h ih=>rw[iw,iw,ih]
 have hal:=hlen h
 have hzl:z.z8.length<=lf*2:=by
  rw[ha,iv,hal];have:(Xz l).length<=1:=by unfold Xz;cases l.const !=0<;>cases (l.vars.length:Int)==0<;>simp
  simp only[lf]at hl ⊢;omega
 have el:({const:=l.const,vars:=l.vars}:kA)=l:=by cases l;rfl
 have one:Xz l=[{name:=[],plus:=l.const}]->Ev (fun n=>uG n z L) (l,true):=by
  intro hc;rw[hc]at ha;have h0:0<z.z8.length:=by rw[ha];simp
  have hz0:z.z8[0]={name:=[],plus:=l.const}:=by simp only[ha];rfl
  obtain⟨N,hN⟩:=aqw L hL z hz hzl h 1 [] l.const (by rw[ha];rfl) (by omega) (by simp);refine Ev.fn (fun n=>by simp only[uG,kL,Qy,mB];exact rfl) ?_;refine⟨N+1,fun n hn=>?_⟩;obtain⟨m,hm⟩:∃m,n=m+1:=⟨n-1,by omega⟩;have hd:decide ((0:Int)<(z.z8.length:Int))=true:=jG (by omega);have hi:Mg z.z8 0=some z.z8[0]:=vh (i:=0) h0;have hw:IntKind.i64.wrap ((0:Int)+1)=((1:Nat):Int):=rfl
  have aQp:(if l.const>0 then l.const else 0)=l.const:=by
   by_cases hp:l.const>0
   ·rw[if_pos hp]
   ·rw[if_neg hp];omega
  have:=hN n m (by omega) (by omega);rw[iO,el]at this;show De n n L z.z8 (z.z8.length:Int) 0 z 0 []=_
  conv=>lhs;arg 2;rw[hm]
  simp only[P5,Dd,mB,hd,jE,hi,iq,hz0,beq_self_eq_true,hw,aQp];exact this
 unfold Xz at one ha;cases hq:l.const !=0 with
 |true=>rw[hq]at one;exact one rfl
 |false=>
  cases hr:(l.vars.length:Int)==0 with
  |true=>rw[hq,hr]at one;exact one rfl
  |false=>
   rw[hq,hr,jF,jF,iO]at ha;have hc:l.const=0:=by simpa using hq
   obtain⟨N,hN⟩:=aqw L hL z hz hzl h 0 [] 0 (by rw[iY];exact ha) (by omega) (by simp);refine Ev.fn (fun n=>by simp only[uG,kL,Qy,mB];exact rfl) ?_;refine⟨N,fun n hn=>?_⟩;have:=hN n n hn hn;have el0:({const:=0,vars:=l.vars}:kA)=l:=by rw[<-hc]
   rw[iO,el0]at this;exact this
theorem aLj(h:k<=10):decide ((k+1)*80<=17592186044416)=true:=jG (by omega)
theorem aLk(h:k<=lf*2):decide ((k+1)*32<=17592186044416)=true:=by
 simp only[lf]at h;simp only[jK];omega
theorem aGr(N:List kj)(hN:N.length<=lf*2)(z:Syntax)(p:Nat)(hp:At N p z.text):∀d:Nat,p+d<N.length->
 rS (fun n m=>QD (nV n) n m N ((p+d:Nat):Int) z) (jW.mk 0 ((N.length-1-p:Nat):Int) [] [] [],true):=by
 intro d;induction d with
 |zero=>
  intro hd;have h0:decide ((0:Int)<=((p+0:Nat):Int))=true:=jG (by omega)
  have e:IntKind.i64.wrap (IntKind.i64.wrap ((N.length:Int)-1)-((p+0:Nat):Int))=((N.length-1-p:Nat):Int):=by
   simp only[lf]at hN;rw[ri (n:=(N.length:Int)-1) (by omega) (by omega),ri (by omega) (by omega)];omega
  have hq:(N[p+0]==z.text)=true:=by have:=hp.eq;simp [this]
  refine rS.lp (fun n m=>by simp only[afj,aQI,mB];exact rfl) ?_;simp only[h0,jE,vh hd,iq,hq,e];exact rS.pure
 |succ d ih=>
  intro hd;have h0:decide ((0:Int)<=((p+(d+1):Nat):Int))=true:=jG (by omega)
  have hq:(N[p+(d+1)]==z.text)=false:=by
   have:=hp.last (p+(d+1)) hd (by omega);simpa using this
  have e:IntKind.i64.wrap (((p+(d+1):Nat):Int)-1)=((p+d:Nat):Int):=by
   simp only[lf]at hN;rw[ri (by omega) (by omega)];omega
  refine rS.lp (fun n m=>by simp only[afj,aQI,mB];exact rfl) ?_;simp only[h0,jE,vh hd,iq,hq,jF,e];exact ih (by omega)
theorem aIY(N L:List kj)(hN:N.length<=lf*2)(z:Syntax)(h1:z.kind=0)(h2:z.num=0)(p:Nat)(hp:At N p z.text):Ev (fun n=>nV n z N L) (jW.mk 0 ((N.length-1-p:Nat):Int) [] [] [],true):=by
 have sJ:=hp.lt;have hf:=Ev.GA (aGr N hN z p hp (N.length-1-p) (by omega))
 have e:IntKind.i64.wrap ((N.length:Int)-1)=((p+(N.length-1-p):Nat):Int):=by
  simp only[lf]at hN;rw[ri (by omega) (by omega)];omega
 refine Ev.fn (fun n=>by simp only[nV,kL,Iw,mB];exact rfl) ?_;simp only[h1,h2,beq_self_eq_true,jE,e];exact hf
def inN(kk:Int)(z:Syntax)(N:List kj)(i:Nat):List kj:=bif ((i:Int)==(z.kI.length:Int)-1)&&(kk==5||(kk==6||(kk==7||kk==11)))then N++[z.text] else N
theorem aLl(N L:List kj)(hN:N.length<=lf*2)(z:Syntax)(kk:Int)(nm:kj)(lv:List kA)(ks:List jW)(h:z.kI.length=ks.length)(h3:z.kI.length<=3)
 (hb:∀i (hi:i<z.kI.length) (hj:i<ks.length),Ev (fun n=>nV n z.kI[i] (inN kk z N i) L) (ks[i],true)):
 ∀(q i:Nat),i+q=z.kI.length->rS (fun n m=>B9 (nV n) n m N L z.kI (z.kI.length:Int) (i:Int) z kk nm lv (ks.take i)) (jW.mk kk 0 nm lv ks,true):=by
 intro q;induction q with
 |zero=>
  intro i hi;obtain rfl:i=z.kI.length:=by omega
  refine rS.lp (fun n m=>by simp only[afh,asP,mB];exact rfl) ?_;simp only[ij,decide_false,jF];rw[jv (by omega)];exact rS.pure
 |succ q ih=>
  intro i hi;have sJ:i<z.kI.length:=by omega
  have hj:i<ks.length:=by omega
  have hr:=hb i sJ hj;have Bm:=aLj (k:=(ks.take i).length) (by rw[iE];omega);have hw:=lj (i:=i) (by omega);have hlen:IntKind.i64.wrap ((z.kI.length:Int)-1)=(z.kI.length:Int)-1:=ri (by omega) (by omega);have nx:=ih (i+1) (by omega);rw[iD hj]at nx
  have tail:∀M:List kj,M=inN kk z N i->rS (fun n m=>(nV n z.kI[i] M L).bind fun x=>bif x.snd then bif decide (((ks.take i).length+1)*80<=17592186044416)then B9 (nV n) n m N L z.kI (z.kI.length:Int) ((i+1:Nat):Int) z kk nm lv (ks.take i++[x.fst])else none
   else some (jW.mk 0 0 [] [] [],false)) (jW.mk kk 0 nm lv ks,true):=fun M hM=>by
   subst hM;refine rS.oU hr ?_;simp only[jE,Bm];exact nx
  have hcl:=aBB N (by omega);have aQq:decide ((N.length+1)*16<=17592186044416)=true:=jG (by simp only[lf]at hN;omega)
  have key:inN kk z N i=N++[z.text]->rS (fun n m=>(tI n N).bind fun x_1=>bif decide ((x_1.fst.fst.length+1)*16<=17592186044416)then(nV n z.kI[i] (x_1.fst.fst++[z.text]) L).bind fun x=>bif x.snd then bif decide (((ks.take i).length+1)*80<=17592186044416)then B9 (nV n) n m N L z.kI (z.kI.length:Int) ((i+1:Nat):Int) z kk nm lv (ks.take i++[x.fst])else none
   else some (jW.mk 0 0 [] [] [],false)else none) (jW.mk kk 0 nm lv ks,true):=fun hi=>by
   refine rS.oU hcl ?_;simp only[aQq,jE];exact tail _ hi.symm
  refine rS.lp (fun n m=>by simp only[afh,asP,mB];exact rfl) ?_;simp only[sJ,ik,decide_true,jE,vh sJ,iq,hw,hlen];cases h1:((i:Int)==(z.kI.length:Int)-1)with
  |false=>exact tail N (by unfold inN;rw[h1];rfl)
  |true=>
   cases h5:kk==5 with
   |true=>exact key (by unfold inN;rw[h1,h5];rfl)
   |false=>
    cases h6:kk==6 with
    |true=>exact key (by unfold inN;rw[h1,h5,h6];rfl)
    |false=>
     cases h7:kk==7 with
     |true=>exact key (by unfold inN;rw[h1,h5,h6,h7];rfl)
     |false=>
      cases h11:kk==11 with
      |true=>exact key (by unfold inN;rw[h1,h5,h6,h7,h11];rfl)
      |false=>exact tail N (by unfold inN;rw[h1,h5,h6,h7,h11];rfl)
theorem ayO(N L:List kj)(hN:N.length<=lf*2)(z:Syntax)(kk:Int)(nm:kj)(lv:List kA)(ks:List jW)(hl:z.kg.length=lv.length)(hlg:z.kg.length<=lf)(hlv:∀i (hi:i<z.kg.length) (hj:i<lv.length),Ev (fun n=>uG n z.kg[i] L) (lv[i],true))
 (h:z.kI.length=ks.length) (h3:z.kI.length<=3) (hb:∀i (hi:i<z.kI.length) (hj:i<ks.length),Ev (fun n=>nV n z.kI[i] (inN kk z N i) L) (ks[i],true)):
 Ev (fun n=>xX (nV n) n n N L z.kg (z.kg.length:Int) 0 z kk nm []) (jW.mk kk 0 nm lv ks,true):=by
 have k1:=Ev.GA (F:=fun n m=>B9 (nV n) n m N L z.kI (z.kI.length:Int) 0 z kk nm lv []) (aLl N L hN z kk nm lv ks h h3 hb z.kI.length 0 (by omega))
 have loop:∀(q i:Nat),i+q=z.kg.length->rS (fun n m=>xX (nV n) n m N L z.kg (z.kg.length:Int) (i:Int) z kk nm (lv.take i)) (jW.mk kk 0 nm lv ks,true):=by
  intro q;induction q with
  |zero=>
   intro i hi;obtain rfl:i=z.kg.length:=by omega
   refine rS.lp (fun n m=>by simp only[afi,ay4,mB];exact rfl) ?_;simp only[ij,decide_false,jF];rw[jv (by omega)];exact rS.of1 k1
  |succ q ih=>
   intro i hi;have sJ:i<z.kg.length:=by omega
   have hj:i<lv.length:=by omega
   have Bm:=aLk (k:=(lv.take i).length) (by rw[iE];omega);have nx:=ih (i+1) (by omega);rw[iD hj]at nx;refine rS.lp (fun n m=>by simp only[afi,ay4,mB];exact rfl) ?_;simp only[sJ,ik,decide_true,jE,vh sJ,iq,lj (i:=i) (by simp only[lf]at hlg;omega)];refine rS.oU (hlv i sJ hj) ?_;simp only[jE,Bm];exact nx
 exact Ev.GA (F:=fun n m=>xX (nV n) n m N L z.kg (z.kg.length:Int) 0 z kk nm []) (loop z.kg.length 0 (by omega))
theorem aD9(N L:List kj)(z:Syntax)(h1:z.kind=0)(h2:z.num=1)(R:jW×Bool)(h:Ev (fun n=>xX (nV n) n n N L z.kg (z.kg.length:Int) 0 z 3 z.text []) R):Ev (fun n=>nV n z N L) R:=by
 refine Ev.fn (fun n=>by simp only[nV,kL,Iw,mB];exact rfl) ?_;simp only[h1,h2,iB,bne_self_eq_false,jE,jF];exact h
theorem aGs(N L:List kj)(z:Syntax)(K kk:Int)(h1:z.kind=K)(h0:(K==0)=false)(h13:(K==13)=false)(hf:aeR K [(10,1),(11,2),(2,4),(3,5),(4,6),(5,7),(7,9),(8,10),(9,11),(6,8)]=some kk)(R:jW×Bool)
 (h:Ev (fun n=>xX (nV n) n n N L z.kg (z.kg.length:Int) 0 z kk [] []) R):Ev (fun n=>nV n z N L) R:=by
 refine Ev.fn (fun n=>by simp only[nV,kL,Iw,mB];exact rfl) ?_;simp only[h1,h0,h13,bne,jw,jE,jF,hf,Option.isSome_some,Option.getD_some];exact h
theorem aGt(N L:List kj)(a b c:Syntax)(lv:List jX)(R:jW×Bool)
 (h:Ev (fun n=>xX (nV n) n n N L [] 0 0 (Syntax.mk 6 [] 0 [] [] [a,b,c] 0 0) 8 [] []) R):Ev (fun n=>nV n (Syntax.mk 13 [] 0 [] [] [Syntax.mk 6 [] 0 [] lv [b,c] 0 0,a] 0 0) N L) R:=by
 refine Ev.fn (fun n=>by simp only[nV,kL,Iw,mB];exact rfl) ?_;exact h
theorem rS.oQ{R:Type}{A B:Nat->Nat->Option R}{r:R}(h1:c=true->rS A r)(h2:c=false->rS B r):rS (fun n m=>bif c then A n m else B n m) r:=by
 cases c with
 |true=>exact h1 rfl
 |false=>exact h2 rfl
abbrev noS:Syntax:=Syntax.mk 0 [] 0 [] [] [] 0 0
theorem aLm(h:k<=10):decide ((k+1)*120<=17592186044416)=true:=jG (by omega)
theorem aNj(h:k<=lf*2):decide ((k+1)*32<=17592186044416)=true:=by
 simp only[lf]at h;simp only[jK];omega
theorem aw4(x:j3)(d:Int)(e:Int)(he:e≠0)(i:Int)(t:jW)(K:Int)(T:kj)(N:Int)(r4:List jX)(r5:List Syntax):
 rS (fun n m=>o9 (kO n) n m x d e i t K T N r4 r5) (noS,e):=by
 have h1:(e==0)=false:=by simpa using he
 have h2:(e !=0)=true:=by simpa using he
 refine rS.lp (fun n m=>by simp only[yM,tu,mB];exact rfl) ?_;simp only[h1,h2,jE,jF];exact rS.oQ (fun _=>rS.pure) fun _=>rS.pure
theorem aw5(x:j3)(d:Int)(e:Int)(he:e≠0)(i:Int)(t:jW)(K:Int)(T:kj)(N:Int)(r4:List jX):
 rS (fun n m=>pQ (kO n) n m x d e i t K T N r4) (noS,e):=by
 have h1:(e==0)=false:=by simpa using he
 have k:=rS.of1 (Ev.GA (F:=fun n m=>o9 (kO n) n m x d e 0 t K T N r4 []) (aw4 x d e he 0 t K T N r4 []));refine rS.lp (fun n m=>by simp only[DW,uP,mB];exact rfl) ?_;simp only[h1,jF];exact rS.oQ (fun _=>k) fun _=>k
inductive NoM:jW->Prop
 |mk {t:jW} (h:t.kind≠12) (hl:∀l∈t.kg,∀v∈l.vars,0<=v.index) (hk:∀k∈t.kI,NoM k):NoM t
theorem NoM.kind(h:NoM t):t.kind≠12:=by cases h;assumption
theorem NoM.lev(h:NoM t):∀l∈t.kg,∀v∈l.vars,0<=v.index:=by cases h;assumption
theorem NoM.kid(h:NoM t):∀k∈t.kI,NoM k:=by cases h;assumption
theorem NoM.aPd:∀t:jW,NoM t->NoM (K6 t).1:=by
 intro t;induction h:t.kQ using iy generalizing t with
 |ind k ih=>
  intro hg;by_cases hc:t.kind=4/\t.kI.length=2
  ·obtain⟨x,y,hxy⟩:=aNb hc.2;have hb:=aeK hxy;rw[amu hc.1 hxy];exact ih x.kQ (by omega) x rfl (hg.kid x (by rw[hxy];simp))
  ·rw[amv hc];exact hg
structure NN(x:j3)(N:List kj)(t:jW)(d:Nat):Prop where
 len:N.length=x.AA.length+d
 AA:∀k (hk:k<x.AA.length) (hN:k<N.length),N[k]=x.AA[k]
 bnd:∀j (hj:j<d) (hN:x.AA.length+j<N.length),Bv x (x.AA.length+j) N[x.AA.length+j]\/(N[x.AA.length+j]=[]/\ ¬ avX t (d-1-j))
theorem NN.kid{d:Nat}(h:NN x N t d)(i:Nat)(hi:i<t.kI.length)(h0:sI t.kind i=0):NN x N t.kI[i] d:=by
 refine⟨h.len,h.AA,fun j hj hN=>?_⟩;rcases h.bnd j hj hN with h1|⟨h1,h2⟩
 ·exact .inl h1
 ·exact .inr ⟨h1,fun h3=>h2 (.kid i hi 0 (by rw[h0];rfl) (by rw[Nat.add_zero];exact h3))⟩
theorem NN.bind{d:Nat}(h:NN x N t d)(i:Nat)(hi:i<t.kI.length)(h0:sI t.kind i=1)(T:kj)(hT:Bv x (x.AA.length+d) T\/(T=[]/\ ¬ avX t.kI[i] 0)):NN x (N++[T]) t.kI[i] (d+1):=by
 have hl:=h.len;refine⟨by rw[iv,iz,hl];omega,fun k hk hN=>?_,fun j hj hN=>?_⟩
 ·rw[iS (by omega)];exact h.AA k hk (by omega)
 ·by_cases hjd:j<d
  ·have e:(N++[T])[x.AA.length+j]=N[x.AA.length+j]'(by omega):=iS (by omega);rw[e];rcases h.bnd j hjd (by omega)with h1|⟨h1,h2⟩
   ·exact .inl h1
   ·refine .inr ⟨h1,fun h3=>h2 (.kid i hi 1 (by rw[h0];rfl) ?_)⟩;have:d-1-j+1=d+1-1-j:=by omega
    rw[this];exact h3
  ·obtain rfl:j=d:=by omega
   have e:(N++[T])[x.AA.length+j]=T:=by
    rw[jd (by omega)];simp only[hl,jC,iW]
   rw[e];rcases hT with h1|⟨h1,h2⟩
   ·exact .inl h1
   ·exact .inr ⟨h1,by rw[show j+1-1-j=0 by omega];exact h2⟩
structure QT(x:j3)(t:jW)(d:Nat)(z:Syntax):Prop where
 rd:∀N,NN x N t d->Ev (fun n=>nV n z N x.kg) (t,true)
 cs:∀s,Vu s t=true->Ac x.st.env s=true
def X9(k K:Int)(T:kj)(M:Int)(ls:List jX)(zs:List Syntax):Syntax:=
 bif k==8 then match zs with
  |a::bs=>Syntax.mk 13 [] 0 [] [] [Syntax.mk K T M [] ls bs 0 0,a] 0 0
  |[]=>noS
 else Syntax.mk K T M [] ls zs 0 0
theorem pick{R:Type}{A B:Nat->Nat->Option R}{r:R}(k i:Int)(hA:sI k i=1->rS A r)(hB:sI k i=0->rS B r):
 rS (fun n m=>bif i==1 then bif k==5 then A n m else bif k==6 then A n m else bif k==7 then A n m else bif i==2 then bif k==11 then A n m else B n m else B n m else bif i==2 then bif k==11 then A n m else B n m else B n m) r:=by
 unfold sI at hA hB;revert hA hB;cases i==1<;>cases k==5<;>cases k==6<;>cases k==7<;>cases i==2<;>cases k==11<;>intro hA hB<;>first|exact hA rfl|exact hB rfl
theorem aPe(t:jW)(ok:OkT t)(d:Nat)(hd:d<=lf)
 (ih:∀k∈t.kI,∀d':Nat,d'<=d+1->∃(z:Syntax)(e:Int),Ev (fun n=>kO n x k d') (z,e)/\(e=0->QT x k d' z)) (K:Int) (T:kj) (M:Int) (ls:List jX):
 ∀ (q i:Nat) (r5:List Syntax),i+q=t.kI.length->r5.length=i->(∀j (hj:j<r5.length) (hk:j<t.kI.length),QT x t.kI[j] (d+(sI t.kind j).toNat) r5[j])-> ∃ (z:Syntax) (e:Int),
   rS (fun n m=>o9 (kO n) n m x d 0 i t K T M ls r5) (z,e)/\(e=0->∃zs:List Syntax,zs.length=t.kI.length/\(∀j (hj:j<zs.length) (hk:j<t.kI.length),QT x t.kI[j] (d+(sI t.kind j).toNat) zs[j])/\z=X9 t.kind K T M ls zs):=by
 have h3:t.kI.length<=3:=by have:=ok.len;have:=aoC t.kind;omega
 have z0:((0:Int) !=0)=false:=rfl;have z1:((0:Int)==0)=true:=rfl;intro q;induction q with
 |zero=>
  intro i r5 hi hl hr;obtain rfl:i=t.kI.length:=by omega
  refine⟨X9 t.kind K T M ls r5,0,?_,fun _=>⟨r5,hl,hr,rfl⟩⟩;cases h8:t.kind==8 with
  |false=>
   unfold X9;rw[h8];refine rS.lp (fun n m=>by simp only[yM,tu,mB];exact rfl) ?_;simp only[ij,decide_false,jF,z0,h8];exact rS.pure
  |true=>
   have e8:t.kind=8:=jL.1 h8;have hk:=ok.len;rw[e8]at hk;have hk3:t.kI.length=3:=by have:PK 8=3:=rfl;omega
   rw[hk3]at hl
   match r5,hl with
   |[a,b,c],hl=>
    unfold X9;rw[h8];refine rS.lp (fun n m=>by simp only[yM,tu,mB];exact rfl) ?_;simp only[ij,decide_false,jF,jE,z0,h8];exact rS.pure
 |succ q ihq=>
  intro i r5 hi hl hr;have sJ:i<t.kI.length:=by omega
  have hw:=lj (i:=i) (by omega);have Bm:=aLm (k:=r5.length) (by omega)
  obtain⟨d',hd',aPc⟩:∃d':Nat,d+(sI t.kind i).toNat=d'/\d'<=d+1:=by
   rcases Vx t.kind i with h|h<;>rw[h]
   ·exact⟨d,rfl,by omega⟩
   ·exact⟨d+1,rfl,by omega⟩
  obtain⟨z1',e1,f1,f2⟩:=ih t.kI[i] (il sJ) d' aPc
  obtain⟨z,e,g1,g2⟩:∃(z:Syntax)(e:Int),rS (fun n m=>o9 (kO n) n m x d e1 ((i+1:Nat):Int) t K T M ls (r5++[z1'])) (z,e)/\
   (e=0->∃zs:List Syntax,zs.length=t.kI.length/\(∀j (hj:j<zs.length) (hk:j<t.kI.length),QT x t.kI[j] (d+(sI t.kind j).toNat) zs[j])/\z=X9 t.kind K T M ls zs):=by
   by_cases he:e1=0
   ·subst he;refine ihq (i+1) (r5++[z1']) (by omega) (by rw[iv,iz];omega) fun j hj hk=>?_
    by_cases hji:j<r5.length
    ·rw[iS hji];exact hr j hji hk
    ·rw[iv,iz]at hj;obtain rfl:j=i:=by omega
     have e9:(r5++[z1'])[j]=z1':=by
      rw[jd (by omega)];simp only[hl,jC,iW]
     rw[e9,hd'];exact f2 rfl
   ·exact⟨noS,e1,aw4 x d e1 he _ t K T M ls _,fun h=>absurd h he⟩
  refine⟨z,e,?_,g2⟩
  have key:∀D:Int,D=(d':Int)->rS (fun n m=>(kO n x t.kI[i] D).bind fun u=>bif decide ((r5.length+1)*120<=17592186044416)then o9 (kO n) n m x d u.snd ((i+1:Nat):Int) t K T M ls (r5++[u.fst])else none) (z,e):=by
   intro D hD;subst hD;refine rS.oU f1 ?_;simp only[Bm,jE];exact g1
  have k1:sI t.kind i=1->rS (fun n m=>(kO n x t.kI[i] (IntKind.i64.wrap ((d:Int)+1))).bind fun u=>bif decide ((r5.length+1)*120<=17592186044416)then o9 (kO n) n m x d u.snd ((i+1:Nat):Int) t K T M ls (r5++[u.fst])else none) (z,e):=fun hb=>
   key _ (by rw[hb]at hd';have:(1:Int).toNat=1:=rfl;rw[ri (by omega) (by simp only[lf]at hd;omega)];omega)
  have k0:sI t.kind i=0->rS (fun n m=>(kO n x t.kI[i] (d:Int)).bind fun u=>bif decide ((r5.length+1)*120<=17592186044416)then o9 (kO n) n m x d u.snd ((i+1:Nat):Int) t K T M ls (r5++[u.fst])else none) (z,e):=fun hb=>
   key _ (by rw[hb]at hd';have:(0:Int).toNat=0:=rfl;omega)
  refine rS.lp (fun n m=>by simp only[yM,tu,mB];exact rfl) ?_;simp only[sJ,ik,decide_true,jE,vh sJ,iq,hw,z1];exact pick t.kind i k1 k0
theorem aEa(h:PN x)(l:kA)(hv:l.vars.length<=lf)(hp:∀v∈l.vars,0<=v.index)(ok:LOk l):∃(z:jX)(e:Int),Ev (fun n=>zm n x l) (z,e)/\(e=0->Ev (fun n=>uG n z x.kg) (l,true)):=by
 obtain⟨z,e,f1,f2⟩:=aIX h l hv hp;refine⟨z,e,f1,fun he=>?_⟩;obtain⟨g1,al,g2,g3⟩:=f2 he;exact aD8 x.kg h.aNd l ok.pos hv z g1 al g2 g3
theorem aLn(h:PN x)(t:jW)(okf:OkF t)(nm:NoM t)(d:Nat)(hd:d<=lf)(hb:t.kQ<=lf)
 (ih:∀k∈t.kI,∀d':Nat,d'<=d+1->∃(z:Syntax)(e:Int),Ev (fun n=>kO n x k d') (z,e)/\(e=0->QT x k d' z)) (K:Int) (T:kj) (M:Int):
 ∀ (q i:Nat) (r4:List jX),i+q=t.kg.length->r4.length=i->(∀j (hj:j<r4.length) (hk:j<t.kg.length),Ev (fun n=>uG n r4[j] x.kg) (t.kg[j],true))-> ∃ (z:Syntax) (e:Int),
   rS (fun n m=>pQ (kO n) n m x d 0 i t K T M r4) (z,e)/\(e=0->∃(ls:List jX)(zs:List Syntax),ls.length=t.kg.length/\(∀j (hj:j<ls.length) (hk:j<t.kg.length),Ev (fun n=>uG n ls[j] x.kg) (t.kg[j],true))/\
    zs.length=t.kI.length/\(∀j (hj:j<zs.length) (hk:j<t.kI.length),QT x t.kI[j] (d+(sI t.kind j).toNat) zs[j])/\z=X9 t.kind K T M ls zs):=by
 have hll:=t.K5;have z1:((0:Int)==0)=true:=rfl;intro q;induction q with
 |zero=>
  intro i r4 hi hl hr;obtain rfl:i=t.kg.length:=by omega
  obtain⟨z,e,f1,f2⟩:=aPe t okf.ok d hd ih K T M r4 t.kI.length 0 [] (by omega) rfl (fun j hj=>by cases hj);refine⟨z,e,?_,fun he=>?_⟩
  ·refine rS.lp (fun n m=>by simp only[DW,uP,mB];exact rfl) ?_;simp only[ij,decide_false,jF];exact rS.of1 (Ev.GA (F:=fun n m=>o9 (kO n) n m x d 0 0 t K T M r4 []) f1)
  ·obtain⟨zs,a,b,c⟩:=f2 he;exact⟨r4,zs,hl,hr,a,b,c⟩
 |succ q ihq=>
  intro i r4 hi hl hr;have sJ:i<t.kg.length:=by omega
  have hw:=lj (i:=i) (by simp only[lf]at hb;omega);have Bm:=aNj (k:=r4.length) (by omega)
  have hvl:t.kg[i].vars.length<=lf:=by
   have h1:=t.aoq (il sJ);have h2:=t.kg[i].ac1;omega
  obtain⟨l,e1,f1,f2⟩:=aEa h t.kg[i] hvl (nm.lev _ (il sJ)) (okf.lev _ (il sJ))
  obtain⟨z,e,g1,g2⟩:∃(z:Syntax)(e:Int),rS (fun n m=>pQ (kO n) n m x d e1 ((i+1:Nat):Int) t K T M (r4++[l])) (z,e)/\
   (e=0->∃(ls:List jX)(zs:List Syntax),ls.length=t.kg.length/\(∀j (hj:j<ls.length) (hk:j<t.kg.length),Ev (fun n=>uG n ls[j] x.kg) (t.kg[j],true))/\
   zs.length=t.kI.length/\(∀j (hj:j<zs.length) (hk:j<t.kI.length),QT x t.kI[j] (d+(sI t.kind j).toNat) zs[j])/\z=X9 t.kind K T M ls zs):=by
   by_cases he:e1=0
   ·subst he;refine ihq (i+1) (r4++[l]) (by omega) (by rw[iv,iz];omega) fun j hj hk=>?_
    by_cases hji:j<r4.length
    ·rw[iS hji];exact hr j hji hk
    ·rw[iv,iz]at hj;obtain rfl:j=i:=by omega
     have e9:(r4++[l])[j]=l:=by
      rw[jd (by omega)];simp only[hl,jC,iW]
     rw[e9];exact f2 rfl
   ·exact⟨noS,e1,aw5 x d e1 he _ t K T M _,fun h=>absurd h he⟩
  refine⟨z,e,?_,g2⟩;refine rS.lp (fun n m=>by simp only[DW,uP,mB];exact rfl) ?_;simp only[sJ,ik,decide_true,jE,vh sJ,iq,hw,z1];refine rS.oU f1 ?_;simp only[Bm,jE];exact g1
theorem jW.ayP(t:jW):jW.mk t.kind t.index t.name t.kg t.kI=t:=by cases t;rfl
theorem aEb(k i n:Int)(hn:n=PK k)(h0:0<=i)(h1:i<n):((i==n-1)&&(k==5||(k==6||(k==7||k==11))))=(sI k i==1):=by
 subst hn;by_cases h5:k=5
 ·subst h5;have e:PK 5=2:=rfl;rw[e]at h1;rcases (show i=0\/i=1 by omega)with rfl|rfl<;>rfl
 by_cases h6:k=6
 ·subst h6;have e:PK 6=2:=rfl;rw[e]at h1;rcases (show i=0\/i=1 by omega)with rfl|rfl<;>rfl
 by_cases h7:k=7
 ·subst h7;have e:PK 7=2:=rfl;rw[e]at h1;rcases (show i=0\/i=1 by omega)with rfl|rfl<;>rfl
 by_cases h11:k=11
 ·subst h11;have e:PK 11=3:=rfl;rw[e]at h1;rcases (show i=0\/i=1\/i=2 by omega)with rfl|rfl|rfl<;>rfl
 have e5:(k==5)=false:=by simpa using h5
 have e6:(k==6)=false:=by simpa using h6
 have e7:(k==7)=false:=by simpa using h7
 have e11:(k==11)=false:=by simpa using h11
 unfold sI;rw[e5,e6,e7,e11];simp
theorem amw(t:jW)(ok:OkT t)(d:Nat)(K:Int)(T:kj)(M:Int)(ls:List jX)(zs:List Syntax)(hz:zs.length=t.kI.length)(hq:∀j (hj:j<zs.length) (hk:j<t.kI.length),QT x t.kI[j] (d+(sI t.kind j).toNat) zs[j])
 (hT:∀i (hi:i<t.kI.length),sI t.kind i=1->Bv x (x.AA.length+d) T\/(T=[]/\ ¬ avX t.kI[i] 0)) (N:List kj) (hN:NN x N t d):
 ∀i (hi:i<(Syntax.mk K T M [] ls zs 0 0).kI.length) (hj:i<t.kI.length),Ev (fun n=>nV n (Syntax.mk K T M [] ls zs 0 0).kI[i] (inN t.kind (Syntax.mk K T M [] ls zs 0 0) N i) x.kg) (t.kI[i],true):=by
 intro i hi hj;have hi':i<zs.length:=hi;have q:=hq i hi' hj;have hb:=aEb t.kind i t.kI.length ok.len (by omega) (by omega)
 have hin:inN t.kind (Syntax.mk K T M [] ls zs 0 0) N i=bif sI t.kind i==1 then N++[T] else N:=by
  unfold inN;show(bif ((i:Int)==(zs.length:Int)-1)&&_ then N++[T] else N)=_;rw[hz,hb]
 rw[hin];show Ev (fun n=>nV n zs[i] _ x.kg) (t.kI[i],true);rcases Vx t.kind i with h|h
 ·rw[h]at q ⊢;exact q.rd N (hN.kid i hj h)
 ·have h1:=hT i hj h;have hn:=hN.bind i hj h T h1;rw[h]at q ⊢;exact q.rd (N++[T]) hn
theorem aju(t:jW)(d:Nat)(zs:List Syntax)(hz:zs.length=t.kI.length)(hq:∀j (hj:j<zs.length) (hk:j<t.kI.length),QT x t.kI[j] (d+(sI t.kind j).toNat) zs[j])
 (h3:∀s,(t.kind==3&&t.name==s)=true->Ac x.st.env s=true):∀s,Vu s t=true->Ac x.st.env s=true:=by
 intro s ho;rw[aeM,Bool.or_eq_true]at ho;rcases ho with ho|ho
 ·exact h3 s ho
 ·obtain⟨k,hk,hs⟩:=ji.1 ho;obtain⟨j,hj,rfl⟩:=jx.1 hk;exact(hq j (by omega) hj).cs s hs
theorem Ft(h:PN x)(t:jW)(okf:OkF t)(d:Nat)(hd:d<=lf)(hb:t.kQ<=lf)(K:Int)(T:kj)(hK0:(K==0)=false)(aQr:(K==13)=false)
 (hf:aeR K [(10,1),(11,2),(2,4),(3,5),(4,6),(5,7),(7,9),(8,10),(9,11),(6,8)]=some t.kind) (h0:t.kind≠0) (h3:t.kind≠3) (h12:t.kind≠12)
 (hT:∀i (hi:i<t.kI.length),sI t.kind i=1->Bv x (x.AA.length+d) T\/(T=[]/\ ¬ avX t.kI[i] 0))
 (ls:List jX) (zs:List Syntax) (hl:ls.length=t.kg.length) (hlv:∀j (hj:j<ls.length) (hk:j<t.kg.length),Ev (fun n=>uG n ls[j] x.kg) (t.kg[j],true))
 (hz:zs.length=t.kI.length) (hq:∀j (hj:j<zs.length) (hk:j<t.kI.length),QT x t.kI[j] (d+(sI t.kind j).toNat) zs[j]):QT x t d (Syntax.mk K T 0 [] ls zs 0 0):=by
 have h3':t.kI.length<=3:=by have:=okf.ok.len;have:=aoC t.kind;omega
 have hll:=t.K5;have e:=t.ayP;rw[okf.aNh h0 h12,okf.aIV h3]at e;refine⟨fun N hN=>?_,aju t d zs hz hq fun s hs=>?_⟩
 ·have hNl:N.length<=lf*2:=by have:=hN.len;have:=h.ayN;omega
  refine aGs N x.kg _ K t.kind rfl hK0 aQr hf _ ?_;have:=ayO N x.kg hNl (Syntax.mk K T 0 [] ls zs 0 0) t.kind [] t.kg t.kI hl (show ls.length<=lf by omega) hlv hz (show zs.length<=3 by omega) (amw t okf.ok d K T 0 ls zs hz hq hT N hN);rw[e]at this;exact this
 ·rw[iK]at hs;exact absurd (jL.1 hs.1) h3
theorem aEc(h:PN x)(t:jW)(okf:OkF t)(d:Nat)(hd:d<=lf)(hb:t.kQ<=lf)(h3:t.kind=3)(aPf:Ac x.st.env t.name=true)
 (ls:List jX) (zs:List Syntax) (hl:ls.length=t.kg.length) (hlv:∀j (hj:j<ls.length) (hk:j<t.kg.length),Ev (fun n=>uG n ls[j] x.kg) (t.kg[j],true))
 (hz:zs.length=t.kI.length) (hq:∀j (hj:j<zs.length) (hk:j<t.kI.length),QT x t.kI[j] (d+(sI t.kind j).toNat) zs[j]):QT x t d (Syntax.mk 0 t.name 1 [] ls zs 0 0):=by
 have h3':t.kI.length<=3:=by have:=okf.ok.len;have:=aoC t.kind;omega
 have hll:=t.K5;have e:=t.ayP;rw[okf.aNh (by omega) (by omega),h3]at e;refine⟨fun N hN=>?_,aju t d zs hz hq fun s hs=>?_⟩
 ·have hNl:N.length<=lf*2:=by have:=hN.len;have:=h.ayN;omega
  refine aD9 N x.kg _ rfl rfl _ ?_;have hp:=amw t okf.ok d 0 t.name 1 ls zs hz hq (fun i hi hbl=>by rw[h3]at hbl;unfold sI at hbl;simp at hbl) N hN;rw[h3]at hp;have:=ayO N x.kg hNl (Syntax.mk 0 t.name 1 [] ls zs 0 0) 3 t.name t.kg t.kI hl (show ls.length<=lf by omega) hlv hz (show zs.length<=3 by omega) hp;rw[e]at this;exact this
 ·rw[iK]at hs;have:=jL.1 hs.2;subst this;exact aPf
theorem aGu(h:PN x)(t:jW)(okf:OkF t)(d:Nat)(hd:d<=lf)(h8:t.kind=8)(ls:List jX)(zs:List Syntax)
 (hz:zs.length=t.kI.length) (hq:∀j (hj:j<zs.length) (hk:j<t.kI.length),QT x t.kI[j] (d+(sI t.kind j).toNat) zs[j]):QT x t d (X9 t.kind 6 [] 0 ls zs):=by
 have hk3:t.kI.length=3:=by have hk:=okf.ok.len;rw[h8]at hk;have:PK 8=3:=rfl;omega
 have e:=t.ayP;rw[okf.aNh (by omega) (by omega),okf.aIV (by omega),okf.aPb (by omega) (by omega),h8]at e;refine⟨fun N hN=>?_,aju t d zs hz hq fun s hs=>?_⟩
 ·have hNl:N.length<=lf*2:=by have:=hN.len;have:=h.ayN;omega
  have hp:=amw t okf.ok d 6 [] 0 [] zs hz hq (fun i hi hbl=>by rw[h8]at hbl;unfold sI at hbl;simp at hbl) N hN;rw[h8]at hp;have:=ayO N x.kg hNl (Syntax.mk 6 [] 0 [] [] zs 0 0) 8 [] [] t.kI rfl (Nat.zero_le _) (fun i hi=>by cases hi) hz (show zs.length<=3 by omega) hp;rw[e]at this;rw[hk3]at hz
  match zs,hz with
  |[a,b,c],hz=>
   unfold X9;rw[h8];exact aGt N x.kg a b c ls _ this
 ·rw[iK]at hs;have:=jL.1 hs.1;omega
theorem aIZ(h:PN x)(t:jW)(okf:OkF t)(d:Nat)(hd:d<=lf)(h0:t.kind=0)(s:kj)(k:Nat)(hk:t.index+k+1=x.AA.length+d)(h1:x.AA.length<=k->Bv x k s)(h2:k<x.AA.length->At x.AA k s/\s≠[])(hi0:0<=t.index)
 (ls:List jX) (zs:List Syntax):QT x t d (Syntax.mk 0 s 0 [] ls zs 0 0):=by
 have aLJ:t.kI=[]:=by
  have hl:=okf.ok.len;rw[h0]at hl;have:PK 0=0:=rfl;exact iX (by omega)
 have e:=t.ayP;rw[okf.aIV (by omega),okf.aPb (by omega) (by omega),h0,aLJ]at e;refine⟨fun N hN=>?_,fun q hq=>?_⟩
 ·have hl:=hN.len;have hNl:N.length<=lf*2:=by have:=h.ayN;omega
  have sJ:k<N.length:=by omega
  have sv:s≠[]:=by
   by_cases hkn:k<x.AA.length
   ·exact(h2 hkn).2
   ·exact(h1 (by omega)).ne
  have hat:At N k (Syntax.mk 0 s 0 [] ls zs 0 0).text:=by
   refine⟨sJ,?_,fun j hj hkj hjs=>?_⟩
   ·show N[k]=s;by_cases hkn:k<x.AA.length
    ·rw[hN.AA k hkn sJ];exact(h2 hkn).1.eq
    ·obtain⟨j,rfl⟩:∃j,k=x.AA.length+j:=⟨k-x.AA.length,by omega⟩;rcases hN.bnd j (by omega) sJ with h3|⟨h3,h4⟩
     ·exact h3.same (h1 (by omega))
     ·exact absurd (.here h0 (by omega)) h4
   ·have hjs:N[j]=s:=hjs;by_cases hjn:j<x.AA.length
    ·have:=(h2 (by omega)).1.last j hjn hkj;rw[hN.AA j hjn hj]at hjs;exact this hjs
    ·obtain⟨q,rfl⟩:∃q,j=x.AA.length+q:=⟨j-x.AA.length,by omega⟩;rcases hN.bnd q (by omega) hj with h3|⟨h3,_⟩
     ·rw[hjs]at h3;by_cases hkn:k<x.AA.length
      ·have h4:=h3.AA;have h5:x.AA.any (· ==s)=true:=ji.2 ⟨x.AA[k],il hkn,by rw[(h2 hkn).1.eq];simp⟩;rw[h5]at h4;cases h4
      ·have:=h3.inj (h1 (by omega));omega
     ·rw[hjs]at h3;exact sv h3
  have:=aIY N x.kg hNl (Syntax.mk 0 s 0 [] ls zs 0 0) rfl rfl k hat;have ei:((N.length-1-k:Nat):Int)=t.index:=by omega
  rw[ei,e]at this;exact this
 ·rw[aeM,h0,aLJ]at hq;cases hq
theorem Fk(k:Nat)(hk:k<13):Ev (fun n=>qD n (k:Int)) (([0,10,11,0,2,3,4,5,6,7,8,9,1]:List Int)[k]):=by
 refine Ev.fn (fun n=>by simp only[qD,kL,Sx,mB];exact rfl) ?_;have h1:decide ((0:Int)<=(k:Int)/\(k:Int)<13)=true:=jG ⟨by omega,by omega⟩;have h2:Mg ([0,10,11,0,2,3,4,5,6,7,8,9,1]:List Int) (k:Int)=some (([0,10,11,0,2,3,4,5,6,7,8,9,1]:List Int)[k]):=vh hk;simp only[h1,h2,jE,iq];exact Ev.pure
theorem aw6:∀(ps:List kj)(out:List kj)(s:kj),s∈ajm out ps->s∈out\/s∈ps
 |[],out,s,h=>.inl h
 |p::ps,out,s,h=>by
  rcases aw6 ps (aBv out p) s h with h|h
  ·unfold aBv at h;cases hc:p==[]||out.contains p with
   |true=>rw[hc]at h;exact .inl h
   |false=>
    rw[hc]at h;rcases iV.1 h with h|h
    ·exact .inl h
    ·rw[iH]at h;subst h;exact .inr (by simp)
  ·exact .inr (jn _ h)
theorem aw7:∀(T:List jR)(out:List kj)(s:kj),s∈aqs out T->s∈out\/∃n∈T,s∈n.parts
 |[],out,s,h=>.inl h
 |n::T,out,s,h=>by
  rcases aw7 T (ajm out n.parts) s h with h|⟨m,hm,hs⟩
  ·rcases aw6 n.parts out s h with h|h
   ·exact .inl h
   ·exact .inr ⟨n,by simp,h⟩
  ·exact .inr ⟨m,jn _ hm,hs⟩
theorem VC:∀l:List kj,qB (fun m:kj=>m.length+1) l=aeO l+1
 |[]=>rfl
 |x::l=>by simp only[qB,aeO];rw[VC l];omega
theorem jR.aE7{n:jR}:n.parts.length<=n.kQ/\∀s∈n.parts,s.length<=n.kQ:=by
 have h:=VC n.parts;refine⟨?_,fun s hs=>?_⟩
 ·have:=OA n.parts;rw[jR.kQ];omega
 ·have:=ajq hs;rw[jR.kQ];omega
theorem TB.of{T:List jR}(h:qB jR.kQ T<=lf):TB T:=by
 refine⟨?_,fun n hn=>?_,?_⟩
 ·have:=uR (f:=jR.kQ) (fun n=>by rw[jR.kQ];omega) T;omega
 ·have:=uQ (f:=jR.kQ) hn;have:=n.aE7.1;omega
 ·have:=aqt T;omega
theorem aNk(h:st.kQ<=lf):SOK st:=by
 unfold kH.kQ at h;simp only[VC]at h;have h1:=uR (f:=kz.kQ) (fun x=>by rw[kz.kQ];omega) st.env;refine⟨fun d hd=>DOK.of ?_,by omega,by omega,?_,fun o ho=>?_⟩
 ·have:=uQ (f:=kz.kQ) hd;omega
 ·have:=OA st.opens;omega
 ·have:=ajq ho;omega
theorem aGv(h:PN x):∀(t:jW),OkF t->NoM t->t.wf->∀d:Nat,t.kQ+d<=lf-64->∃(z:Syntax)(e:Int),Ev (fun n=>kO n x t d) (z,e)/\(e=0->QT x t d z):=by
 intro t;induction hb:t.kQ using iy generalizing t with
 |ind k ih=>
  intro okf nm wf d hd;have ok:=okf.ok;have hk:t.kQ<=lf:=by omega
  have hdg:d<=lf:=by omega
  have hcl:=h.ayN;have w:=(jW.awR t).1 wf
  have ih':∀u∈t.kI,∀d':Nat,d'<=d+1->∃(z:Syntax)(e:Int),Ev (fun n=>kO n x u d') (z,e)/\(e=0->QT x u d' z):=fun u hu d' hd'=>
   ih u.kQ (by have:=t.Cl hu;omega) u rfl (okf.kid u hu) (nm.kid u hu) (w.2.2.2.2.1 u hu) d' (by have:=t.Cl hu;omega)
  have go:∀(K:Int)(T:kj)(M:Int),∃(z:Syntax)(e:Int),Ev (fun n=>pQ (kO n) n n x d 0 0 t K T M []) (z,e)/\(e=0->∃(ls:List jX)(zs:List Syntax),ls.length=t.kg.length/\(∀j (hj:j<ls.length) (hk:j<t.kg.length),Ev (fun n=>uG n ls[j] x.kg) (t.kg[j],true))/\
   zs.length=t.kI.length/\(∀j (hj:j<zs.length) (hk:j<t.kI.length),QT x t.kI[j] (d+(sI t.kind j).toNat) zs[j])/\z=X9 t.kind K T M ls zs):=fun K T M=>by
   obtain⟨z,e,f1,f2⟩:=aLn h t okf nm d hdg hk ih' K T M t.kg.length 0 [] (by omega) rfl (fun j hj=>by cases hj);exact⟨z,e,Ev.GA (F:=fun n m=>pQ (kO n) n m x d 0 0 t K T M []) f1,f2⟩
  have bad:∀(e:Int),e≠0->∀(K:Int)(T:kj)(M:Int),Ev (fun n=>pQ (kO n) n n x d e 0 t K T M []) (noS,e):=fun e he K T M=>Ev.GA (F:=fun n m=>pQ (kO n) n m x d e 0 t K T M []) (aw5 x d e he 0 t K T M [])
  obtain⟨s1,_⟩:=aGh t hk;have hwb:IntKind.i64.wrap ((x.AA.length:Int)+d)=((x.AA.length+d:Nat):Int):=by rw[ri (by omega) (by simp only[lf]at hcl hd;omega)];omega
  obtain⟨bs,bv⟩:=aBF h (x.AA.length+d) (by simp only[lf]at hcl hd ⊢;omega);have hm:((K6 t).1.kind==12)=false:=by have:=(nm.aPd t).kind;simpa using this
  have h12:=nm.kind;obtain⟨kk,hkk⟩:∃kk:Nat,t.kind=kk:=⟨t.kind.toNat,by have:=ok.lo;omega⟩;have sJ:kk<12:=by have:=ok.hi;omega
  match kk,hkk,sJ with
  |0,hkk,_=>
   have e:t.kind=0:=hkk;have kd:Ev (fun n=>qD n 0) 0:=Fk 0 (by omega);obtain⟨s,v,v1,v2⟩:=aBI h t.index d (ok.Bz e) (aK5 w.2.1).2 (by simp only[lf]at hd ⊢;omega);by_cases hv:v=0
   ·subst hv;obtain⟨z,r,g1,g2⟩:=go 0 s 0;refine⟨z,r,?_,fun he=>?_⟩
    ·refine Ev.fn (fun n=>by simp only[kO,kL,mL,mB];exact rfl) ?_;refine Ev.bind s1 ?_;simp only[hm,jF,e];refine Ev.bind kd ?_;simp only[iB,jE,jF];exact Ev.bind v1 g1
    ·obtain⟨ls,zs,a1,a2,a3,a4,rfl⟩:=g2 he;obtain⟨k,b1,b2,b3⟩:=v2 rfl;have:=aIZ h t okf d hdg e s k b1 b2 b3 (ok.Bz e) ls zs;unfold X9;rw[e];exact this
   ·refine⟨noS,v,?_,fun he=>absurd he hv⟩;refine Ev.fn (fun n=>by simp only[kO,kL,mL,mB];exact rfl) ?_;refine Ev.bind s1 ?_;simp only[hm,jF,e];refine Ev.bind kd ?_;simp only[iB,jE,jF];exact Ev.bind v1 (bad v hv _ _ _)
  |1,hkk,_=>
   have e:t.kind=1:=hkk;have kd:Ev (fun n=>qD n 1) 10:=Fk 1 (by omega);obtain⟨z,r,g1,g2⟩:=go 10 [] 0;refine⟨z,r,?_,fun he=>?_⟩
   ·refine Ev.fn (fun n=>by simp only[kO,kL,mL,mB];exact rfl) ?_;refine Ev.bind s1 ?_;simp only[hm,jF,e];refine Ev.bind kd ?_;simp only[iB,jE,jF];exact g1
   ·obtain⟨ls,zs,a1,a2,a3,a4,rfl⟩:=g2 he;have:=Ft h t okf d hdg hk 10 [] rfl rfl (by rw[e];rfl) (by omega) (by omega) h12 (fun i hi hbl=>by rw[e]at hbl;unfold sI at hbl;simp at hbl) ls zs a1 a2 a3 a4;unfold X9;rw[e];exact this
  |2,hkk,_=>
   have e:t.kind=2:=hkk;have kd:Ev (fun n=>qD n 2) 11:=Fk 2 (by omega);obtain⟨z,r,g1,g2⟩:=go 11 [] 0;refine⟨z,r,?_,fun he=>?_⟩
   ·refine Ev.fn (fun n=>by simp only[kO,kL,mL,mB];exact rfl) ?_;refine Ev.bind s1 ?_;simp only[hm,jF,e];refine Ev.bind kd ?_;simp only[iB,jE,jF];exact g1
   ·obtain⟨ls,zs,a1,a2,a3,a4,rfl⟩:=g2 he;have:=Ft h t okf d hdg hk 11 [] rfl rfl (by rw[e];rfl) (by omega) (by omega) h12 (fun i hi hbl=>by rw[e]at hbl;unfold sI at hbl;simp at hbl) ls zs a1 a2 a3 a4;unfold X9;rw[e];exact this
  |3,hkk,_=>
   have e:t.kind=3:=hkk;have kd:Ev (fun n=>qD n 3) 0:=Fk 3 (by omega);obtain⟨v,v1,v2⟩:=aBK h t.name (by have:=t.aop;omega);by_cases hv:v=0
   ·subst hv;obtain⟨z,r,g1,g2⟩:=go 0 t.name 1;refine⟨z,r,?_,fun he=>?_⟩
    ·refine Ev.fn (fun n=>by simp only[kO,kL,mL,mB];exact rfl) ?_;refine Ev.bind s1 ?_;simp only[hm,jF,e];refine Ev.bind kd ?_;simp only[iB,jE,jF];exact Ev.bind v1 g1
    ·obtain⟨ls,zs,a1,a2,a3,a4,rfl⟩:=g2 he;have:=aEc h t okf d hdg hk e (v2 rfl) ls zs a1 a2 a3 a4;unfold X9;rw[e];exact this
   ·refine⟨noS,v,?_,fun he=>absurd he hv⟩;refine Ev.fn (fun n=>by simp only[kO,kL,mL,mB];exact rfl) ?_;refine Ev.bind s1 ?_;simp only[hm,jF,e];refine Ev.bind kd ?_;simp only[iB,jE,jF];exact Ev.bind v1 (bad v hv _ _ _)
  |4,hkk,_=>
   have e:t.kind=4:=hkk;have kd:Ev (fun n=>qD n 4) 2:=Fk 4 (by omega);obtain⟨z,r,g1,g2⟩:=go 2 [] 0;refine⟨z,r,?_,fun he=>?_⟩
   ·refine Ev.fn (fun n=>by simp only[kO,kL,mL,mB];exact rfl) ?_;refine Ev.bind s1 ?_;simp only[hm,jF,e];refine Ev.bind kd ?_;simp only[iB,jE,jF];exact g1
   ·obtain⟨ls,zs,a1,a2,a3,a4,rfl⟩:=g2 he;have:=Ft h t okf d hdg hk 2 [] rfl rfl (by rw[e];rfl) (by omega) (by omega) h12 (fun i hi hbl=>by rw[e]at hbl;unfold sI at hbl;simp at hbl) ls zs a1 a2 a3 a4;unfold X9;rw[e];exact this
  |5,hkk,_=>
   have e:t.kind=5:=hkk;have kd:Ev (fun n=>qD n 5) 3:=Fk 5 (by omega);obtain⟨z,r,g1,g2⟩:=go 3 bs 0;refine⟨z,r,?_,fun he=>?_⟩
   ·refine Ev.fn (fun n=>by simp only[kO,kL,mL,mB];exact rfl) ?_;refine Ev.bind s1 ?_;simp only[hm,jF,e];refine Ev.bind kd ?_;simp only[hwb,iB,jE,jF];exact Ev.bind bv.ev g1
   ·obtain⟨ls,zs,a1,a2,a3,a4,rfl⟩:=g2 he;have:=Ft h t okf d hdg hk 3 bs rfl rfl (by rw[e];rfl) (by omega) (by omega) h12 (fun i hi hbl=>.inl bv) ls zs a1 a2 a3 a4;unfold X9;rw[e];exact this
  |6,hkk,_=>
   have e:t.kind=6:=hkk;have kd:Ev (fun n=>qD n 6) 4:=Fk 6 (by omega);have hlen:t.kI.length=2:=by have h6:=ok.len;rw[e]at h6;have:PK 6=2:=rfl;omega
   have aI8:t.kI[1]∈t.kI:=il _;have i1:Mg t.kI 1=some t.kI[1]:=vh (i:=1) (by omega);obtain⟨b,o1,o2⟩:=aGp t.kI[1] (ok.kid _ aI8) (by have:=t.Cl aI8;omega);cases b with
   |true=>
    obtain⟨z,r,g1,g2⟩:=go 4 bs 0;refine⟨z,r,?_,fun he=>?_⟩
    ·refine Ev.fn (fun n=>by simp only[kO,kL,mL,mB];exact rfl) ?_;refine Ev.bind s1 ?_;simp only[hm,jF,e];refine Ev.bind kd ?_;simp only[i1,iq,hwb,iB,jE,jF];exact Ev.bind o1 (Ev.bind bv.ev g1)
    ·obtain⟨ls,zs,a1,a2,a3,a4,rfl⟩:=g2 he;have:=Ft h t okf d hdg hk 4 bs rfl rfl (by rw[e];rfl) (by omega) (by omega) h12 (fun i hi hbl=>.inl bv) ls zs a1 a2 a3 a4;unfold X9;rw[e];exact this
   |false=>
    obtain⟨z,r,g1,g2⟩:=go 4 [] 0;refine⟨z,r,?_,fun he=>?_⟩
    ·refine Ev.fn (fun n=>by simp only[kO,kL,mL,mB];exact rfl) ?_;refine Ev.bind s1 ?_;simp only[hm,jF,e];refine Ev.bind kd ?_;simp only[i1,iq,hwb,iB,jE,jF];exact Ev.bind o1 g1
    ·obtain⟨ls,zs,a1,a2,a3,a4,rfl⟩:=g2 he
     have:=Ft h t okf d hdg hk 4 [] rfl rfl (by rw[e];rfl) (by omega) (by omega) h12 (fun i hi hbl=>.inr ⟨rfl,by
      have:i=1:=by
       rcases (show i=0\/i=1 by omega)with rfl|rfl
       ·rw[e]at hbl;cases hbl
       ·rfl
      subst this;exact o2 rfl⟩) ls zs a1 a2 a3 a4
     unfold X9;rw[e];exact this
  |7,hkk,_=>
   have e:t.kind=7:=hkk;have kd:Ev (fun n=>qD n 7) 5:=Fk 7 (by omega);obtain⟨z,r,g1,g2⟩:=go 5 bs 0;refine⟨z,r,?_,fun he=>?_⟩
   ·refine Ev.fn (fun n=>by simp only[kO,kL,mL,mB];exact rfl) ?_;refine Ev.bind s1 ?_;simp only[hm,jF,e];refine Ev.bind kd ?_;simp only[hwb,iB,jE,jF];exact Ev.bind bv.ev g1
   ·obtain⟨ls,zs,a1,a2,a3,a4,rfl⟩:=g2 he;have:=Ft h t okf d hdg hk 5 bs rfl rfl (by rw[e];rfl) (by omega) (by omega) h12 (fun i hi hbl=>.inl bv) ls zs a1 a2 a3 a4;unfold X9;rw[e];exact this
  |8,hkk,_=>
   have e:t.kind=8:=hkk;have kd:Ev (fun n=>qD n 8) 6:=Fk 8 (by omega);obtain⟨z,r,g1,g2⟩:=go 6 [] 0;refine⟨z,r,?_,fun he=>?_⟩
   ·refine Ev.fn (fun n=>by simp only[kO,kL,mL,mB];exact rfl) ?_;refine Ev.bind s1 ?_;simp only[hm,jF,e];refine Ev.bind kd ?_;simp only[iB,jE,jF];exact g1
   ·obtain⟨ls,zs,a1,a2,a3,a4,rfl⟩:=g2 he;exact aGu h t okf d hdg e ls zs a3 a4
  |9,hkk,_=>
   have e:t.kind=9:=hkk;have kd:Ev (fun n=>qD n 9) 7:=Fk 9 (by omega);obtain⟨z,r,g1,g2⟩:=go 7 [] 0;refine⟨z,r,?_,fun he=>?_⟩
   ·refine Ev.fn (fun n=>by simp only[kO,kL,mL,mB];exact rfl) ?_;refine Ev.bind s1 ?_;simp only[hm,jF,e];refine Ev.bind kd ?_;simp only[iB,jE,jF];exact g1
   ·obtain⟨ls,zs,a1,a2,a3,a4,rfl⟩:=g2 he;have:=Ft h t okf d hdg hk 7 [] rfl rfl (by rw[e];rfl) (by omega) (by omega) h12 (fun i hi hbl=>by rw[e]at hbl;unfold sI at hbl;simp at hbl) ls zs a1 a2 a3 a4;unfold X9;rw[e];exact this
  |10,hkk,_=>
   have e:t.kind=10:=hkk;have kd:Ev (fun n=>qD n 10) 8:=Fk 10 (by omega);obtain⟨z,r,g1,g2⟩:=go 8 [] 0;refine⟨z,r,?_,fun he=>?_⟩
   ·refine Ev.fn (fun n=>by simp only[kO,kL,mL,mB];exact rfl) ?_;refine Ev.bind s1 ?_;simp only[hm,jF,e];refine Ev.bind kd ?_;simp only[iB,jE,jF];exact g1
   ·obtain⟨ls,zs,a1,a2,a3,a4,rfl⟩:=g2 he;have:=Ft h t okf d hdg hk 8 [] rfl rfl (by rw[e];rfl) (by omega) (by omega) h12 (fun i hi hbl=>by rw[e]at hbl;unfold sI at hbl;simp at hbl) ls zs a1 a2 a3 a4;unfold X9;rw[e];exact this
  |11,hkk,_=>
   have e:t.kind=11:=hkk;have kd:Ev (fun n=>qD n 11) 9:=Fk 11 (by omega);obtain⟨z,r,g1,g2⟩:=go 9 bs 0;refine⟨z,r,?_,fun he=>?_⟩
   ·refine Ev.fn (fun n=>by simp only[kO,kL,mL,mB];exact rfl) ?_;refine Ev.bind s1 ?_;simp only[hm,jF,e];refine Ev.bind kd ?_;simp only[hwb,iB,jE,jF];exact Ev.bind bv.ev g1
   ·obtain⟨ls,zs,a1,a2,a3,a4,rfl⟩:=g2 he;have:=Ft h t okf d hdg hk 9 bs rfl rfl (by rw[e];rfl) (by omega) (by omega) h12 (fun i hi hbl=>.inl bv) ls zs a1 a2 a3 a4;unfold X9;rw[e];exact this
  |n+12,_,hn=>omega
set_option maxRecDepth 100000
theorem Si(l:List kj)(k:Int)(hl:l.length<=lf):kY (fun n=>Fq n l k) q4:=by
 refine kY.fn (fun n=>by simp only[Fq,kL,SK,mB];exact rfl) ?_;refine kY.oQ (fun _=>?_) fun _=>kY.pure trivial
 refine kY.bind (P:=q4) ?_ fun x _=>kY.pure trivial
 refine kY.fn (fun n=>by simp only[sC,kL,rM,mB];exact rfl) ?_;refine kY.bind (P:=q4) ?_ fun x _=>kY.pure trivial
 refine kY.fn (fun n=>by simp only[tE,kL,sP,mB];exact rfl) ?_;refine kY.GA (F:=fun n m=>oF n m l l.length 0) ?_;refine ke.up (S:=Unit) (L:=fun n m i _=>oF n m l l.length i) l.length (fun _ _=>True) _ ?_ ?_ 0 () (by omega) trivial
 ·intro i u hi _ next
  refine ke.lp (fun n m=>by simp only[vI,oB,mB];exact rfl) ?_;simp only[hi,ik,decide_true,jE];refine ke.Bz hi ?_;rw[lj (by simp only[lf]at hl;omega)];refine ke.oU (P:=q4) ?_ fun x _=>ke.oQ (fun _=>ke.pure trivial) fun _=>next u trivial
  refine kY.fn (fun n=>by simp only[Su,kL,Mz,mB];exact rfl) ?_;exact kY.pure trivial
 ·intro u _;refine ke.lp (fun n m=>by simp only[vI,oB,mB];exact rfl) ?_;simp only[ij,decide_false,jF];exact ke.pure trivial
theorem aGw(T:List jR)(h:TB T):kY (fun n=>Zc n T) q4:=by
 have hl:=h.len;refine kY.fn (fun n=>by simp only[Zc,kL,aaH,mB];exact rfl) ?_;refine kY.oQ (fun _=>?_) fun _=>kY.pure trivial
 refine kY.bind (P:=q4) ?_ fun x _=>kY.pure trivial
 refine kY.fn (fun n=>by simp only[sG,kL,rP,mB];exact rfl) ?_;refine kY.bind (P:=q4) ?_ fun x _=>kY.pure trivial
 refine kY.fn (fun n=>by simp only[tG,kL,sR,mB];exact rfl) ?_;refine kY.GA (F:=fun n m=>oJ n m T T.length 0) ?_;refine ke.up (S:=Unit) (L:=fun n m i _=>oJ n m T T.length i) T.length (fun _ _=>True) _ ?_ ?_ 0 () (by omega) trivial
 ·intro i u hi _ next
  refine ke.lp (fun n m=>by simp only[vL,oI,mB];exact rfl) ?_;simp only[hi,ik,decide_true,jE];refine ke.Bz hi ?_;rw[lj (by simp only[lf]at hl;omega)];refine ke.oU (P:=q4) ?_ fun x _=>ke.oQ (fun _=>ke.pure trivial) fun _=>next u trivial
  refine kY.fn (fun n=>by simp only[aaq,kL,SO,mB];exact rfl) ?_;refine kY.bind (Si _ _ (h.parts _ (il hi))) fun x _=>?_
  exact kY.oQ (fun _=>kY.pure trivial) fun _=>kY.pure trivial
 ·intro u _;refine ke.lp (fun n m=>by simp only[vL,oI,mB];exact rfl) ?_;simp only[ij,decide_false,jF];exact ke.pure trivial
theorem aGx:∀(k:Nat)(l:List jW)(aI0:Int),qB jW.kQ l<=k->k<=lf*2->kY (fun n=>D4 n aI0 l) q4:=by
 intro k;induction k with
 |zero=>intro l aI0 hl _;have:=ajj (bk:=jW.kQ) l;omega
 |succ k ih=>
  intro l aI0 hl hk;have hlen:=uR (f:=jW.kQ) jW.vV l;refine kY.fn (fun n=>by simp only[D4,kL,ZI,mB];exact rfl) ?_;refine kY.GA (F:=fun n m=>Hf (D4 n) n m aI0 0 l l.length 0) ?_;refine ke.up (S:=Int) (L:=fun n m i a=>Hf (D4 n) n m aI0 a l l.length i) l.length (fun _ _=>True) _ ?_ ?_ 0 0 (by omega) trivial
  ·intro i a hi _ next
   refine ke.lp (fun n m=>by simp only[abv,He,mB];exact rfl) ?_;simp only[hi,ik,decide_true,jE];refine ke.Bz hi ?_;refine ke.oQ (fun _=>ke.pure trivial) fun _=>?_
   have h1:=uQ (f:=jW.kQ) (il hi);have h2:qB jW.kQ l[i].kI<l[i].kQ:=by rw[jW.yc l[i]];omega
   rw[lj (by simp only[lf]at hk;omega)];exact ke.oU (ih _ _ (by omega) (by omega)) fun x _=>next _ trivial
  ·intro a _;refine ke.lp (fun n m=>by simp only[abv,He,mB];exact rfl) ?_;simp only[ij,decide_false,jF];exact ke.pure trivial
theorem aEd(vs:List kA)(hv:vs.length<=lf):kY (fun n=>rj n vs ()) q4:=by
 refine kY.fn (fun n=>by simp only[rj,kL,tF,mB];exact rfl) ?_;refine kY.bind (P:=q4) ?_ fun x _=>kY.pure trivial
 refine kY.fn (fun n=>by simp only[vB,kL,uD,mB];exact rfl) ?_;refine kY.GA (F:=fun n m=>pL n m vs vs.length 0) ?_;refine ke.up (S:=Unit) (L:=fun n m i _=>pL n m vs vs.length i) vs.length (fun _ _=>True) _ ?_ ?_ 0 () (by omega) trivial
 ·intro i u hi _ next
  refine ke.lp (fun n m=>by simp only[xN,pK,mB];exact rfl) ?_;simp only[hi,ik,decide_true,jE];refine ke.Bz hi ?_;rw[lj (by simp only[lf]at hv;omega)];refine ke.oU (P:=q4) ?_ fun x _=>ke.oQ (fun _=>ke.pure trivial) fun _=>next u trivial
  refine kY.fn (fun n=>by simp only[ahD,kL,ZJ,mB];exact rfl) ?_;exact kY.pure trivial
 ·intro u _;refine ke.lp (fun n m=>by simp only[xN,pK,mB];exact rfl) ?_;simp only[ij,decide_false,jF];exact ke.pure trivial
theorem aGy:∀(k:Nat)(l:List jW),qB jW.kQ l<=k->k<=lf*2->kY (fun n=>LZ n l) q4:=by
 intro k;induction k with
 |zero=>intro l hl _;have:=ajj (bk:=jW.kQ) l;omega
 |succ k ih=>
  intro l hl hk;have hlen:=uR (f:=jW.kQ) jW.vV l;refine kY.fn (fun n=>by simp only[LZ,kL,aiv,mB];exact rfl) ?_;refine kY.bind (aGx (k+1) l 200 hl hk) fun x _=>?_
  refine kY.oQ (fun _=>kY.pure trivial) fun _=>?_
  refine kY.GA (F:=fun n m=>NE (LZ n) n m l l.length 0) ?_;refine ke.up (S:=Unit) (L:=fun n m i _=>NE (LZ n) n m l l.length i) l.length (fun _ _=>True) _ ?_ ?_ 0 () (by omega) trivial
  ·intro i u hi _ next
   refine ke.lp (fun n m=>by simp only[aiu,ND,mB];exact rfl) ?_;simp only[hi,ik,decide_true,jE];refine ke.Bz hi ?_;have h1:=uQ (f:=jW.kQ) (il hi);have h2:qB jW.kQ l[i].kI<l[i].kQ:=by rw[jW.yc l[i]];omega
   rw[lj (by simp only[lf]at hk;omega)];refine ke.oQ (fun _=>ke.pure trivial) fun _=>?_
   refine ke.oQ (fun _=>ke.pure trivial) fun h20=>?_
   have h3:=jJ h20;refine ke.oU (aEd _ (by simp only[lf];omega)) fun x _=>?_
   refine ke.oQ (fun _=>ke.pure trivial) fun _=>?_
   refine ke.oU (ih _ (by omega) (by omega)) fun x _=>?_
   exact ke.oQ (fun _=>next u trivial) fun _=>ke.pure trivial
  ·intro u _;refine ke.lp (fun n m=>by simp only[aiu,ND,mB];exact rfl) ?_;simp only[ij,decide_false,jF];exact ke.pure trivial
theorem aGz(st:kH)(h:st.kQ<=lf):kY (fun n=>Zk n st) q4:=by
 have hb:=h;unfold kH.kQ at hb;simp only[VC]at hb;have h1:=OA st.sB;have h2:=OA st.opens;have h3:=uR (f:=kz.kQ) (fun x=>by rw[kz.kQ];omega) st.env;refine kY.fn (fun n=>by simp only[Zk,kL,aaT,mB];exact rfl) ?_;refine kY.bind (aGw _ (TB.of (by omega))) fun x _=>?_
 refine kY.oQ (fun _=>?_) fun _=>kY.pure trivial
 refine kY.bind (Si _ _ (by omega)) fun x _=>?_
 refine kY.oQ (fun _=>?_) fun _=>kY.pure trivial
 refine kY.bind (Si _ _ (by omega)) fun x _=>?_
 refine kY.oQ (fun _=>?_) fun _=>kY.pure trivial
 refine kY.bind (aIO st.env ⟨by omega,fun d hd=>?_⟩) fun x _=>kY.pure trivial
 have:=uQ (f:=kz.kQ) hd;omega
theorem aGA(k:Nat):Sf (k+300)=some true:=jN
theorem aEe:Ev (fun n=>Sf n) true:=by
 refine⟨300,fun n hn=>?_⟩;obtain⟨k,rfl⟩:∃k,n=k+300:=⟨n-300,by omega⟩;exact aGA k
end Go.Abs
