/- A part of the proof: plain facts. -/
import Derived.Test.YtdkeelhebopgkaaGreatDoorCoreD
import Derived.Test.YtdkeelhebopgkaaGreatDoorReadA
set_option linter.all false
open List renaming drop_eq_getElem_cons → kC,drop_length → kF,getElem_mem → kH,length_map → kL
open Int renaming lt_irrefl → kD,ofNat_lt → kE
open Bool renaming eq_iff_iff → kG,true_and → kI,and_eq_true → kJ,false_and → kM
open Exists renaming imp → kK
namespace Go.Abs
variable {R S T:Type}
def Ev (F:Nat→Option R) (r:R):Prop:= ∃N,∀n,N≤n→F n=some r
def zY (F:Nat→Nat→Option R) (r:R):Prop:= ∃N,∀n m,N≤n→N≤m→F n m=some r
theorem Ev.fn {F G:Nat→Option R} {r:R} (h: ∀n,F (n+1)=G n) (hg:Ev G r):Ev F r:=by
 obtain ⟨N,hN⟩:=hg
 refine ⟨N+1,fun n hn=> ?_⟩
 obtain ⟨k,rfl⟩: ∃k,n=k+1:=⟨n-1,by omega⟩
 rw[h];exact hN k (by omega)
theorem Ev.of2 {F:Nat→Nat→Option R} {r:R} (h:zY F r):Ev (fun n=>F n n) r:=by
 obtain ⟨N,hN⟩:=h
 exact ⟨N,fun n hn=>hN n n hn hn⟩
theorem zY.of1 {F:Nat→Option R} {r:R} (h:Ev F r):zY (fun n _=>F n) r:=by
 obtain ⟨N,hN⟩:=h
 exact ⟨N,fun n m hn _=>hN n hn⟩
theorem zY.lp {F G:Nat→Nat→Option R} {r:R} (h: ∀n m,F n (m+1)=G n m) (hg:zY G r):zY F r:=by
 obtain ⟨N,hN⟩:=hg
 refine ⟨N+1,fun n m hn hm=> ?_⟩
 obtain ⟨k,rfl⟩: ∃k,m=k+1:=⟨m-1,by omega⟩
 rw[h];exact hN n k (by omega) (by omega)
theorem Ev.pure {r:R}:Ev (fun _=>some r) r:=⟨0,fun _ _=>rfl⟩
theorem zY.pure {r:R}:zY (fun _ _=>some r) r:=⟨0,fun _ _ _ _=>rfl⟩
theorem Ev.bind {F:Nat→Option S} {G:Nat→S→Option R} {x:S} {r:R} (h:Ev F x) (hg:Ev (fun n=>G n x) r):Ev (fun n=>(F n).bind (G n)) r:=by
 obtain ⟨N,hN⟩:=h
 obtain ⟨M,hM⟩:=hg
 refine ⟨max N M,fun n hn=> ?_⟩
 show (F n).bind (G n)=some r
 rw[hN n (by omega)];exact hM n (by omega)
theorem zY.bind {F:Nat→Nat→Option S} {G:Nat→Nat→S→Option R} {x:S} {r:R} (h:zY F x) (hg:zY (fun n m=>G n m x) r):zY (fun n m=>(F n m).bind (G n m)) r:=by
 obtain ⟨N,hN⟩:=h
 obtain ⟨M,hM⟩:=hg
 refine ⟨max N M,fun n m hn hm=> ?_⟩
 show (F n m).bind (G n m)=some r
 rw[hN n m (by omega) (by omega)];exact hM n m (by omega) (by omega)
theorem zY.bind1 {F:Nat→Option S} {G:Nat→Nat→S→Option R} {x:S} {r:R} (h:Ev F x) (hg:zY (fun n m=>G n m x) r):zY (fun n m=>(F n).bind (G n m)) r:=
 zY.bind (F:=fun n _=>F n) (zY.of1 h) hg
theorem Ev.congr {F G:Nat→Option R} {r:R} (hg:Ev G r) (h: ∀n,F n=G n):Ev F r:=by
 rw[show F=G from funext h];exact hg
theorem zY.congr {F G:Nat→Nat→Option R} {r:R} (hg:zY G r) (h: ∀n m,F n m=G n m):zY F r:=by
 rw[show F=G from funext fun n=>funext fun m=>h n m];exact hg
def R1 (F:Nat→Option R) (Q:R→Prop):Prop:= ∃r,Q r∧Ev F r
def B7 (F:Nat→Nat→Option R) (Q:R→Prop):Prop:= ∃r,Q r∧zY F r
theorem R1.fn {F G:Nat→Option R} {Q:R→Prop} (h: ∀n,F (n+1)=G n) (hg:R1 G Q):R1 F Q:=kK (fun _ k=>⟨k.1,Ev.fn h k.2⟩) hg
theorem R1.of2 {F:Nat→Nat→Option R} {Q:R→Prop} (h:B7 F Q):R1 (fun n=>F n n) Q:=kK (fun _ k=>⟨k.1,Ev.of2 k.2⟩) h
theorem B7.of1 {F:Nat→Option R} {Q:R→Prop} (h:R1 F Q):B7 (fun n _=>F n) Q:=kK (fun _ k=>⟨k.1,zY.of1 k.2⟩) h
theorem B7.lp {F G:Nat→Nat→Option R} {Q:R→Prop} (h: ∀n m,F n (m+1)=G n m) (hg:B7 G Q):B7 F Q:=kK (fun _ k=>⟨k.1,zY.lp h k.2⟩) hg
theorem R1.pure {r:R} {Q:R→Prop} (h:Q r):R1 (fun _=>some r) Q:=⟨r,h,Ev.pure⟩
theorem B7.pure {r:R} {Q:R→Prop} (h:Q r):B7 (fun _ _=>some r) Q:=⟨r,h,zY.pure⟩
theorem R1.bind {F:Nat→Option S} {G:Nat→S→Option R} {P:S→Prop} {Q:R→Prop} (h:R1 F P) (hg: ∀x,P x→R1 (fun n=>G n x) Q):R1 (fun n=>(F n).bind (G n)) Q:=by
 obtain ⟨x,hx,hF⟩:=h
 obtain ⟨r,hr,hG⟩:=hg x hx
 exact ⟨r,hr,Ev.bind hF hG⟩
theorem B7.bind {F:Nat→Nat→Option S} {G:Nat→Nat→S→Option R} {P:S→Prop} {Q:R→Prop} (h:B7 F P) (hg: ∀x,P x→B7 (fun n m=>G n m x) Q):B7 (fun n m=>(F n m).bind (G n m)) Q:=by
 obtain ⟨x,hx,hF⟩:=h
 obtain ⟨r,hr,hG⟩:=hg x hx
 exact ⟨r,hr,zY.bind hF hG⟩
theorem B7.bind1 {F:Nat→Option S} {G:Nat→Nat→S→Option R} {P:S→Prop} {Q:R→Prop} (h:R1 F P) (hg: ∀x,P x→B7 (fun n m=>G n m x) Q):B7 (fun n m=>(F n).bind (G n m)) Q:=
 B7.bind (F:=fun n _=>F n) (B7.of1 h) hg
theorem R1.idx {xs:List S} {i:Nat} {G:Nat→S→Option R} {Q:R→Prop} (hi:i<xs.length) (hg:R1 (fun n=>G n xs[i]) Q):R1 (fun n=>(IX xs (i:Int)).bind (G n)) Q:=by
 have:IX xs (i:Int)=some xs[i]:=by simp [IX,hi]
 simp only[this];exact hg
theorem B7.idx {xs:List S} {i:Nat} {G:Nat→Nat→S→Option R} {Q:R→Prop} (hi:i<xs.length) (hg:B7 (fun n m=>G n m xs[i]) Q):B7 (fun n m=>(IX xs (i:Int)).bind (G n m)) Q:=by
 have:IX xs (i:Int)=some xs[i]:=by simp [IX,hi]
 simp only[this];exact hg
theorem R1.cnd {c:Bool} {A B:Nat→Option R} {Q:R→Prop} (h1:c=true→R1 A Q) (h2:c=false→R1 B Q):R1 (fun n=>bif c then A n else B n) Q:=by
 cases c with
 |true=>exact h1 rfl
 |false=>exact h2 rfl
theorem B7.cnd {c:Bool} {A B:Nat→Nat→Option R} {Q:R→Prop} (h1:c=true→B7 A Q) (h2:c=false→B7 B Q):B7 (fun n m=>bif c then A n m else B n m) Q:=by
 cases c with
 |true=>exact h1 rfl
 |false=>exact h2 rfl
theorem R1.imp {F:Nat→Option R} {P Q:R→Prop} (h:R1 F P) (k: ∀r,P r→Q r):R1 F Q:=kK (fun r x=>⟨k r x.1,x.2⟩) h
theorem B7.imp {F:Nat→Nat→Option R} {P Q:R→Prop} (h:B7 F P) (k: ∀r,P r→Q r):B7 F Q:=kK (fun r x=>⟨k r x.1,x.2⟩) h
theorem R1.ev {F:Nat→Option R} {r:R} (h:R1 F (· =r)):Ev F r:=by obtain ⟨s,rfl,h⟩:=h;exact h
theorem Ev.tot {F:Nat→Option R} {r:R} {Q:R→Prop} (h:Ev F r) (q:Q r):R1 F Q:=⟨r,q,h⟩
theorem zY.tot {F:Nat→Nat→Option R} {r:R} {Q:R→Prop} (h:zY F r) (q:Q r):B7 F Q:=⟨r,q,h⟩
theorem B7.up {L:Nat→Nat→Int→S→Option R} (len:Nat) (I:Nat→S→Prop) (Q:R→Prop)
 (h1: ∀i s,i<len→I i s→(∀s',I (i+1) s'→B7 (fun n m=>L n m ((i+1:Nat):Int) s') Q)→B7 (fun n m=>L n m (i:Int) s) Q)
 (h2: ∀s,I len s→B7 (fun n m=>L n m (len:Int) s) Q): ∀ (i:Nat) (s:S),i≤len→I i s→B7 (fun n m=>L n m (i:Int) s) Q:=by
 intro i s hi h
 obtain ⟨k,hk⟩: ∃k,k=len-i:=⟨_,rfl⟩
 induction k generalizing i s with
 |zero=>obtain rfl:i=len:=by omega
        exact h2 s h
 |succ k ih=>exact h1 i s (by omega) h fun s' hs=>ih (i+1) s' (by omega) hs (by omega)
theorem wrap_small {n:Int} (h: -9223372036854775808≤n) (h2:n≤9223372036854775807):IntKind.i64.wrap n=n:=by
 simp only[IntKind.wrap,IntKind.signed,IntKind.bits,kI,decide_eq_true_eq]
 split<;>rename_i h3<;>simp only[decide_eq_true_eq,ge_iff_le] at h3<;>omega
theorem ES {i:Nat} (h:i<9223372036854775807):IntKind.i64.wrap ((i:Int)+1)=((i+1:Nat):Int):=by
 rw[wrap_small (by omega) (by omega)];rfl
theorem idxA_at {xs:List S} {i:Nat} (hi:i<xs.length):IX xs (i:Int)=some xs[i]:=by simp [IX,hi]
theorem zY.idx {xs:List S} {i:Nat} {G:Nat→Nat→S→Option R} {r:R} (hi:i<xs.length) (hg:zY (fun n m=>G n m xs[i]) r):zY (fun n m=>(IX xs (i:Int)).bind (G n m)) r:=by
 simp only[idxA_at hi];exact hg
noncomputable def Up {α:Type} (a b:α):Bool:= @decide (a=b) (Classical.propDecidable _)
theorem IW {α:Type} {a b:α}:Up a b=true↔a=b:=by
 unfold Up;exact @decide_eq_true_iff _ (Classical.propDecidable _)
theorem WH {α:Type} (a:α):Up a a=true:=IW.2 rfl
theorem eqb_false {α:Type} {a b:α} (h:a≠b):Up a b=false:=by
 cases hc:Up a b with
 |false=>rfl
 |true=>exact absurd (IW.1 hc) h
theorem ZR {α:Type} (x y:α) (xs ys:List α):Up (x::xs) (y::ys)=(Up x y&&Up xs ys):=by
 rw[kG,kJ,IW,IW,IW,List.cons.injEq]
theorem N4 {α:Type} {xs ys:List α} (h:xs.length≠ys.length):Up xs ys=false:=eqb_false fun e=>h (by rw[e])
theorem eqb_beq {α:Type} [BEq α] [LawfulBEq α] (x y:α):Up x y=(x==y):=by
 rw[kG,IW,beq_iff_eq]
theorem zY.andThen {F:Nat→Nat→Option Bool} {c r:Bool} (h:zY F r):zY (fun n m=>bif c then F n m else some false) (c&&r):=by
 cases c with
 |true=>exact h
 |false=>exact zY.pure
theorem Ev.andThen {F:Nat→Option Bool} {c r:Bool} (h:Ev F r):Ev (fun n=>bif c then F n else some false) (c&&r):=by
 cases c with
 |true=>exact h
 |false=>exact Ev.pure
theorem zY.same {α:Type} {L:Nat→Nat→Int→Option Bool} (xs ys:List α) (hl:xs.length=ys.length)
 (h1: ∀ (i:Nat) (hi:i<xs.length) (hj:i<ys.length) (r:Bool),zY (fun n m=>L n m ((i+1:Nat):Int)) r→zY (fun n m=>L n m (i:Int)) (Up xs[i] ys[i]&&r))
 (h2:zY (fun n m=>L n m (xs.length:Int)) true):zY (fun n m=>L n m 0) (Up xs ys):=by
 have key: ∀ (k i:Nat),k+i=xs.length→zY (fun n m=>L n m (i:Int)) (Up (xs.drop i) (ys.drop i)):=by
  intro k
  induction k with
  |zero=>
   intro i hi
   obtain rfl:i=xs.length:=by omega
   rw[kF,hl,kF,WH,←hl]
   exact h2
  |succ k ih=>
   intro i hi
   have hi1:i<xs.length:=by omega
   have hi2:i<ys.length:=by omega
   rw[kC hi1,kC hi2,ZR]
   exact h1 i hi1 hi2 _ (ih (i+1) (by omega))
 have:=key xs.length 0 (by omega)
 simpa using this
end Go.Abs
namespace Go.Abs
abbrev Yes {R:Type}:R→Prop:=fun _=>True
def Yq:Nat:=9223372036854775807
theorem ZS {α:Type} {bk:α→Nat}: ∀ {xs:List α} {x:α},x∈xs→bk x+1≤sumB bk xs
 |y::ys,x,h=>by
  rw[sumB]
  rcases List.mem_cons.1 h with e|e
  ·subst e;have:=ZQ (bk:=bk) ys;omega
  ·have:=ZS (bk:=bk) e;omega
theorem Uq {α:Type} {bk:α→Nat} (h: ∀x,1≤bk x): ∀xs:List α,xs.length+1≤sumB bk xs
 |[]=>ZQ []
 |x::xs=>by
  have h1:=Uq h xs
  have h2:=h x
  rw[sumB,List.length_cons]
  omega
theorem Syntax.bulkEq (e:Syntax):e.bulk=1+((e.text.length+1)+(1+(sumB (fun m:Str=>m.length+1) e.names+(sumB kO.bulk e.levels+(sumB Syntax.bulk e.kids+(1+(1+1))))))):=by
 cases e
 simp only[Syntax.bulk,Syntax.text,Syntax.names,Syntax.levels,Syntax.kids,Syntax.bulkL_eq]
theorem Syntax.ZT (e:Syntax):1≤e.bulk:=by rw[Syntax.bulkEq];omega
theorem Syntax.kid_lt {x k:Syntax} (h:k∈x.kids):k.bulk<x.bulk:=by
 have:=ZS (bk:=Syntax.bulk) h
 rw[Syntax.bulkEq x];omega
theorem kO.ZT (x:kO):1≤x.bulk:=by unfold kO.bulk;omega
theorem Syntax.lens (x:Syntax):x.kids.length<x.bulk∧x.levels.length<x.bulk∧x.names.length<x.bulk∧ ∀l∈x.levels,l.atoms.length<x.bulk:=by
 have h1:=Uq (bk:=Syntax.bulk) Syntax.ZT x.kids
 have h2:=Uq (bk:=kO.bulk) kO.ZT x.levels
 have h3:=Uq (bk:=fun m:Str=>m.length+1) (fun _=>Nat.le_add_left _ _) x.names
 rw[Syntax.bulkEq]
 refine ⟨by omega,by omega,by omega,fun l hl=> ?_⟩
 have h4:=ZS (bk:=kO.bulk) hl
 have h5:=Uq (bk:=kR.bulk) (fun x=>by unfold kR.bulk;omega) l.atoms
 have h6:sumB kR.bulk l.atoms≤l.bulk:=by unfold kO.bulk;omega
 omega
noncomputable def strip (x:Syntax):Syntax:=Syntax.mk x.kind x.text x.num x.names x.levels (x.kids.attach.map fun k=>strip k.1) 0 0
termination_by x.bulk
decreasing_by exact Syntax.kid_lt k.2
theorem strip_eq (x:Syntax):strip x=Syntax.mk x.kind x.text x.num x.names x.levels (x.kids.map strip) 0 0:=by
 rw[strip]
 congr 1
 exact List.attach_map_val
theorem eqb_strip (a b:Syntax):Up (strip a) (strip b)=(a.kind==b.kind&&(a.text==b.text&&(a.num==b.num&&(Up a.names b.names&&(Up a.levels b.levels&&Up (a.kids.map strip) (b.kids.map strip)))))):=by
 rw[strip_eq,strip_eq,kG,IW]
 simp only[kJ,beq_iff_eq,IW,Syntax.mk.injEq,and_true]
theorem Vt (a b:kR):Up a b=(a.name==b.name&&a.plus==b.plus):=by
 rw[kG,IW,kJ,beq_iff_eq,beq_iff_eq]
 cases a;cases b;simp
theorem RB (a b:kO):Up a b=(a.hole==b.hole&&Up a.atoms b.atoms):=by
 rw[kG,IW,kJ,beq_iff_eq,IW]
 cases a;cases b;simp
theorem FF {α β:Type} (xs:List α) (ys:List β):((xs.length:Int) !=(ys.length:Int))=(xs.length !=ys.length):=by
 rw[kG,bne_iff_ne,bne_iff_ne];omega
theorem Rf (a b:List Str) (hk:a.length<Yq):Ev (fun n=>A3 n a b) (Up a b):=by
 refine Ev.fn (fun n=>by simp only[A3,L4,C9];exact rfl) ?_
 by_cases hl:a.length=b.length
 ·have e:((a.length:Int) !=(b.length:Int))=false:=by rw[FF,hl];simp
  simp only[e,cond_false]
  refine Ev.of2 (F:=fun n m=>um n m a b a.length 0) ?_
  refine zY.same (L:=fun n m i=>um n m a b a.length i) a b hl ?_ ?_
  ·intro i hi hj r hr
   refine zY.lp (fun n m=>by simp only[FR,uk];exact rfl) ?_
   simp only[hi,kE,decide_true,cond_true]
   rw[ES (by unfold Yq at hk;omega),eqb_beq]
   exact zY.idx hi (zY.idx hj (zY.andThen hr))
  ·refine zY.lp (fun n m=>by simp only[FR,uk];exact rfl) ?_
   simp only[kD,decide_false,cond_false]
   exact zY.pure
 ·have e:((a.length:Int) !=(b.length:Int))=true:=by rw[FF];simpa using hl
  simp only[e,cond_true]
  rw[N4 hl]
  exact Ev.pure
theorem VV (a b:List Str) (hk:a.length<Yq):Ev (fun n=>Gc n a b) (Up a b):=by
 refine Ev.fn (fun n=>by simp only[Gc,L4,H6];exact rfl) ?_
 by_cases hl:a.length=b.length
 ·have e:((a.length:Int) !=(b.length:Int))=false:=by rw[FF,hl];simp
  simp only[e,cond_false]
  refine Ev.of2 (F:=fun n m=>za n m a b 0) ?_
  refine zY.same (L:=fun n m i=>za n m a b i) a b hl ?_ ?_
  ·intro i hi hj r hr
   refine zY.lp (fun n m=>by simp only[Ku,y9];exact rfl) ?_
   simp only[hi,kE,decide_true,cond_true]
   rw[ES (by unfold Yq at hk;omega),eqb_beq]
   exact zY.idx hi (zY.idx hj (zY.andThen hr))
  ·refine zY.lp (fun n m=>by simp only[Ku,y9];exact rfl) ?_
   simp only[kD,decide_false,cond_false]
   exact zY.pure
 ·have e:((a.length:Int) !=(b.length:Int))=true:=by rw[FF];simpa using hl
  simp only[e,cond_true]
  rw[N4 hl]
  exact Ev.pure
theorem Nv (a b:List kR) (hk:a.length<Yq):Ev (fun n=>yF n a b) (Up a b):=by
 refine Ev.fn (fun n=>by simp only[yF,L4,AG];exact rfl) ?_
 by_cases hl:a.length=b.length
 ·have e:((a.length:Int) !=(b.length:Int))=false:=by rw[FF,hl];simp
  simp only[e,cond_false]
  refine Ev.of2 (F:=fun n m=>sr n m a b a.length 0) ?_
  refine zY.same (L:=fun n m i=>sr n m a b a.length i) a b hl ?_ ?_
  ·intro i hi hj r hr
   refine zY.lp (fun n m=>by simp only[DG,so];exact rfl) ?_
   simp only[hi,kE,decide_true,cond_true]
   rw[ES (by unfold Yq at hk;omega),Vt]
   exact zY.idx hi (zY.idx hj (zY.andThen hr))
  ·refine zY.lp (fun n m=>by simp only[DG,so];exact rfl) ?_
   simp only[kD,decide_false,cond_false]
   exact zY.pure
 ·have e:((a.length:Int) !=(b.length:Int))=true:=by rw[FF];simpa using hl
  simp only[e,cond_true]
  rw[N4 hl]
  exact Ev.pure
theorem ZU (a b:kO) (hk:a.atoms.length<Yq):Ev (fun n=>NT n a b) (Up a b):=by
 refine Ev.fn (fun n=>by simp only[NT,L4,OC];exact rfl) ?_
 rw[RB]
 exact Ev.andThen (Ev.bind (Nv _ _ hk) Ev.pure)
theorem Ca (a b:List kO) (hk:a.length<Yq) (ha: ∀l∈a,l.atoms.length<Yq):Ev (fun n=>oc n a b ()) (Up a b):=by
 refine Ev.fn (fun n=>by simp only[oc,L4,qo];exact rfl) ?_
 by_cases hl:a.length=b.length
 ·have e:((a.length:Int) !=(b.length:Int))=false:=by rw[FF,hl];simp
  simp only[e,cond_false]
  refine Ev.of2 (F:=fun n m=>mS n m b a a.length 0) ?_
  refine zY.same (L:=fun n m i=>mS n m b a a.length i) a b hl ?_ ?_
  ·intro i hi hj r hr
   refine zY.lp (fun n m=>by simp only[td,mR];exact rfl) ?_
   simp only[hi,kE,decide_true,cond_true]
   rw[ES (by unfold Yq at hk;omega)]
   exact zY.idx hi (zY.idx hj (zY.bind1 (ZU _ _ (ha _ (kH hi))) (zY.andThen hr)))
  ·refine zY.lp (fun n m=>by simp only[td,mR];exact rfl) ?_
   simp only[kD,decide_false,cond_false]
   exact zY.pure
 ·have e:((a.length:Int) !=(b.length:Int))=true:=by rw[FF];simpa using hl
  simp only[e,cond_true]
  rw[N4 hl]
  exact Ev.pure
theorem Rg {F:Nat→Option Bool} {c r:Bool} (h:c=true→Ev F r):Ev (fun n=>bif c then F n else some false) (c&&r):=by
 cases c with
 |true=>exact h rfl
 |false=>exact Ev.pure
theorem bif_and' {F:Nat→Option Bool} {c r:Bool} (h:c=true→Ev F r):Ev (fun n=>bif !c then some false else F n) (c&&r):=by
 cases c with
 |true=>exact h rfl
 |false=>exact Ev.pure
theorem Same_ev: ∀ (a b:Syntax),a.bulk<Yq→Ev (fun n=>yQ n a b) (Up (strip a) (strip b)):=by
 intro a
 induction h:a.bulk using Nat.strongRecOn generalizing a with
 |ind k ih=>
  intro b hk
  obtain ⟨l1,l2,l3,l4⟩:=a.lens
  have kids:Ev (fun n=>lW n a.kids b.kids ()) (Up (a.kids.map strip) (b.kids.map strip)):=by
   refine Ev.fn (fun n=>by simp only[EO,pI,Ix];exact rfl) ?_
   by_cases hl:a.kids.length=b.kids.length
   ·have e:((a.kids.length:Int) !=(b.kids.length:Int))=false:=by rw[FF,hl];simp
    simp only[e,cond_false]
    refine Ev.of2 (F:=fun n m=>nJ (oY n) n m b.kids a.kids a.kids.length 0) ?_
    refine zY.same (L:=fun n m i=>nJ (oY n) n m b.kids a.kids a.kids.length i) (a.kids.map strip) (b.kids.map strip) (by simpa using hl) ?_ ?_
    ·intro i hi hj r hr
     rw[kL] at hi hj
     refine zY.lp (fun n m=>by simp only[vA,nI,Ix];exact rfl) ?_
     simp only[hi,kE,decide_true,cond_true,List.getElem_map]
     rw[ES (by unfold Yq at hk;omega)]
     have hm:=Syntax.kid_lt (kH hi)
     exact zY.idx hi (zY.idx hj (zY.bind1 (ih _ (by omega) _ rfl _ (by omega)) (zY.andThen hr)))
    ·rw[kL]
     refine zY.lp (fun n m=>by simp only[vA,nI,Ix];exact rfl) ?_
     simp only[kD,decide_false,cond_false]
     exact zY.pure
   ·have e:((a.kids.length:Int) !=(b.kids.length:Int))=true:=by rw[FF];simpa using hl
    simp only[e,cond_true]
    rw[N4 (by simpa using hl)]
    exact Ev.pure
  refine Ev.fn (fun n=>by simp only[parser_Same_s,J0,Ix];exact rfl) ?_
  rw[eqb_strip]
  refine Rg fun _=>Rg fun _=>Rg fun _=>Ev.bind (Rf _ _ (by omega)) (Rg fun _=>Ev.bind (Ca _ _ (by omega) (fun l hl=>by have:=l4 l hl;omega)) (Rg fun _=>Ev.bind kids Ev.pure))
theorem Equal_ev: ∀ (a b:Syntax),a.bulk<Yq→Ev (fun n=>rI n a b true) (Up (strip a) (strip b)):=by
 intro a
 induction h:a.bulk using Nat.strongRecOn generalizing a with
 |ind k ih=>
  intro b hk
  obtain ⟨l1,l2,l3,l4⟩:=a.lens
  have kids:a.kids.length=b.kids.length→Ev (fun n=>Bx (rI n) n n true 0 a b) (Up (a.kids.map strip) (b.kids.map strip)):=by
   intro hl
   refine Ev.of2 (F:=fun n m=>Bx (rI n) n m true 0 a b) ?_
   refine zY.same (L:=fun n m i=>Bx (rI n) n m true i a b) (a.kids.map strip) (b.kids.map strip) (by simpa using hl) ?_ ?_
   ·intro i hi hj r hr
    rw[kL] at hi hj
    refine zY.lp (fun n m=>by simp only[PB,Eg];exact rfl) ?_
    simp only[hi,kE,decide_true,cond_true,List.getElem_map]
    rw[ES (by unfold Yq at hk;omega)]
    have hm:=Syntax.kid_lt (kH hi)
    exact zY.idx hi (zY.idx hj (zY.bind1 (ih _ (by omega) _ rfl _ (by omega)) (zY.andThen hr)))
   ·rw[kL]
    refine zY.lp (fun n m=>by simp only[PB,Eg];exact rfl) ?_
    simp only[kD,decide_false,cond_false]
    exact zY.pure
  have atoms: ∀ (x y:kO) (hxy:x.atoms.length=y.atoms.length) (hx:x.atoms.length<Yq) (i:Nat) (hi:i<Yq) (r:Bool),zY (fun n m=>wu (rI n) n m true ((i+1:Nat):Int) a b) r→
   ∀ (d j:Nat),d+j=x.atoms.length→ ∃N,∀n m q,N≤n→N≤m→N≤q→Il (rI n) n (wu (rI n) n m) q true i j a b x y=some (Up (x.atoms.drop j) (y.atoms.drop j)&&r):=by
   intro x y hxy hx i hi r hr d
   have hw:IntKind.i64.wrap ((i:Int)+1)=((i+1:Nat):Int):=ES (by unfold Yq at hi;omega)
   induction d with
   |zero=>
    intro j hj
    obtain rfl:j=x.atoms.length:=by omega
    obtain ⟨N,hN⟩:=hr
    refine ⟨N+1,fun n m q hn hm hq=> ?_⟩
    obtain ⟨q,rfl⟩: ∃z,q=z+1:=⟨q-1,by omega⟩
    rw[kF,hxy,kF,WH,kI,←hxy]
    simp only[PC,Eh,kD,decide_false,cond_false,hw]
    exact hN n m (by omega) (by omega)
   |succ d ih2=>
    intro j hj
    have h1:j<x.atoms.length:=by omega
    have h2:j<y.atoms.length:=by omega
    have hwj:IntKind.i64.wrap ((j:Int)+1)=((j+1:Nat):Int):=ES (by unfold Yq at hx;omega)
    obtain ⟨N,hN⟩:=ih2 (j+1) (by omega)
    rw[kC h1,kC h2,ZR,Vt]
    refine ⟨N+1,fun n m q hn hm hq=> ?_⟩
    obtain ⟨q,rfl⟩: ∃z,q=z+1:=⟨q-1,by omega⟩
    have:=hN n m q (by omega) (by omega) (by omega)
    simp only[PC,Eh,h1,kE,decide_true,cond_true,idxA_at h1,idxA_at h2,Option.bind_some,hwj,this]
    cases (x.atoms[j].name==y.atoms[j].name&&x.atoms[j].plus==y.atoms[j].plus) with
    |true=>simp only[cond_true,kI]
    |false=>simp only[cond_false,kM]
  have levels:a.kids.length=b.kids.length→a.levels.length=b.levels.length→Ev (fun n=>wu (rI n) n n true 0 a b) (Up a.levels b.levels&&Up (a.kids.map strip) (b.kids.map strip)):=by
   intro hlk hl
   refine Ev.of2 (F:=fun n m=>wu (rI n) n m true 0 a b) ?_
   have key: ∀ (d i:Nat),d+i=a.levels.length→zY (fun n m=>wu (rI n) n m true (i:Int) a b) (Up (a.levels.drop i) (b.levels.drop i)&&Up (a.kids.map strip) (b.kids.map strip)):=by
    intro d
    induction d with
    |zero=>
     intro i hi
     obtain rfl:i=a.levels.length:=by omega
     rw[kF,hl,kF,WH,kI,←hl]
     refine zY.lp (fun n m=>by simp only[PD,Ei];exact rfl) ?_
     simp only[kD,decide_false,cond_false]
     exact zY.of1 (kids hlk)
    |succ d ih2=>
     intro i hi
     have h1:i<a.levels.length:=by omega
     have h2:i<b.levels.length:=by omega
     have hx:=l4 _ (kH h1)
     rw[kC h1,kC h2,ZR,RB]
     refine zY.lp (fun n m=>by simp only[PD,Ei];exact rfl) ?_
     simp only[h1,kE,decide_true,cond_true]
     refine zY.idx h1 (zY.idx h2 ?_)
     cases a.levels[i].hole==b.levels[i].hole with
     |false=>simp only[cond_false,kM];exact zY.pure
     |true=>
      simp only[cond_true,kI]
      by_cases hat:a.levels[i].atoms.length=b.levels[i].atoms.length
      ·have e:((a.levels[i].atoms.length:Int) !=(b.levels[i].atoms.length:Int))=false:=by rw[FF,hat];simp
       simp only[e,cond_false]
       obtain ⟨N,hN⟩:=atoms _ _ hat (by omega) i (by omega) _ (ih2 (i+1) (by omega)) a.levels[i].atoms.length 0 (by omega)
       refine ⟨N,fun n m hn hm=> ?_⟩
       have:=hN n m n hn hm hn
       simp only[List.drop_zero] at this
       rw[Bool.and_assoc]
       exact this
      ·have e:((a.levels[i].atoms.length:Int) !=(b.levels[i].atoms.length:Int))=true:=by rw[FF];simpa using hat
       simp only[e,cond_true]
       rw[N4 hat]
       simp only[kM]
       exact zY.pure
   have:=key a.levels.length 0 (by omega)
   simp only[List.drop_zero] at this
   exact this
  refine Ev.fn (fun n=>by simp only[rI,L4,OD];exact rfl) ?_
  rw[eqb_strip]
  refine bif_and' fun _=>Rg fun _=>bif_and' fun _=>Ev.bind (VV _ _ (by omega)) (Rg fun _=> ?_)
  by_cases hl:a.levels.length=b.levels.length
  ·have e:((a.levels.length:Int) !=(b.levels.length:Int))=false:=by rw[FF,hl];simp
   simp only[e,cond_false]
   by_cases hk2:a.kids.length=b.kids.length
   ·have e2:((a.kids.length:Int) !=(b.kids.length:Int))=false:=by rw[FF,hk2];simp
    simp only[e2,cond_false,cond_true]
    exact levels hk2 hl
   ·have e2:((a.kids.length:Int) !=(b.kids.length:Int))=true:=by rw[FF];simpa using hk2
    simp only[e2,cond_true]
    rw[N4 (xs:=a.kids.map strip) (by simpa using hk2),Bool.and_false]
    exact Ev.pure
  ·have e:((a.levels.length:Int) !=(b.levels.length:Int))=true:=by rw[FF];simpa using hl
   simp only[e,cond_true]
   rw[N4 hl,kM]
   exact Ev.pure
theorem small_tot: ∀ (a:Syntax) (k:Int),a.bulk<Yq→R1 (fun n=>Cc n a k) Yes:=by
 intro a
 induction h:a.bulk using Nat.strongRecOn generalizing a with
 |ind q ih=>
  intro k hk
  obtain ⟨l1,l2,l3,l4⟩:=a.lens
  refine R1.fn (fun n=>by simp only[Cc,L4,Oh];exact rfl) ?_
  refine R1.of2 (F:=fun n m=>D1 (Cc n) n m (IntKind.i64.wrap (k-1)) 0 a) ?_
  refine B7.up (S:=Int) (L:=fun n m i s=>D1 (Cc n) n m s i a) a.kids.length (fun _ _=>True) Yes ?_ ?_ 0 _ (by omega) trivial
  ·intro i s hi _ next
   refine B7.lp (fun n m=>by simp only[Pk,D0];exact rfl) ?_
   simp only[hi,kE,decide_true,cond_true]
   refine B7.cnd (fun _=> ?_) (fun _=>B7.pure trivial)
   refine B7.idx hi ?_
   have hm:=Syntax.kid_lt (kH hi)
   refine B7.bind1 (ih _ (by omega) _ rfl _ (by omega)) fun x _=> ?_
   rw[ES (by unfold Yq at hk;omega)]
   exact next _ trivial
  ·intro s _
   refine B7.lp (fun n m=>by simp only[Pk,D0];exact rfl) ?_
   simp only[kD,decide_false,cond_false]
   exact B7.pure trivial
end Go.Abs
namespace Go.Abs
set_option maxRecDepth 100000
theorem awake_k (k:Nat):ED (k+300)=some true:=by kernel_rfl
theorem awake_ev:Ev (fun n=>ED n) true:=by
 refine ⟨300,fun n hn=> ?_⟩
 obtain ⟨k,rfl⟩: ∃k,n=k+300:=⟨n-300,by omega⟩
 exact awake_k k
theorem awakeB_ev:Ev (fun n=>(ED n).bind fun x=>some x) true:=Ev.bind awake_ev Ev.pure
theorem plain_of_ev {F:Nat→Option Bool} (h:Ev F true): ∃n,F n=some true:=by
 obtain ⟨N,hN⟩:=h
 exact ⟨N,hN N (Nat.le_refl _)⟩
end Go.Abs
namespace Go.Abs
theorem ParserSame_ev (a b:Syntax) (ha:a.bulk<Yq) (hb:b.bulk<Yq):Ev (fun n=>ER n a b) true:=by
 refine R1.ev ?_
 refine R1.fn (fun n=>by simp only[ER,L4,Gy];exact rfl) ?_
 have awk: ∀ {Q:Bool→Prop},Q true→R1 (fun n=>(ED n).bind fun x=>some x) Q:=fun q=>Ev.tot awakeB_ev q
 refine R1.bind (small_tot a 200 ha) fun x _=> ?_
 refine R1.cnd (fun _=>awk rfl) fun _=> ?_
 refine R1.bind (small_tot b 200 hb) fun y _=> ?_
 refine R1.cnd (fun _=>awk rfl) fun _=> ?_
 have hs:Ev (fun n=>QV n a b) (Up (strip a) (strip b)):=by
  refine Ev.fn (fun n=>by simp only[QV,L4,QU];exact rfl) ?_
  exact Ev.bind (Equal_ev a b ha) Ev.pure
 refine Ev.tot (r:=true) (Ev.bind awake_ev ?_) rfl
 simp only[cond_true]
 refine Ev.bind (Same_ev a b ha) (Ev.bind hs ?_)
 rw[beq_self_eq_true]
 simp only[cond_true]
 have h2:=Same_ev a a ha
 rw[WH] at h2
 exact Ev.bind h2 Ev.pure
theorem law26_ParserSame_plain (x0 x1:Syntax) (h:x0.bulk+x1.bulk≤1048576) (_:x0.wf) (_:x1.wf): ∃n,ER n x0 x1=some true:=
 plain_of_ev (ParserSame_ev x0 x1 (by unfold Yq;omega) (by unfold Yq;omega))
end Go.Abs
