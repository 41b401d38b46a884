/- A part of the proof: plain facts. -/
import Derived.Test.YtfilfimjoeapgaaDoorLawA
set_option linter.all false
open List renaming length_cons → l9,length_append → mg,append_assoc → mm,mem_cons_self → mo,length_singleton → mq,drop_eq_getElem_cons → mw,drop_zero → mz,take_succ_eq_append_getElem → mA,mem_cons_of_mem → mD,length_drop → mE,length_nil → mF,take_of_length_le → mG,append_nil → mH,drop_succ_cons → mI,mem_cons → mJ,take_length → mL,length → mM,take_zero → mN,length_filter_le → mO
open Option renaming bind_some → me
open Nat renaming zero_le → mh,le_refl → mB
open Bool renaming true_and → mj,not_false → mC,false_or → mK,true_or → mP
namespace Go.Abs
theorem last_pos {n:Notation} (k:Ok n) (hr:FO n=true):0<xJ n∧xJ n<n.parts.length:=by
 have:=k.right2 hr
 unfold xJ;omega
theorem P2 {T:List Notation} {n:Notation} (k:Ok n) (hr:FO n=true) (x:Syntax):Hf T n (xJ n) x=BY T n (xJ n) x:=by
 unfold Hf
 rw[decide_eq_true (last_pos k hr).1,mP,Bool.and_true]
theorem App.nodes {T:List Notation} {e:Syntax} {n:Notation} {l:List Syntax} (A:App T e n l):nodesL l<nodesT e:=by
 have:=Y3 e
 have h:=nodesT_eq (s8 e).1
 rw[A.ops] at this
 omega
theorem MX: ∀ {l:List Syntax} {x:Syntax},x∈l→nodesT x≤nodesL l
 |y::l,x,h=>by
  rw[nodesL]
  rcases mJ.1 h with e|e
  ·subst e;omega
  ·have:=MX e;omega
theorem App.last {T:List Notation} {e:Syntax} {n:Notation} {l:List Syntax} (A:App T e n l) (k:Ok n) (hr:FO n=true): ∃x,l.getLast?=some x∧0<l.length∧x∈l∧ ∀h:l.length-1<l.length,l[l.length-1]=x:=by
 have h1:=U3 k hr
 have h2:=A.holes
 unfold F4 at h2
 have hp:0<l.length:=by omega
 refine ⟨l[l.length-1],?_,hp,List.getElem_mem _,fun _=>rfl⟩
 rw[List.getLast?_eq_getElem?,List.getElem?_eq_getElem (by omega)]
theorem App.len {T:List Notation} {e:Syntax} {n:Notation} {l:List Syntax} (A:App T e n l) (k:Ok n):l.length≤16:=by
 have h2:=A.holes
 have:=List.countP_le_length (p:=(· ==[])) (l:=n.parts)
 have h3:=k.Wm
 unfold F4 at h2
 omega
theorem min_if (a b:Int):(if a<b then a else b)=min a b:=by rw[Int.min_def];split<;>split<;>omega
section prn
variable {T:List Notation} (g:Jv T) (hT:T.length≤cap) (hN: ∀n∈T,WC n) {M:List (Str×Notation)} (hM: ∀s,sE s M=T.find? (fun n=>n.target==s))
theorem trail_le {T:List Notation} (g:Jv T): ∀ (k:Nat) (e:Syntax),SizeOf.sizeOf e≤k→xP T e≤1000:=by
 intro k
 induction k with
 |zero=>intro e he;cases e;simp only[Syntax.mk.sizeOf_spec] at he;omega
 |succ k ih=>
  intro e he
  cases ha:uZ T e with
  |none=>rw[Ld ha];exact Int.le_refl _
  |some p=>
   obtain ⟨m,l⟩:=p
   have A:=tZ ha
   have km:=g.ok A.mem
   cases hr:FO m with
   |false=>rw[Lf ha hr];exact Int.le_refl _
   |true=>
    obtain ⟨x,hx,_,hm,_⟩:=A.last km hr
    rw[Ic ha hr hx]
    have h1:u9 m (xJ m)≤1000:=by have:=NW km (xJ m);omega
    cases BY T m (xJ m) x with
    |false=>exact h1
    |true=>exact Int.le_trans (Int.min_le_left _ _) h1
include g hT hN hM
theorem N5: ∀ (k:Nat) (x:Syntax),SizeOf.sizeOf x≤k→nodesT x≤cap→
 (∀ (n:Notation) (i:Nat),Ok n→i<n.parts.length→Ev (fun f=>pF f n (i:Int) x M) (((),M,()),Hf T n i x,())∧Ev (fun f=>vL f T n (i:Int) x) (Hf T n i x))∧
 (∀v:Int,v≤1000→pO (fun f m=>sG (pF f) (ot f) f m v M x) (((),M,()),min v (xP T x),()))∧
 Ev (fun f=>ot f x M) (((),M,()),xP T x,())∧Ev (fun f=>s6 f T x) (xP T x):=by
 intro k
 induction k with
 |zero=>intro x hx;cases x;simp only[Syntax.mk.sizeOf_spec] at hx;omega
 |succ k ih=>
  intro x hx hnod
  obtain ⟨pa,hpa,eva⟩:=Lj hN hM x hnod
  obtain ⟨pr,U4,evr⟩:=J7 hT hN x hnod
  obtain ⟨ps,pn,pl,pb,pu⟩:=pa
  obtain ⟨rn,rl,rb⟩:=pr
  obtain ⟨hps,hpa⟩:=hpa
  have hps:ps=((),M,()):=hps
  subst hps
  have loop: ∀v:Int,v≤1000→pO (fun f m=>sG (pF f) (ot f) f m v M x) (((),M,()),min v (xP T x),()):=by
   intro v hv
   refine pO.lp (fun n m=>by simp only[sG,xM];exact rfl) ?_
   refine pO.qH eva ?_
   cases ha:uZ T x with
   |none=>
    rw[ha] at hpa
    have hb:pb=false:=hpa
    subst hb
    rw[Ld ha,Int.min_eq_left hv]
    exact pO.pure
   |some p=>
    obtain ⟨m,l⟩:=p
    rw[ha] at hpa
    have hb:(pn,pl,pb,pu)=(m,l,true,()):=hpa
    have q1:m=pn:=congrArg (·.1) hb.symm
    have q2:l=pl:=congrArg (·.2.1) hb.symm
    have q3:true=pb:=congrArg (·.2.2.1) hb.symm
    subst q1 q2 q3
    have A:=tZ ha
    have km:=g.ok A.mem
    simp only[cond_true]
    refine pO.qH (u0 km.pos km.Kw).1 ?_
    cases hr:FO m with
    |false=>rw[Lf ha hr,Int.min_eq_left hv];exact pO.pure
    |true=>
     obtain ⟨y,hy,hlen,hmem,qb⟩:=A.last km hr
     have hl16:=A.len km
     have lp:=last_pos km hr
     simp only[cond_true]
     rw[Cf km.pos km.Kw,Cf hlen (by simp only[cap];omega)]
     refine pO.qH (Ff km lp.2) ?_
     refine pO.idx (show l.length-1<l.length by omega) ?_
     rw[qb]
     have hyn:nodesT y≤cap:=by have:=MX hmem;have:=A.nodes;omega
     obtain ⟨h1,h2,_⟩:=ih y (by have:=A.size y hmem;omega) hyn
     refine pO.qH (h1 m (xJ m) km lp.2).1 ?_
     rw[Ic ha hr hy,P2 km hr]
     have hle:u9 m (xJ m)≤1000:=by have:=NW km (xJ m);omega
     rw[show m.parts.length-1=xJ m from rfl,min_if]
     cases BY T m (xJ m) y with
     |false=>simp only[cond_false];rw[Int.min_comm];exact pO.pure
     |true=>
      simp only[cond_true]
      have:=h2 (min (u9 m (xJ m)) v) (Int.le_trans (Int.min_le_right _ _) hv)
      rw[show min v (min (u9 m (xJ m)) (xP T y))=min (min (u9 m (xJ m)) v) (xP T y) from by rw[←Int.min_assoc,Int.min_comm v]]
      exact this
  have trail:Ev (fun f=>ot f x M) (((),M,()),xP T x,()):=by
   refine Ev.fn (fun n=>by simp only[ot,yq];exact rfl) ?_
   have:=loop 1000 (Int.le_refl _)
   rw[Int.min_eq_right (trail_le g _ x (mB _))] at this
   exact Ev.Fe (F:=fun f m=>sG (pF f) (ot f) f m 1000 M x) this
  have rtrail:Ev (fun f=>s6 f T x) (xP T x):=by
   refine Ev.fn (fun n=>by simp only[s6,EO];exact rfl) ?_
   refine Ev.bind evr ?_
   cases ha:uZ T x with
   |none=>
    rw[ha] at U4
    have hb:rb=false:=U4
    subst hb
    rw[Ld ha]
    exact Ev.pure
   |some p=>
    obtain ⟨m,l⟩:=p
    rw[ha] at U4
    have hb:(rn,rl,rb)=(m,l,true):=U4
    have q1:m=rn:=congrArg (·.1) hb.symm
    have q2:l=rl:=congrArg (·.2.1) hb.symm
    have q3:true=rb:=congrArg (·.2.2) hb.symm
    subst q1 q2 q3
    have A:=tZ ha
    have km:=g.ok A.mem
    simp only[cond_true]
    refine Ev.bind (u0 km.pos km.Kw).2 ?_
    cases hr:FO m with
    |false=>rw[Lf ha hr];exact Ev.pure
    |true=>
     obtain ⟨y,hy,hlen,hmem,qb⟩:=A.last km hr
     have hl16:=A.len km
     have lp:=last_pos km hr
     simp only[cond_true]
     rw[Cf km.pos km.Kw,Cf hlen (by simp only[cap];omega)]
     refine Ev.bind (CF km lp.2) ?_
     rw[uy (show l.length-1<l.length by omega),qb]
     have hyn:nodesT y≤cap:=by have:=MX hmem;have:=A.nodes;omega
     obtain ⟨h1,_,_,h4⟩:=ih y (by have:=A.size y hmem;omega) hyn
     simp only[me]
     refine Ev.bind (h1 m (xJ m) km lp.2).2 ?_
     rw[Ic ha hr hy,P2 km hr]
     cases BY T m (xJ m) y with
     |false=>exact Ev.pure
     |true=>
      simp only[cond_true]
      refine Ev.bind h4 ?_
      rw[min_if,Int.min_comm]
      exact Ev.pure
  refine ⟨fun n i kn hi=>⟨?_,?_⟩,loop,trail,rtrail⟩
  ·refine Ev.fn (fun n=>by simp only[pF,zH];exact rfl) ?_
   refine Ev.bind eva ?_
   unfold Hf BY
   cases ha:uZ T x with
   |none=>
    rw[ha] at hpa
    have hb:pb=false:=hpa
    subst hb
    exact Ev.pure
   |some p=>
    obtain ⟨m,l⟩:=p
    rw[ha] at hpa
    have hb:(pn,pl,pb,pu)=(m,l,true,()):=hpa
    have q1:m=pn:=congrArg (·.1) hb.symm
    have q2:l=pl:=congrArg (·.2.1) hb.symm
    have q3:true=pb:=congrArg (·.2.2.1) hb.symm
    subst q1 q2 q3
    have A:=tZ ha
    have km:=g.ok A.mem
    have tail:Ev (fun f=>bif decide (0<(i:Int)) then some (((),M,()),true,()) else (ot f x M).bind fun x=>some (((),x.fst.snd.fst,()),decide (n.level<x.snd.fst),())) (((),M,()),(decide (0<i)||decide (n.level<xP T x)),()):=by
     rw[LH]
     cases decide (0<i) with
     |true=>exact Ev.pure
     |false=>simp only[cond_false,mK];exact Ev.bind trail Ev.pure
    simp only[cond_true]
    refine Ev.bind (zX km.pos).1 ?_
    cases zW m with
    |true=>
     simp only[cond_true,mP,mj]
     refine Ev.bind (Ff kn hi) ?_
     cases decide (m.level<u9 n i) with
     |true=>exact Ev.pure
     |false=>simp only[cond_false,mC,mj];exact tail
    |false=>
     simp only[cond_false,mK]
     refine Ev.bind (u0 km.pos km.Kw).1 ?_
     cases FO m with
     |true=>
      simp only[cond_true,mj]
      refine Ev.bind (Ff kn hi) ?_
      cases decide (m.level<u9 n i) with
      |true=>exact Ev.pure
      |false=>simp only[cond_false,mC,mj];exact tail
     |false=>simp only[cond_false,Bool.false_and,mC,mj];exact tail
  ·refine Ev.fn (fun n=>by simp only[vL,IQ];exact rfl) ?_
   refine Ev.bind evr ?_
   unfold Hf BY
   cases ha:uZ T x with
   |none=>
    rw[ha] at U4
    have hb:rb=false:=U4
    subst hb
    exact Ev.pure
   |some p=>
    obtain ⟨m,l⟩:=p
    rw[ha] at U4
    have hb:(rn,rl,rb)=(m,l,true):=U4
    have q1:m=rn:=congrArg (·.1) hb.symm
    have q2:l=rl:=congrArg (·.2.1) hb.symm
    have q3:true=rb:=congrArg (·.2.2) hb.symm
    subst q1 q2 q3
    have A:=tZ ha
    have km:=g.ok A.mem
    have tail:Ev (fun f=>bif decide (0<(i:Int)) then some true else (s6 f T x).bind fun x=>some (decide (n.level<x))) (decide (0<i)||decide (n.level<xP T x)):=by
     rw[LH]
     cases decide (0<i) with
     |true=>exact Ev.pure
     |false=>simp only[cond_false,mK];exact Ev.bind rtrail Ev.pure
    simp only[cond_true]
    refine Ev.bind (zX km.pos).2 ?_
    cases zW m with
    |true=>
     simp only[cond_true,mP,mj]
     refine Ev.bind (CF kn hi) ?_
     cases decide (m.level<u9 n i) with
     |true=>exact Ev.pure
     |false=>simp only[cond_false,mC,mj];exact tail
    |false=>
     simp only[cond_false,mK]
     refine Ev.bind (u0 km.pos km.Kw).2 ?_
     cases FO m with
     |true=>
      simp only[cond_true,mj]
      refine Ev.bind (CF kn hi) ?_
      cases decide (m.level<u9 n i) with
      |true=>exact Ev.pure
      |false=>simp only[cond_false,mC,mj];exact tail
     |false=>simp only[cond_false,Bool.false_and,mC,mj];exact tail
omit g hT hN hM
def PLen:Wn→List Syntax→Prop
 | .expr e,o=>o.length≤17*nodesT e
 | .parts _ ps _ l,o=>o.length≤ps.length+17*nodesL l
include g in
theorem Kv.len {c:Wn} {o:List Syntax} (h:Kv T c o):PLen c o:=by
 induction h with
 | @leaf e ha=>
   show 1≤17*nodesT e
   have:=nodesT_eq e;omega
 | @app e n l o ha h ih=>
   have A:=tZ ha
   have ih:o.length≤n.parts.length+17*nodesL l:=ih
   show o.length≤17*nodesT e
   have:=A.nodes
   have:=(g.ok A.mem).Wm
   omega
 |nil=>exact mh _
 | @sym n s ps i l o hs h ih=>
   have ih:o.length≤ps.length+17*nodesL l:=ih
   show (Ug s::o).length≤(s::ps).length+17*nodesL l
   rw[l9,l9];omega
 | @apart n ps i x l o1 o2 ha h1 h2 ih1 ih2=>
   have ih1:o1.length≤17*nodesT x:=ih1
   have ih2:o2.length≤ps.length+17*nodesL l:=ih2
   show (o1++o2).length≤([]::ps).length+17*nodesL (x::l)
   rw[mg,l9,nodesL];omega
 | @whole n ps i x l o ha h ih=>
   have ih:o.length≤ps.length+17*nodesL l:=ih
   show (x::o).length≤([]::ps).length+17*nodesL (x::l)
   have:=nodesT_eq x
   rw[l9,l9,nodesL];omega
def PFin:Wn→Prop
 | .expr e=>xQ e
 | .parts _ _ _ l=> ∀x∈l,xQ x
theorem Kv.fin {c:Wn} {o:List Syntax} (h:Kv T c o):PFin c→ ∀x∈o,xQ x:=by
 induction h with
 |leaf ha=>intro hf x hx;rw[List.mem_singleton.1 hx];exact hf
 | @app e n l o ha h ih=>
   intro hf
   have A:=tZ ha
   refine ih fun x hx=> ?_
   rw[←A.ops] at hx
   exact (LG (fun e h=>xQ.kid h) e hf).2 x hx
 |nil=>intro _ x hx;cases hx
 |sym hs h ih=>
  intro hf x hx
  rcases mJ.1 hx with e|e
  ·rw[e];exact .mk (mh _) (mh _) (fun l hl=>by cases hl) (mh _) (fun x hx=>by cases hx)
  ·exact ih hf x e
 |apart ha h1 h2 ih1 ih2=>
  intro hf x hx
  rcases List.mem_append.1 hx with e|e
  ·exact ih1 (hf _ mo) x e
  ·exact ih2 (fun y hy=>hf y (mD _ hy)) x e
 |whole ha h ih=>
  intro hf x hx
  rcases mJ.1 hx with e|e
  ·rw[e];exact hf _ mo
  ·exact ih (fun y hy=>hf y (mD _ hy)) x e
def PE (T:List Notation) (M:List (Str×Notation)):Wn→List Syntax→Prop
 | .expr e,o=>nodesT e≤cap→ ∀out:List Syntax,out.length+o.length≤40000000→Ev (fun f=>qB f e out M) (((),out++o,M,()),())
 | .parts n ps i l,o=>nodesL l≤cap→Ok n→i≤n.parts.length→ps=n.parts.drop i→ ∀out:List Syntax,out.length+o.length≤40000000→
     pO (fun f k=>rD (qB f) f k l n.parts (n.parts.length:Int) (i:Int) out M n) (((),out++o,M,()),())
theorem Pe {k:Nat} (h:k≤40000001):decide (k*120≤17592186044416)=true:=decide_eq_true (by omega)
include g hT hN hM
theorem Kv.prog {c:Wn} {o:List Syntax} (h:Kv T c o):PE T M c o:=by
 induction h with
 | @leaf e ha=>
   intro hn out ho
   obtain ⟨pa,hpa,eva⟩:=Lj hN hM e hn
   obtain ⟨ps,pn,pl,pb,pu⟩:=pa
   obtain ⟨hps,hpa⟩:=hpa
   have hps:ps=((),M,()):=hps
   subst hps
   rw[ha] at hpa
   have hb:pb=false:=hpa
   subst hb
   refine Ev.fn (fun n=>by simp only[qB,xh];exact rfl) ?_
   refine Ev.bind eva ?_
   rw[mq] at ho
   rw[Pe (k:=out.length+1) (by omega)]
   exact Ev.pure
 | @app e n l o ha h ih=>
   intro hn out ho
   have A:=tZ ha
   obtain ⟨pa,hpa,eva⟩:=Lj hN hM e hn
   obtain ⟨ps,pn,pl,pb,pu⟩:=pa
   obtain ⟨hps,hpa⟩:=hpa
   have hps:ps=((),M,()):=hps
   subst hps
   rw[ha] at hpa
   have hb:(pn,pl,pb,pu)=(n,l,true,()):=hpa
   have q1:n=pn:=congrArg (·.1) hb.symm
   have q2:l=pl:=congrArg (·.2.1) hb.symm
   have q3:true=pb:=congrArg (·.2.2.1) hb.symm
   subst q1 q2 q3
   refine Ev.fn (fun n=>by simp only[qB,xh];exact rfl) ?_
   refine Ev.bind eva ?_
   have:=ih (by have:=A.nodes;omega) (g.ok A.mem) (mh _) (mz).symm out ho
   exact Ev.Fe (F:=fun f k=>rD (qB f) f k l n.parts (n.parts.length:Int) 0 out M n) this
 | @nil n i l=>
   intro hn k hle hps out ho
   have hj:i=n.parts.length:=by
    have:=congrArg mM hps
    rw[mE,mF] at this
    omega
   refine pO.lp (fun n m=>by simp only[rD,tF];exact rfl) ?_
   rw[decide_eq_false (show ¬ (i:Int)<(n.parts.length:Int) by omega),mH]
   exact pO.pure
 | @sym n s ps i l o hs h ih=>
   intro hn k hle hps out ho
   obtain ⟨he,hx,hd,SR⟩:=drop_at hps
   have hs':(s==[])=false:=beq_eq_false_iff_ne.2 hs
   have hk:=k.Wm
   rw[l9] at ho
   refine pO.lp (fun n m=>by simp only[rD,tF];exact rfl) ?_
   simp only[he,cond_true,hx,me,hs',cond_false,Pe (k:=out.length+1) (by omega)]
   rw[nV (by omega)]
   have:=ih hn k (by omega) hd (out++[Ug s]) (by rw[mg,mq];omega)
   rw[mm] at this
   exact this
 | @apart n ps i x l o1 o2 ha h1 h2 ih1 ih2=>
   intro hn k hle hps out ho
   obtain ⟨he,hx,hd,SR⟩:=drop_at hps
   have hk:=k.Wm
   rw[nodesL] at hn
   rw[mg] at ho
   refine pO.lp (fun n m=>by simp only[rD,tF];exact rfl) ?_
   simp only[he,cond_true,hx,me,beq_self_eq_true,show xz (x::l) 0=some x from rfl]
   refine pO.qH ((N5 g hT hN hM _ x (mB _) (by omega)).1 n i k SR).1 ?_
   rw[ha]
   simp only[cond_true]
   refine pO.qH (ih1 (by omega) out (by omega)) ?_
   rw[decide_eq_true (show (1:Int)≤((x::l).length:Int)∧((x::l).length:Int)≤((x::l).length:Int) by rw[l9];omega)]
   simp only[cond_true,mL,mI,mz]
   rw[nV (by omega),←mm]
   exact ih2 (by omega) k (by omega) hd (out++o1) (by rw[mg];omega)
 | @whole n ps i x l o ha h ih=>
   intro hn k hle hps out ho
   obtain ⟨he,hx,hd,SR⟩:=drop_at hps
   have hk:=k.Wm
   rw[nodesL] at hn
   rw[l9] at ho
   refine pO.lp (fun n m=>by simp only[rD,tF];exact rfl) ?_
   simp only[he,cond_true,hx,me,beq_self_eq_true,show xz (x::l) 0=some x from rfl]
   refine pO.qH ((N5 g hT hN hM _ x (mB _) (by omega)).1 n i k SR).1 ?_
   rw[ha]
   simp only[cond_false,Pe (k:=out.length+1) (by omega),cond_true]
   rw[decide_eq_true (show (1:Int)≤((x::l).length:Int)∧((x::l).length:Int)≤((x::l).length:Int) by rw[l9];omega)]
   simp only[cond_true,mL,mI,mz]
   rw[nV (by omega)]
   have:=ih (by omega) k (by omega) hd (out++[x]) (by rw[mg,mq];omega)
   rw[mm] at this
   exact this
omit g hT hN hM
def RE (T:List Notation):Wn→List Syntax→Prop
 | .expr e,o=>nodesT e≤cap→o.length≤40000000→Ev (fun f=>xw f T e) o
 | .parts n ps i l,o=>nodesL l≤cap→Ok n→i≤n.parts.length→ps=n.parts.drop i→ ∀ (l0:List Syntax) (k:Nat),l0.length≤16→k≤l0.length→l=l0.drop k→ ∀out:List Syntax,out.length+o.length≤40000000→
     pO (fun f m=>xu (xw f) f m T l0 (k:Int) (i:Int) n out) (out++o)
include g hT hN hM
theorem Kv.ref {c:Wn} {o:List Syntax} (h:Kv T c o):RE T c o:=by
 induction h with
 | @leaf e ha=>
   intro hn _
   obtain ⟨pr,U4,evr⟩:=J7 hT hN e hn
   rw[ha] at U4
   have hb:pr.2.2=false:=U4
   refine Ev.fn (fun n=>by simp only[xw,Fb];exact rfl) ?_
   refine Ev.bind evr ?_
   rw[hb]
   exact Ev.pure
 | @app e n l o ha h ih=>
   intro hn ho
   have A:=tZ ha
   obtain ⟨pr,U4,evr⟩:=J7 hT hN e hn
   rw[ha] at U4
   have hb:pr=(n,l,true):=U4
   subst hb
   refine Ev.fn (fun n=>by simp only[xw,Fb];exact rfl) ?_
   refine Ev.bind evr ?_
   have kn:=g.ok A.mem
   have:=ih (by have:=A.nodes;omega) kn (mh _) (mz).symm l 0 (A.len kn) (mh _) (mz).symm [] (by rw[mF];omega)
   exact Ev.Fe (F:=fun f m=>xu (xw f) f m T l 0 0 n []) this
 | @nil n i l=>
   intro hn k hle hps l0 j h16 hj hl out ho
   have hji:i=n.parts.length:=by
    have:=congrArg mM hps
    rw[mE,mF] at this
    omega
   refine pO.lp (fun n m=>by simp only[xu,Aq];exact rfl) ?_
   rw[decide_eq_false (show ¬ (i:Int)<(n.parts.length:Int) by omega),mH]
   exact pO.pure
 | @sym n s ps i l o hs h ih=>
   intro hn k hle hps l0 j h16 hj hl out ho
   obtain ⟨he,hx,hd,SR⟩:=drop_at hps
   have hs':(s==[])=false:=beq_eq_false_iff_ne.2 hs
   have hk:=k.Wm
   rw[l9] at ho
   refine pO.lp (fun n m=>by simp only[xu,Aq];exact rfl) ?_
   simp only[he,cond_true,hx,me,hs',cond_false,Pe (k:=out.length+1) (by omega)]
   rw[nV (by omega)]
   have:=ih hn k (by omega) hd l0 j h16 hj hl (out++[Ug s]) (by rw[mg,mq];omega)
   rw[mm] at this
   exact this
 | @apart n ps i x l o1 o2 ha h1 h2 ih1 ih2=>
   intro hn k hle hps l0 j h16 hj hl out ho
   obtain ⟨he,hx,hd,SR⟩:=drop_at hps
   have hk:=k.Wm
   have hjl:j<l0.length:=by
    have:=congrArg mM hl
    rw[l9,mE] at this
    omega
   have hq:=mw hjl
   rw[hq,List.cons.injEq] at hl
   rw[nodesL] at hn
   rw[mg] at ho
   refine pO.lp (fun n m=>by simp only[xu,Aq];exact rfl) ?_
   simp only[he,cond_true,hx,me,beq_self_eq_true,uy hjl,←hl.1]
   refine pO.qH ((N5 g hT hN hM _ x (mB _) (by omega)).1 n i k SR).2 ?_
   rw[ha]
   simp only[cond_true]
   refine pO.qH (ih1 (by omega) (by omega)) ?_
   simp only[Pe (k:=out.length+o1.length) (by omega),cond_true]
   rw[nV (i:=i) (by omega),nV (i:=j) (by omega),←mm]
   exact ih2 (by omega) k (by omega) hd l0 (j+1) h16 (by omega) hl.2 (out++o1) (by rw[mg];omega)
 | @whole n ps i x l o ha h ih=>
   intro hn k hle hps l0 j h16 hj hl out ho
   obtain ⟨he,hx,hd,SR⟩:=drop_at hps
   have hk:=k.Wm
   have hjl:j<l0.length:=by
    have:=congrArg mM hl
    rw[l9,mE] at this
    omega
   have hq:=mw hjl
   rw[hq,List.cons.injEq] at hl
   rw[nodesL] at hn
   rw[l9] at ho
   refine pO.lp (fun n m=>by simp only[xu,Aq];exact rfl) ?_
   simp only[he,cond_true,hx,me,beq_self_eq_true,uy hjl,←hl.1]
   refine pO.qH ((N5 g hT hN hM _ x (mB _) (by omega)).1 n i k SR).2 ?_
   rw[ha]
   simp only[cond_false,Pe (k:=out.length+1) (by omega),cond_true]
   rw[nV (i:=i) (by omega),nV (i:=j) (by omega)]
   have:=ih (by omega) k (by omega) hd l0 (j+1) h16 (by omega) hl.2 (out++[x]) (by rw[mg,mq];omega)
   rw[mm] at this
   exact this
end prn
def PrintR (T:List Notation) (e:Syntax) (p:List Syntax×Int):Prop:=
 (G7 T=false∧p=([],3))∨(G7 T=true∧ ∃o,Kv T (.expr e) o∧p=bif decide (4096<o.length) then ([],5) else (o,0))
theorem LL (T:List Notation) (n:Notation) (s:Str):(T++[n]).find? (fun n=>n.target==s)=(T.find? (fun n=>n.target==s)).or (bif n.target==s then some n else none):=by
 rw[List.find?_append,List.find?_cons,List.find?_nil]
 cases n.target==s<;>rfl
theorem Y5 {T:List Notation} {e:Syntax} (hT:T.length≤cap) (hN: ∀n∈T,WC n) (he:nodesT e≤cap):
 ∃p,PrintR T e p∧Ev (fun f=>vD f T e) p∧Ev (fun f=>Dq f T e) p:=by
 obtain ⟨ri,hri,evi⟩:=Vg hT hN
 have evt:=LK hT hN
 have hT':=hT
 simp only[cap] at hT'
 rcases hri with ⟨ht,sz,B,C,I,rfl,X⟩|⟨ht,rfl⟩
 ·rw[ht] at evt
  have g:=Jv.of ht
  obtain ⟨o,ho⟩:=Kv.total T _ e (mB _)
  have hlen:o.length≤17*nodesT e:=Kv.len g ho
  have hl2:o.length≤40000000:=by simp only[cap] at he;omega
  have e4:decide ((4096:Int)<(o.length:Int))=decide (4096<o.length):=decide_eq_decide.2 (by omega)
  refine ⟨_,.inr ⟨ht,o,ho,rfl⟩,?_,?_⟩
  ·refine Ev.fn (fun n=>by simp only[vD,Cd];exact rfl) ?_
   refine Ev.bind evi ?_
   simp only[MT]
   have key: ∀ (d i:Nat) (M:List (Str×Notation)),i+d=T.length→(∀s,sE s M=(T.take i).find? (fun n=>n.target==s))→pO (fun f m=>xG f m T (T.length:Int) (i:Int) e M) (bif decide (4096<o.length) then ([],5) else (o,0)):=by
    intro d
    induction d with
    |zero=>
     intro i M hi hM
     refine pO.lp (fun n m=>by simp only[xG,Bw];exact rfl) ?_
     have:decide ((i:Int)<(T.length:Int))=false:=decide_eq_false (by omega)
     simp only[this,cond_false]
     rw[mG (by omega)] at hM
     refine pO.qH (Kv.prog g hT hN hM ho he [] (by rw[mF];omega)) ?_
     rw[List.nil_append,e4]
     cases decide (4096<o.length)<;>exact pO.pure
    |succ d ih=>
     intro i M hi hM
     have hlt:i<T.length:=by omega
     refine pO.lp (fun n m=>by simp only[xG,Bw];exact rfl) ?_
     have:decide ((i:Int)<(T.length:Int))=true:=decide_eq_true (by omega)
     simp only[this,cond_true,uy hlt,me]
     rw[nV (by omega)]
     have et:T.take (i+1)=T.take i++[T[i]]:=(mA hlt)
     cases hf:sE T[i].target M with
     |some x=>
      simp only[PK]
      refine ih (i+1) M (by omega) fun s=> ?_
      rw[et,LL,hM]
      cases hs:T[i].target==s with
      |false=>cases (T.take i).find? (fun n=>n.target==s)<;>rfl
      |true=>
       have:=beq_iff_eq.1 hs
       subst this
       rw[←hM,hf];rfl
     |none=>
      simp only[PK]
      refine ih (i+1) _ (by omega) fun s=> ?_
      rw[et,LL,EW,hM]
      cases hs:s==T[i].target with
      |true=>
       have:=beq_iff_eq.1 hs
       subst this
       rw[←hM,hf];simp
      |false=>
       have:(T[i].target==s)=false:=by rw[Bool.eq_false_iff] at hs ⊢;intro h;exact hs (by rw[beq_iff_eq] at h ⊢;exact h.symm)
       rw[this]
       cases (T.take i).find? (fun n=>n.target==s)<;>rfl
   exact Ev.Fe (F:=fun f m=>xG f m T (T.length:Int) 0 e []) (key T.length 0 [] (by omega) (fun s=>by rw[mN];rfl))
  ·refine Ev.fn (fun n=>by simp only[Dq,Fc];exact rfl) ?_
   refine Ev.bind evt ?_
   simp only[cond_true]
   obtain ⟨M,hM⟩: ∃M:List (Str×Notation),∀s,sE s M=T.find? (fun n=>n.target==s):=by
    have key: ∀ (d i:Nat) (M:List (Str×Notation)),i+d=T.length→(∀s,sE s M=(T.take i).find? (fun n=>n.target==s))→ ∃M:List (Str×Notation),∀s,sE s M=T.find? (fun n=>n.target==s):=by
     intro d
     induction d with
     |zero=>intro i M hi hM;rw[mG (by omega)] at hM;exact ⟨M,hM⟩
     |succ d ih=>
      intro i M hi hM
      have hlt:i<T.length:=by omega
      have et:T.take (i+1)=T.take i++[T[i]]:=(mA hlt)
      cases hf:sE T[i].target M with
      |some x=>
       refine ih (i+1) M (by omega) fun s=> ?_
       rw[et,LL,hM]
       cases hs:T[i].target==s with
       |false=>cases (T.take i).find? (fun n=>n.target==s)<;>rfl
       |true=>
        have:=beq_iff_eq.1 hs
        subst this
        rw[←hM,hf];rfl
      |none=>
       refine ih (i+1) (z8 T[i].target T[i] M) (by omega) fun s=> ?_
       rw[et,LL,EW,hM]
       cases hs:s==T[i].target with
       |true=>
        have:=beq_iff_eq.1 hs
        subst this
        rw[←hM,hf];simp
       |false=>
        have:(T[i].target==s)=false:=by rw[Bool.eq_false_iff] at hs ⊢;intro h;exact hs (by rw[beq_iff_eq] at h ⊢;exact h.symm)
        rw[this]
        cases (T.take i).find? (fun n=>n.target==s)<;>rfl
    exact key T.length 0 [] (by omega) (fun s=>by rw[mN];rfl)
   refine Ev.bind (Kv.ref g hT hN hM ho he hl2) ?_
   rw[e4]
   cases decide (4096<o.length)<;>exact Ev.pure
 ·rw[ht] at evt
  refine ⟨([],3),.inl ⟨ht,rfl⟩,?_,?_⟩
  ·refine Ev.fn (fun n=>by simp only[vD,Cd];exact rfl) ?_
   exact Ev.bind evi Ev.pure
  ·refine Ev.fn (fun n=>by simp only[Dq,Fc];exact rfl) ?_
   exact Ev.bind evt Ev.pure
theorem SN: ∀e:Syntax,nodesT e≤e.bulk:=by
 intro e
 induction e using Syntax.ind with
 |h e ih=>
  rw[nodesT_eq,Syntax.bulkEq]
  have: ∀l:List Syntax,(∀x∈l,nodesT x≤x.bulk)→nodesL l≤sumB Syntax.bulk l:=by
   intro l
   induction l with
   |nil=>intro _;exact mh _
   |cons x l ihl=>
    intro h
    rw[nodesL,sumB]
    have h1:=h x mo
    have h2:=ihl fun y hy=>h y (mD _ hy)
    omega
  have:=this e.kids ih
  omega
theorem SO (x0:List Notation) (x1:Syntax) (h:sumB Notation.bulk x0+x1.bulk≤1048576) (_: ∀y∈x0,y.wf) (_:x1.wf): ∃n,BT n x0 x1=some true:=by
 refine Li ?_
 obtain ⟨t1,t2⟩:=tab_sm (T:=x0) (by omega)
 have hf:xQ x1:=xQ.of x1 (by simp only[cap];omega)
 have hn:nodesT x1≤cap:=by have:=SN x1;simp only[cap];omega
 refine Ev.fn (fun n=>by simp only[BT,AW];exact rfl) ?_
 obtain ⟨b,_,Aw⟩:=Wu x0 t1 t2
 refine Ev.bind Aw ?_
 cases b with
 |false=>exact vN
 |true=>
 simp only[cond_true]
 obtain ⟨b,_,Aw⟩:=Pc [x1] (by simp only[cap];simp) (by simpa using hf)
 refine Ev.bind Aw ?_
 cases b with
 |false=>exact vN
 |true=>
 simp only[cond_true]
 obtain ⟨b,_,Aw⟩:=P1 x1 hf
 refine Ev.bind Aw ?_
 cases b with
 |true=>exact vN
 |false=>
 simp only[cond_false]
 obtain ⟨b,_,Aw⟩:=Y2 x1 hf
 refine Ev.bind Aw ?_
 cases b with
 |false=>exact vN
 |true=>
 simp only[cond_true]
 obtain ⟨p,hp,e1,e2⟩:=Y5 t1 t2 hn
 have hal:Ev (fun f=>yA f p.1 p.1) true:=by
  rcases hp with ⟨_,rfl⟩|⟨ht,o,ho,rfl⟩
  ·exact IY [] (mh _) (fun x hx=>by cases hx)
  ·by_cases hb:4096<o.length
   ·rw[decide_eq_true hb];exact IY [] (mh _) (fun x hx=>by cases hx)
   ·rw[decide_eq_false hb];exact IY o (by simp only[cap];omega) (ho.fin hf)
 refine Ev.bind e1 (Ev.bind e2 (Ev.bind hal ?_))
 simp only[cond_true,beq_self_eq_true]
 exact vN
theorem Ul (x0:List Notation) (x1:Syntax) (h:sumB Notation.bulk x0+x1.bulk≤1048576) (_: ∀y∈x0,y.wf) (_:x1.wf): ∃n,Da n x0 x1=some true:=by
 refine Li ?_
 obtain ⟨t1,t2⟩:=tab_sm (T:=x0) (by omega)
 have hf:xQ x1:=xQ.of x1 (by simp only[cap];omega)
 have hn:nodesT x1≤cap:=by have:=SN x1;simp only[cap];omega
 refine Ev.fn (fun n=>by simp only[Da,BU];exact rfl) ?_
 obtain ⟨b,_,Aw⟩:=Wu x0 t1 t2
 refine Ev.bind Aw ?_
 cases b with
 |false=>exact vN
 |true=>
 simp only[cond_true]
 refine Ev.bind (LK t1 t2) ?_
 cases ht:G7 x0 with
 |false=>exact vN
 |true=>
 simp only[cond_true]
 obtain ⟨b,hsh,Aw⟩:=Pc [x1] (by simp only[cap];simp) (by simpa using hf)
 refine Ev.bind Aw ?_
 cases b with
 |false=>exact vN
 |true=>
 simp only[cond_true]
 have hsh:=hsh rfl
 obtain ⟨b,hsy,Aw⟩:=P1 x1 hf
 refine Ev.bind Aw ?_
 cases b with
 |true=>exact vN
 |false=>
 simp only[cond_false]
 have hsy:=hsy rfl
 obtain ⟨b,hba,Aw⟩:=Y2 x1 hf
 refine Ev.bind Aw ?_
 cases b with
 |false=>exact vN
 |true=>
 simp only[cond_true]
 have hba:=hba rfl
 obtain ⟨p,hp,e1,_⟩:=Y5 t1 t2 hn
 rcases hp with ⟨ht',_⟩|⟨_,o,ho,rfl⟩
 ·rw[ht] at ht';cases ht'
 ·have g:=Jv.of ht
  have hlen:o.length≤17*nodesT x1:=Kv.len g ho
  simp only[nodesL] at hsh
  rw[decide_eq_false (show ¬ 4096<o.length by omega)] at e1
  refine Ev.bind e1 ?_
  obtain ⟨y,hh,hal,hrun⟩:=back g hsy hba ho
  have q1:=SI t1 t2 (L:=o) (by simp only[cap];omega) ht (by omega) hrun
  refine Ev.bind q1 ?_
  have hy:xQ y:=hrun.fin (ho.fin hf)
  refine Ev.bind (SL hal hy) ?_
  exact vN
end Go.Abs
namespace Go.Abs
end Go.Abs
namespace Go.Abs
theorem cloneX_ev (xs:List Syntax) (h:xs.length≤cap+1):Ev (fun n=>yT n xs) ((xs,()),()):=by
 simp only[cap] at h
 refine ⟨1,fun n hn=> ?_⟩
 obtain ⟨k,rfl⟩: ∃k,n=k+1:=⟨n-1,by omega⟩
 cases xs with
 |nil=>rfl
 |cons x xs=>
  rw[l9] at h
  show (bif decide ((xs.length+1)*120≤17592186044416) then some ((x::xs,()),()) else none)=_
  rw[decide_eq_true (by omega)];rfl
def SP (i:Nat) (x:Syntax):Syntax:=bif x.kind !=17 then .mk 12 x.text (i:Int) x.names [] [] (10*(i:Int)+1) (10*(i:Int)+9) else .mk x.kind x.text x.num x.names x.levels x.kids (10*(i:Int)+1) (10*(i:Int)+9)
def Km:Nat→List Syntax→List Syntax
 |_,[]=>[]
 |i,x::r=>SP i x::Km (i+1) r
theorem Wv: ∀ (r:List Syntax) (i:Nat),(Km i r).length=r.length
 |[],_=>rfl
 |x::r,i=>by rw[Km,l9,l9,Wv r]
theorem plL_pl: ∀ (r:List Syntax) (i:Nat),Pl i (Km i r)
 |[],_=>trivial
 |x::r,i=>by
  rw[Km]
  refine ⟨?_,?_,?_,plL_pl r (i+1)⟩
  ·unfold SP
   rw[bne]
   cases h:x.kind==17 with
   |true=>exact .inl (beq_iff_eq.1 h)
   |false=>exact .inr rfl
  ·unfold SP;cases x.kind !=17<;>rfl
  ·unfold SP;cases x.kind !=17<;>rfl
theorem plL_fin: ∀ (r:List Syntax) (i:Nat),(∀x∈r,xQ x)→ ∀x∈Km i r,xQ x
 |[],_,_=>fun x hx=>by cases hx
 |y::r,i,h=>by
  intro x hx
  rw[Km] at hx
  rcases mJ.1 hx with e|e
  ·subst e
   have hy:=h y mo
   obtain ⟨b1,b2,b3,b4⟩:=hy.bnd
   unfold SP
   cases y.kind !=17 with
   |true=>exact .mk b1 (mh _) (fun l hl=>by cases hl) (mh _) (fun x hx=>by cases hx)
   |false=>exact .mk b1 b2 b3 b4 hy.kid
  ·exact plL_fin r (i+1) (fun z hz=>h z (mD _ hz)) x e
theorem Y6 (r:List Syntax) (i:Nat): ∀ (s:List Syntax) (k:Nat),Km k (s++r)=Km k s++Km (k+s.length) r
 |[],k=>by simp [Km]
 |x::s,k=>by
  rw[List.cons_append,Km,Km,Y6 r i s (k+1),List.cons_append,l9]
  rw[show k+1+s.length=k+(s.length+1) from by omega]
theorem Ww (a b:List Syntax):opsOf (a++b)=opsOf a++opsOf b:=by unfold opsOf;rw[List.filter_append]
theorem Y7 {e y:Syntax} (h:e.kind≠y.kind):Ev (fun f=>rC f e y true) false:=by
 refine Ev.fn (fun n=>by simp only[rC,E8];exact rfl) ?_
 have:(e.kind !=y.kind)=true:=by rw[bne,beq_eq_false_iff_ne.2 h];rfl
 rw[this]
 exact Ev.pure
theorem Y8 {e:Syntax} {a b:List Syntax} (h:Fr e a b):xQ e→a.length≤cap→Ev (fun f=>s7 f e a) (b,true):=by
 induction h with
 | @leaf e b=>
   intro hf ha
   refine Ev.fn (fun n=>by simp only[s7,Ap];exact rfl) ?_
   rw[l9] at ha
   rw[decide_eq_true (show (0:Int)<((e::b).length:Int) by rw[l9];omega)]
   simp only[cond_true,show xz (e::b) 0=some e from rfl,me]
   refine Ev.bind (SL (MY.refl true e) hf) ?_
   rw[decide_eq_true (show (1:Int)≤((e::b).length:Int)∧((e::b).length:Int)≤((e::b).length:Int) by rw[l9];omega)]
   simp only[cond_true,mL,mI,mz]
   exact Ev.pure
 | @name e a hn hk=>
   intro hf ha
   refine Ev.fn (fun n=>by simp only[s7,Ap];exact rfl) ?_
   match a,hn with
   |[],_=>rw[hk];exact Ev.pure
   |y::r,hn=>
    have hy:y.kind=12:=hn y mo
    rw[decide_eq_true (show (0:Int)<((y::r).length:Int) by rw[l9];omega)]
    simp only[cond_true,show xz (y::r) 0=some y from rfl,me]
    refine Ev.bind (Y7 (by rw[hk,hy];decide)) ?_
    rw[hk]
    exact Ev.pure
 | @app e x y a b c hn hk hm h1 h2 ih1 ih2=>
   intro hf ha
   have hb:b.length≤cap:=by
    have: ∀ {e:Syntax} {a b:List Syntax},Fr e a b→b.length≤a.length:=by
     intro e a b h
     induction h with
     |leaf=>simp
     |name _ _=>exact mB _
     |app _ _ _ _ _ i1 i2=>exact Nat.le_trans i2 i1
    have:=this h1;omega
   have r1:=ih1 (hf.kid x (by rw[hm];simp)) ha
   have r2:=ih2 (hf.kid y (by rw[hm];simp)) hb
   have tail:Ev (fun f=>bif e.kind==0 then some (a,true) else bif e.kind !=2 then some ([],false) else bif (e.kids.length:Int) !=2 then some ([],false) else
    (xz e.kids 0).bind fun x=>(s7 f x a).bind fun x=>bif x.snd then (xz e.kids 1).bind fun x_1=>(s7 f x_1 x.fst).bind fun x=>some (x.fst,x.snd) else some ([],false)) (c,true):=by
    rw[hk,hm]
    simp only[show ((2:Int)==0)=false from rfl,show ((2:Int) !=2)=false from rfl,cond_false,show ((([x,y]:List Syntax).length:Int) !=2)=false from rfl,show xz [x,y] 0=some x from rfl,show xz [x,y] 1=some y from rfl,me]
    refine Ev.bind r1 ?_
    simp only[cond_true]
    exact Ev.bind r2 Ev.pure
   refine Ev.fn (fun n=>by simp only[s7,Ap];exact rfl) ?_
   match a,hn,tail with
   |[],_,tail=>exact tail
   |z::r,hn,tail=>
    have hz:z.kind=12:=hn z mo
    rw[decide_eq_true (show (0:Int)<((z::r).length:Int) by rw[l9];omega)]
    simp only[cond_true,show xz (z::r) 0=some z from rfl,me]
    refine Ev.bind (Y7 (by rw[hk,hz];decide)) ?_
    simp only[cond_false]
    exact tail
theorem wrap10 {i:Nat} (h:i≤1048640) (k:Int) (hk: -100≤k) (hk2:k≤100):IntKind.i64.wrap (IntKind.i64.wrap (10*(i:Int))+k)=10*(i:Int)+k:=by
 rw[wrap_small (n:=10*(i:Int)) (by omega) (by omega),wrap_small (by omega) (by omega)]
theorem SQ (x0:List Notation) (x1:List Syntax) (h:sumB Notation.bulk x0+sumB Syntax.bulk x1≤1048576) (_: ∀y∈x0,y.wf) (_: ∀y∈x1,y.wf): ∃n,BW n x0 x1=some true:=by
 refine Li ?_
 obtain ⟨t1,t2⟩:=tab_sm (T:=x0) (by omega)
 obtain ⟨l1,l2⟩:=lst_sm (L:=x1) (by omega)
 have l1':=l1
 simp only[cap] at l1'
 refine Ev.fn (fun n=>by simp only[BW,AX];exact rfl) ?_
 obtain ⟨b,_,Aw⟩:=Wu x0 t1 t2
 refine Ev.bind Aw ?_
 cases b with
 |false=>exact vN
 |true=>
 simp only[cond_true]
 refine Ev.bind (LK t1 t2) ?_
 cases ht:G7 x0 with
 |false=>exact vN
 |true=>
 simp only[cond_true]
 obtain ⟨b,hsh,Aw⟩:=Pc x1 l1 l2
 refine Ev.bind Aw ?_
 cases b with
 |false=>exact vN
 |true=>
 simp only[cond_true]
 have hsh:=hsh rfl
 have hlen:=SM x1
 rw[LI]
 by_cases h0:x1.length=0
 ·rw[decide_eq_true h0];exact vN
 rw[decide_eq_false h0]
 simp only[cond_false]
 refine Ev.bind (cloneX_ev x1 (by omega)) ?_
 have g:=Jv.of ht
 have fin:Ev (fun f=>(tW f x0 (Km 0 x1)).bind fun x=>bif x.snd.snd !=0 then bif x.snd.snd==4 then bif decide (0≤x.snd.fst) then bif decide (x.snd.fst≤(x1.length:Int)) then (vM f).bind fun x=>some x else some false else some false else some false
  else (s7 f x.fst (opsOf (Km 0 x1))).bind fun x_1=>bif x_1.snd then bif (x_1.fst.length:Int)==0 then bif x.fst.from_==1 then bif x.fst.to==IntKind.i64.wrap (IntKind.i64.wrap (10*(x1.length:Int))-1) then (vM f).bind fun x=>some x else some false else some false else some false else some false) true:=by
  have hL:(Km 0 x1).length=x1.length:=Wv x1 0
  obtain ⟨o,ho,_⟩:=Ei.total g (Km 0 x1).length 0 (Km 0 x1) (mB _)
  have q1:=SI t1 t2 (L:=Km 0 x1) (by omega) ht (by omega) ho
  refine Ev.bind q1 ?_
  have err: ∀q:List Syntax,Ev (fun f=>bif (4:Int) !=0 then bif (4:Int)==4 then bif decide (0≤pos (Km 0 x1) q) then bif decide (pos (Km 0 x1) q≤(x1.length:Int)) then (vM f).bind fun x=>some x else some false else some false else some false else some false) true:=by
   intro q
   have e1:decide (0≤pos (Km 0 x1) q)=true:=decide_eq_true (by unfold pos;omega)
   have e2:decide (pos (Km 0 x1) q≤(x1.length:Int))=true:=decide_eq_true (by unfold pos;rw[hL];omega)
   rw[e1,e2]
   exact vN
  rcases LD ho rfl with ⟨q,rfl⟩|⟨x,hh,q,rfl⟩
  ·exact err q
  ·match q,ho with
   |y::q,ho=>exact err (y::q)
   |[],ho=>
    have hx:xQ x:=ho.fin (plL_fin x1 0 l2)
    obtain ⟨j,_,j2,j3,j4,j5⟩:=ho.ord g 0 (plL_pl x1 0)
    have hopl:(opsOf (Km 0 x1)).length≤cap:=by
     have:=mO (fun y:Syntax=> !(y.kind==17)) (Km 0 x1)
     unfold opsOf;omega
    have hfr:=Y8 j3 hx hopl
    rw[mF,hL] at j2
    simp only[xT,List.isEmpty_nil,cond_true,show ((0:Int) !=0)=false from rfl,cond_false]
    refine Ev.bind hfr ?_
    have e1:(x.from_==1)=true:=by rw[j4];rfl
    have e2:(x.to==IntKind.i64.wrap (IntKind.i64.wrap (10*(x1.length:Int))-1))=true:=by
     have hw:=wrap10 (i:=x1.length) (by omega) (-1) (by omega) (by omega)
     rw[show IntKind.i64.wrap (10*(x1.length:Int))-1=IntKind.i64.wrap (10*(x1.length:Int))+ -1 from rfl,hw,j5,beq_iff_eq]
     omega
    simp only[cond_true,e1,e2,show (((opsOf []).length:Int)==0)=true from rfl]
    exact vN
 have key: ∀ (d i:Nat),i+d=x1.length→pO (fun f m=>uF f m x0 x1 (x1.length:Int) (i:Int) (Km 0 (x1.take i)++x1.drop i) (opsOf (Km 0 (x1.take i)))) true:=by
  intro d
  induction d with
  |zero=>
   intro i hi
   refine pO.lp (fun n m=>by simp only[uF,xI];exact rfl) ?_
   have:decide ((i:Int)<(x1.length:Int))=false:=decide_eq_false (by omega)
   simp only[this,cond_false,List.drop_eq_nil_of_le (show x1.length≤i by omega),mH,mG (show x1.length≤i by omega)]
   exact pO.S7 fin
  |succ d ih=>
   intro i hi
   have hlt:i<x1.length:=by omega
   have hli:(Km 0 (x1.take i)).length=i:=by rw[Wv,List.length_take];omega
   have qb:(Km 0 (x1.take i)++x1.drop i)[i]? =some x1[i]:=by
    rw[List.getElem?_append_right (by omega),hli,Nat.sub_self,mw hlt];rfl
   have hll:(Km 0 (x1.take i)++x1.drop i).length=x1.length:=by rw[mg,hli,mE];omega
   have P5: ∀z:Syntax,(Km 0 (x1.take i)++x1.drop i).set i z=Km 0 (x1.take i)++z::x1.drop (i+1):=by
    intro z
    rw[List.set_append_right _ _ (by omega),hli,Nat.sub_self,mw hlt];rfl
   have hnx:Km 0 (x1.take (i+1))=Km 0 (x1.take i)++[SP i x1[i]]:=by
    rw[mA hlt,Y6 [x1[i]] 0,Nat.zero_add,List.length_take,Nat.min_eq_left (by omega)]
    rfl
   have next:=ih (i+1) (by omega)
   rw[hnx,Ww,mm,List.singleton_append] at next
   have hol:(opsOf (Km 0 (x1.take i))).length≤i:=by
    have:=mO (fun y:Syntax=> !(y.kind==17)) (Km 0 (x1.take i))
    unfold opsOf;omega
   refine pO.lp (fun n m=>by simp only[uF,xI];exact rfl) ?_
   have e0:decide ((i:Int)<(x1.length:Int))=true:=decide_eq_true (by omega)
   have ei:xz (Km 0 (x1.take i)++x1.drop i) (i:Int)=some x1[i]:=by
    unfold xz
    rw[if_pos (by omega),Int.toNat_natCast,qb]
   have e1:decide ((0:Int)≤(i:Int))=true:=decide_eq_true (by omega)
   have e2:decide (i<x1.length)=true:=decide_eq_true hlt
   have w1:=wrap10 (i:=i) (by omega) 1 (by omega) (by omega)
   have w9:=wrap10 (i:=i) (by omega) 9 (by omega) (by omega)
   simp only[e0,cond_true,ei,me,Int.toNat_natCast,qb,hll,e1,e2,Bool.and_self,w1,w9,P5]
   rw[nV (by omega)]
   cases hk:x1[i].kind !=17 with
   |true=>
    simp only[cond_true]
    rw[decide_eq_true (show ((opsOf (Km 0 (x1.take i))).length+1)*120≤17592186044416 by omega)]
    have hp:SP i x1[i]= .mk 12 x1[i].text (i:Int) x1[i].names [] [] (10*(i:Int)+1) (10*(i:Int)+9):=by unfold SP;rw[hk];rfl
    rw[hp] at next
    exact next
   |false=>
    simp only[cond_false]
    have hp:SP i x1[i]= .mk x1[i].kind x1[i].text x1[i].num x1[i].names x1[i].levels x1[i].kids (10*(i:Int)+1) (10*(i:Int)+9):=by unfold SP;rw[hk];rfl
    have ho:opsOf [SP i x1[i]]=[]:=by
     rw[hp]
     exact U5 (r:=[]) (show x1[i].kind=17 by rw[bne] at hk;simpa using hk)
    rw[ho,mH,hp] at next
    exact next
 have:=key x1.length 0 (by omega)
 rw[mN,mz] at this
 exact Ev.Fe (F:=fun f m=>uF f m x0 x1 (x1.length:Int) 0 x1 []) this
end Go.Abs
namespace Go.Abs
set_option maxRecDepth 100000
section lv
variable {p a q b:Int}
end lv
end Go.Abs
