/- A part of the proof: abstract states and the rules for them. -/
import Derived.Test.YtfilfimjoeapgaaDoorCoreA
import Derived.RangeFuncLeaves
set_option linter.all false
open Go.Op renaming operands → cG
open Option.some renaming injEq → cH,inj → dQ
open Bool renaming and_eq_true → cJ,or_eq_true → dj,false_eq_true → dG,not_true → eD,or_false → eW
open Prod.mk renaming injEq → cK
open List renaming getElem?_eq_some_iff → cM,mem_append → cN,getElem?_append_left → cO,mem_singleton → cP,all_eq_true → cQ,eq_nil_of_length_eq_zero → cR,mem_cons → cU,getElem?_eq_getElem → cV,getElem?_set_ne → cY,getElem?_append_right → c9,getElem?_set_self → dc,length_erase_of_mem → dm,map_congr_left → dn,isEmpty_iff → dr,range'_succ → dw,map_nil → dy,getElem?_cons_zero → dD,flatten_cons → dH,not_mem_nil → dJ,length_cons → dK,map_cons → dM,getD_eq_getElem?_getD → dN,mem_filter → dU,pairwise_cons → dW,range → dY,set_comm → ec,mem_of_mem_erase → eo,take_left' → ep,drop_left' → eu,range_eq_range' → ew,tail_drop → ey,length_append → eA,mem_cons_self → eB,append_assoc → eG,mem_map → eJ,filter_cons → eL,tail → eM,pairwise_lt_range → eN,length_singleton → eO,mem_range → eP,replicate → eR,set_getElem_self → eS,erase_cons_head → eT,erase_cons_tail → eU,range' → e9
open Iff renaming rfl → cT
open Array renaming getElem?_eq_some_iff → cW,replicate → dx,getElem?_eq_getElem → dV,toList_push → eH,mem_append → eI,getD → eV,toList_append → eX
open Nat renaming lt_of_lt_of_le → cX,le_refl → cZ,not_lt_zero → dg,add_right_cancel_iff → dX,zero_le → ez,ne_of_lt → eK,sub_self → eY,add_mul → eZ,one_mul → e8
open Option renaming bind_eq_some_iff → dh,bind_none → dz,bind_some → dA,getD_some → eg
open List.cons renaming injEq → dO
open Go.Oper renaming apart_spec → dR,semAt_eq → eE,uponIn_enter → eF
open Go.Fence renaming wide → dZ
namespace Go.Abs
def xY (P:Program) (f:FuncId) (args:List AV) (V:AV→Prop):Prop:=
 enters P f=true∧nbL 0 args∧ ∀ (C:Ctx) (φ:Nat→Value) (w:World),C.P=P→C.w0=w→C.N0=0→(∀b o,¬ C.M0 b o)→ ∀vs:Array Value,nj (C.env φ [] w) args vs.toList→
  Calls P f vs w fun e w'=> ∃r v φ',V r∧e= .returned v∧rE (C.env φ' [] w') r v∧w.heap.size≤w'.heap.size∧(∀b,b<w.heap.size→w'.heap[b]? =w.heap[b]?)∧
   (∀x,x.block<w.heap.size→w'.frozen? x=w.frozen? x)∧w'.output=w.output∧w'.os=w.os
section grown
variable {C:Ctx} {φ:Nat→Value} {σ:AState} {a:Act} {w w':World}
theorem M8 (hh: ∀b,b<w.heap.size→w'.heap[b]? =w.heap[b]?) {b o:Nat} (hb:b<w.heap.size):w'.cell? ⟨b,o,none⟩=w.cell? ⟨b,o,none⟩:=by
 simp only[World.cell?,hh b hb]
theorem ql.grown (S:ql C φ σ a w) (hs:w.heap.size≤w'.heap.size) (hh: ∀b,b<w.heap.size→w'.heap[b]? =w.heap[b]?) (hf: ∀x,x.block<w.heap.size→w'.frozen? x=w.frozen? x) (hr:w'.output=w.output∧w'.os=w.os):
 ql C φ σ a w':=by
 have le:(C.env φ σ.heap w).Le σ.heap.length (C.env φ σ.heap w'):=
  Ctx.zY (cZ _) (fun _ _=>⟨rfl,rfl⟩) (fun b o u hm hc=>⟨hm,by rw[M8 hh (CG hc)];exact hc⟩)
 refine {slots:=nj.mono le _ _ (nj.nb _ _ S.slots) S.slots,defers:=S.defers.same le hh,objs:= ?_,apart:=S.apart,vE:=S.vE,size:=Nat.le_trans S.size hs,old:= ?_,qM:= ?_,Be:=S.Be,wZ:=fun x hx=>by rw[hf x (cX hx S.size)];exact S.wZ x hx,rest:=⟨by rw[hr.1];exact S.rest.1,by rw[hr.2];exact S.rest.2⟩,low:=S.low,names:=S.names}
 ·intro l x hx
  have r:=S.objs l x hx
  exact qQ.mono r le (fun b hb=>hh b (r.tB hb))
 ·intro b o hb hm;rw[M8 hh (cX hb S.size)];exact S.old b o hb hm
 ·intro b hb hm;rw[hh b (cX hb S.size)];exact S.qM b hb hm
def ql.callee (S:ql C φ σ a w):Ctx:=
 {P:=C.P,w0:=w,M0:=fun _ _=>False,A:=fun b o=>Cg φ σ.heap b o∨C.A b o,
  hA:=by
   rintro b o (⟨l,x,hx,hm⟩|hA)
   ·exact (S.objs l x hx).tB (AObj.qU hm)
   ·exact cX (C.hA b o hA) S.size
  hk:=fun b o h=>let ⟨v,h1,h2,_⟩:=S.know b o h;⟨v,h1,h2,fun f=>f⟩}
theorem ql.Uy (S:ql C φ σ a w) (φ':Nat→Value) (w1:World):(C.env φ σ.heap w1).Le 0 (S.callee.env φ' [] w1):=by
 refine ⟨ez _,fun l hl=>absurd hl (dg _),fun b o u hm hc=>⟨?_,hc⟩⟩
 simp only[Ctx.env,ql.callee] at hm ⊢
 rintro (⟨l,x,hx,_⟩|h)
 ·simp at hx
 ·exact hm h
theorem ql.callee_ge (S:ql C φ σ a w) (φ':Nat→Value) (w1:World):(S.callee.env φ' [] w1).Le 0 (C.env φ σ.heap w1):=by
 refine ⟨ez _,fun l hl=>absurd hl (dg _),fun b o u hm hc=>⟨?_,hc⟩⟩
 simp only[Ctx.env,ql.callee] at hm ⊢
 exact fun h=>hm (.inr h)
theorem JB {P:Program} {f:FuncId} {args:List AV} {V:AV→Prop} {K:wM→List AObj→Prop} (h:xY P f args V) (hK: ∀r,V r→K (.ret r) σ.heap):AZ P f args σ K:=by
 obtain ⟨he,hn,hc⟩:=h
 refine ⟨he,fun C φ a w hP S vs hr=> ?_⟩
 refine (hc S.callee φ w hP rfl rfl (fun _ _ h=>h) vs (nj.mono (S.Uy φ w) _ _ hn hr)).mono ?_
 rintro e w' ⟨r,v,φ',hV,rfl,rep,hs,hh,hf,ho⟩
 refine ⟨.ret r,φ,σ.heap,hK r hV,S.grown hs hh hf ho,?_⟩
 exact rE.mono (S.callee_ge φ' w') _ _ (rE.nb _ _ rep) rep
theorem xY.mono {P:Program} {f:FuncId} {args:List AV} {V V':AV→Prop} (h:xY P f args V) (hv: ∀r,V r→V' r):xY P f args V':=by
 obtain ⟨he,hn,hc⟩:=h
 refine ⟨he,hn,fun C φ w hP h0 hN hM vs hr=>(hc C φ w hP h0 hN hM vs hr).mono ?_⟩
 rintro e w' ⟨r,v,φ',hV,rest⟩
 exact ⟨r,v,φ',hv r hV,rest⟩
end grown
section loc
variable {P:Program} {σ σ':AState}
theorem Hz {c:Call} {x:Operand} (h:x∈c.args):x∈(Op.call c).operands:=by
 simp only[cG,Call.operands,eI];exact .inr h
theorem KC {d:Nat} {x:Option Operand} (h: ∀y,x=some y→σ'.ev y=σ.ev y):bound σ' d x=bound σ d x:=by
 cases x with
 |none=>rfl
 |some y=>simp only[bound,h y rfl]
theorem Lq {H H':List AObj}: ∀ {cs ds:List AV} {ns:List Nat},N6 H cs=some (ds,ns)→(∀l∈ns,H'[l]? =H[l]?)→N6 H' cs=some (ds,ns)
 |[],_,_,h,_=>by simp only[N6] at h ⊢;exact h
 |c::cs,ds,ns,h,hr=>by
  unfold N6 at h ⊢
  split at h
  ·cases ‹_::_=[]›
  ·rename_i l n cs' heq
   simp only[dO] at heq
   obtain ⟨rfl,rfl⟩:=heq
   split at h
   ·rename_i u5 sz rows hl
    split at h
    ·rename_i hn
     split at h
     ·rename_i es ms he
      simp only[cH,cK] at h
      obtain ⟨rfl,rfl⟩:=h
      have:=Lq he (fun k hk=>hr k (by simp [hk]))
      simp only[hr l (by simp),hl,hn,if_true,this]
     ·cases h
    ·cases h
   ·cases h
  ·rename_i c' cs' hne heq
   simp only[dO] at heq
   obtain ⟨rfl,rfl⟩:=heq
   split at h
   ·rename_i es ms he
    simp only[cH,cK] at h
    obtain ⟨rfl,rfl⟩:=h
    have:=Lq he hr
    cases c<;>first|(simp only[this];done)|exact (hne _ _ rfl).elim
   ·cases h
theorem Vp {H:List AObj}: ∀ {cs ds:List AV} {ns:List Nat},N6 H cs=some (ds,ns)→ ∀l∈ns,l<H.length
 |[],_,_,h=>by simp only[N6,cH,cK] at h;obtain ⟨_,rfl⟩:=h;simp
 |c::cs,ds,ns,h=>by
  unfold N6 at h
  split at h
  ·cases ‹_::_=[]›
  ·rename_i l n cs' heq
   simp only[dO] at heq
   obtain ⟨rfl,rfl⟩:=heq
   split at h
   ·rename_i u5 sz rows hl
    split at h
    ·split at h
     ·rename_i es ms he
      simp only[cH,cK] at h
      obtain ⟨_,rfl⟩:=h
      intro k hk
      simp only[cU] at hk
      rcases hk with rfl|hk
      ·exact (cM.1 hl).1
      ·exact Vp he k hk
     ·cases h
    ·cases h
   ·cases h
  ·rename_i c' cs' hne heq
   simp only[dO] at heq
   obtain ⟨rfl,rfl⟩:=heq
   split at h
   ·rename_i es ms he
    simp only[cH,cK] at h
    obtain ⟨_,rfl⟩:=h
    exact Vp he
   ·cases h
theorem ldV_local {H H':List AObj} {l:Nat} {v:AV} {e:wL} (h:ldV H l v=some e) (hr: ∀k∈e.rd,H'[k]? =H[k]?):ldV H' l v=some e:=by
 unfold ldV at h ⊢
 split at h
 ·split at h
  ·rename_i ds ns he
   cases h
   rw[Lq he (fun k hk=>hr k (by simp [hk]))]
  ·cases h
 ·exact h
theorem ldV_rd {H:List AObj} {l:Nat} {v:AV} {e:wL} (h:ldV H l v=some e):l∈e.rd∧e.up=[]∧ ∀k∈e.rd,k=l∨k<H.length:=by
 unfold ldV at h
 split at h
 ·split at h
  ·rename_i ds ns he
   cases h
   refine ⟨by simp,rfl,fun k hk=> ?_⟩
   simp only[cU] at hk
   rcases hk with rfl|hk
   ·exact .inl rfl
   ·exact .inr (Vp he k hk)
  ·cases h
 ·cases h
  exact ⟨by simp,rfl,fun k hk=>by simp at hk;exact .inl hk⟩
theorem WW {o:Op} {e:wL} (h:n6 P σ o=some e) (Aw: ∀x∈o.operands,σ'.ev x=σ.ev x) (hrd: ∀l∈e.rd,σ'.heap[l]? =σ.heap[l]?) (Zh:e.nw≠[]→σ'.heap.length=σ.heap.length):
 n6 P σ' o=some e:=by
 cases o with
 |move x=>simp only[n6] at h ⊢;rw[Aw x (by simp [cG])];exact h
 |assign x=>simp only[n6] at h ⊢;rw[Aw x (by simp [cG])];exact h
 |pick c x y=>simp only[n6] at h ⊢;rw[Aw c (by simp [cG]),Aw x (by simp [cG]),Aw y (by simp [cG])];exact h
 |alloc t=>
  simp only[n6] at h ⊢
  split at h
  ·cases h;rw[Zh (by simp)]
  ·cases h
 |box t x=>
  simp only[n6] at h ⊢
  rw[Aw x (by simp [cG])]
  split at h
  ·cases h;rw[Zh (by simp)]
  ·cases h
 |build t parts=>
  simp only[n6] at h ⊢
  have:(parts.toList.map fun p=>(p.1,σ'.ev p.2))=(parts.toList.map fun p=>(p.1,σ.ev p.2)):=by
   apply dn
   intro p hp
   rw[Aw p.2 (by simp only[cG,List.mem_toArray,eJ];exact ⟨p,hp,rfl⟩)]
  rw[this];exact h
 |buildSlice t len parts=>
  simp only[n6] at h ⊢
  have:(parts.toList.map fun p=>(p.1,σ'.ev p.2))=(parts.toList.map fun p=>(p.1,σ.ev p.2)):=by
   apply dn
   intro p hp
   rw[Aw p.2 (by simp only[cG,List.mem_toArray,eJ];exact ⟨p,hp,rfl⟩)]
  rw[this];exact h
 |load t x=>
  simp only[n6] at h ⊢
  rw[Aw x (by simp [cG])]
  split at h
  ·rename_i g n l off ht hx
   split at h
   ·rename_i cs hl
    split at h
    ·rename_i v hv
     rw[hrd l (ldV_rd h).1,hl];simp only[hv]
     exact ldV_local h hrd
    ·cases h
   ·cases h
  ·exact h
  ·rename_i g n l i m o' sz ht hx
   split at h
   ·rename_i sz' rows hl
    split at h
    ·rename_i hc
     split at h
     ·rename_i r hr
      split at h
      ·rename_i v hv
       cases h
       rw[hrd l (by simp),hl];simp only[hc,and_self,if_true,hr,hv]
      ·cases h
     ·cases h
    ·cases h
   ·cases h
  ·exact h
  ·cases h
 |store t x y=>
  simp only[n6] at h ⊢
  rw[Aw x (by simp [cG]),Aw y (by simp [cG])]
  split at h
  ·rename_i g n l off ys ht hx hy
   split at h
   ·rename_i cs hl
    split at h
    ·rename_i hc
     cases h
     rw[hrd l (by simp),hl];simp only[hc,and_self,if_true]
    ·cases h
   ·cases h
  ·rename_i g n l i m o' sz ys ht hx hy
   split at h
   ·rename_i sz' rows hl
    split at h
    ·rename_i hc
     split at h
     ·rename_i r hr
      split at h
      ·rename_i hc2
       cases h
       rw[hrd l (by simp),hl];simp only[hc,hc2,and_self,if_true,hr]
      ·cases h
     ·cases h
    ·cases h
   ·cases h
  ·cases h
 |nilCheck x=>simp only[n6] at h ⊢;rw[Aw x (by simp [cG])];exact h
 |binOp op t x y ty=>simp only[n6] at h ⊢;rw[Aw x (by simp [cG]),Aw y (by simp [cG])];exact h
 |unOp op t x=>simp only[n6] at h ⊢;rw[Aw x (by simp [cG])];exact h
 |convert s d x=>simp only[n6] at h ⊢;rw[Aw x (by simp [cG])];exact h
 |makeInterface t x=>simp only[n6] at h ⊢;rw[Aw x (by simp [cG])];exact h
 |makeFunc fn f c=>
  simp only[n6] at h ⊢
  have e1:f.toList.map σ'.ev=f.toList.map σ.ev:=dn fun x hx=>Aw x (by simp only[cG,eI];exact .inl (by simpa using hx))
  have e2:c.toList.map σ'.ev=c.toList.map σ.ev:=dn fun x hx=>Aw x (by simp only[cG,eI];exact .inr (by simpa using hx))
  rw[e1,e2];exact h
 |makeSlice t x y=>
  simp only[n6] at h ⊢
  rw[Aw x (by simp [cG]),Aw y (by simp [cG])]
  split at h
  ·split at h
   ·split at h
    ·rename_i hc
     cases h
     rw[if_pos hc,Zh (by simp)]
    ·cases h
   ·cases h
  ·cases h
 |slice t x lo hi mx=>
  simp only[n6] at h ⊢
  have hx:=Aw x (by simp [cG])
  have h1: ∀d,bound σ' d lo=bound σ d lo:=fun d=>KC fun y hy=>Aw y (by simp [cG,hy])
  have h2: ∀d,bound σ' d hi=bound σ d hi:=fun d=>KC fun y hy=>Aw y (by simp [cG,hy])
  have h3: ∀d,bound σ' d mx=bound σ d mx:=fun d=>KC fun y hy=>Aw y (by simp [cG,hy])
  rw[hx]
  simp only[M1,h1,h2,h3] at h ⊢
  split at h
  ·split at h
   ·cases h
   ·rename_i hmx
    rw[if_neg hmx]
    split at h
    ·exact h
    ·split at h
     ·rename_i hl
      split at h
      ·rename_i Wy hb2 hb3
       split at h
       ·rename_i hc
        cases h
        rw[hrd _ (by simp),hl]
        simp only[Wy,hb2,hb3]
        rw[if_pos hc]
       ·cases h
      ·cases h
     ·cases h
    ·cases h
  ·exact h
 |fieldAddr t x i=>simp only[n6] at h ⊢;rw[Aw x (by simp [cG])];exact h
 |field t x i=>simp only[n6] at h ⊢;rw[Aw x (by simp [cG])];exact h
 |indexAddr t x i=>
  simp only[n6] at h ⊢
  rw[Aw x (by simp [cG]),Aw i (by simp [cG])]
  split at h
  ·split at h
   ·exact h
   ·split at h
    ·rename_i hl
     split at h
     ·rename_i hc
      split at h
      ·rename_i hr
       cases h
       rw[hrd _ (by simp),hl]
       simp only[hr]
       rw[if_pos hc]
      ·cases h
     ·cases h
    ·rename_i hl
     split at h
     ·rename_i hc
      cases h
      rw[hrd _ (by simp),hl]
      simp only
      rw[if_pos hc]
     ·cases h
    ·cases h
   ·cases h
  ·exact h
 |index t x i=>simp only[n6] at h ⊢;rw[Aw x (by simp [cG]),Aw i (by simp [cG])];exact h
 |extract x i=>simp only[n6] at h ⊢;rw[Aw x (by simp [cG])];exact h
 |call c=>
  obtain ⟨cl,args,ts⟩:=c
  cases cl with
  |builtin b=>
   simp only[n6] at h ⊢
   have e1:args.toList.map σ'.ev=args.toList.map σ.ev:=dn fun x hx=>Aw x (Hz (by simpa using hx))
   rw[e1]
   revert h
   generalize args.toList.map σ.ev=xs
   generalize ts.toList=tl
   intro h
   unfold Et at h ⊢
   split at h
   ·rename_i t x
    unfold Up at h ⊢
    split at h
    ·exact h
    ·exact h
    ·split at h
     ·rename_i ht
      rw[if_pos ht]
      split at h
      ·rename_i hl
       split at h
       ·rename_i hn
        cases h
        rw[hrd _ (by simp),hl];simp [hn]
       ·cases h
      ·cases h
     ·cases h
    ·cases h
   ·rename_i t u x y
    split at h
    ·rename_i et sz by' ht hu
     split at h
     ·split at h
      ·rename_i hc
       rw[if_pos hc]
       unfold I0 at h ⊢
       split at h
       ·cases h
       ·rename_i rd ys hsrc
        have hsub: ∀l∈rd,l∈e.rd:=by
         split at h
         ·split at h
          ·split at h
           ·cases h;intro l hl;simp [hl]
           ·cases h
          ·cases h
         ·split at h
          ·split at h
           ·cases h;intro l hl;exact hl
           ·cases h;intro l hl;exact hl
          ·cases h
         ·cases h
        have hsrc':Jy σ' sz y=some (rd,ys):=by
         unfold Jy at hsrc ⊢
         split at hsrc
         ·exact hsrc
         ·split at hsrc
          ·rename_i hl
           split at hsrc
           ·rename_i hc
            cases hsrc
            rw[hrd _ (hsub _ (by simp)),hl];simp [hc]
           ·cases hsrc
          ·cases hsrc
         ·exact hsrc
         ·cases hsrc
        rw[hsrc']
        simp only
        split at h
        ·split at h
         ·rename_i hl
          split at h
          ·rename_i M6
           cases h
           rw[hrd _ (by simp),hl];simp [M6]
          ·cases h
         ·cases h
        ·split at h
         ·rename_i M6
          rw[if_pos M6]
          split at h
          ·rename_i hc2
           cases h
           rw[if_pos hc2,Zh (by simp)]
          ·rename_i hc2
           cases h
           rw[if_neg hc2]
         ·cases h
        ·cases h
      ·cases h
     ·cases h
    ·cases h
   ·exact h
   ·exact h
   ·cases h
  |value f=>cases h
  |invoke r m=>cases h
 |makeMap t r=>
  cases r with
  |some r=>cases h
  |none=>cases h;simp only[n6];rw[Zh (by simp)]
 |typeAssert x u t ok=>
  cases ok with
  |false=>cases h
  |true=>simp only[n6] at h ⊢;rw[Aw x (by simp [cG])];exact h
 |lookup t x k ok=>
  cases ok with
  |true=>
   simp only[n6] at h ⊢
   rw[Aw x (by simp [cG]),Aw k (by simp [cG])]
   split at h
   ·rename_i z l s ht hx' hk'
    unfold Ob at h ⊢
    split at h
    ·rename_i es hl
     split at h
     ·rename_i hs
      cases h
      rw[hrd l (by cases xZ s es<;>simp [Uq]),hl];simp [hs]
     ·cases h
    ·cases h
   ·cases h
  |false=>
   simp only[n6] at h ⊢
   rw[Aw x (by simp [cG]),Aw k (by simp [cG])]
   split at h
   ·rename_i z l s ht hx' hk'
    unfold Lm at h ⊢
    split at h
    ·rename_i es hl
     split at h
     ·rename_i hs
      cases h
      rw[hrd l (by simp),hl];simp [hs]
     ·cases h
    ·cases h
   ·cases h
 |range t x=>
  simp only[n6] at h ⊢
  rw[Aw x (by simp [cG])]
  split at h
  ·cases h;rw[Zh (by simp)]
  ·cases h
 |next x st=>
  cases st with
  |false=>cases h
  |true=>
   simp only[n6] at h ⊢
   rw[Aw x (by simp [cG])]
   split at h
   ·rename_i l hv
    unfold Ln at h ⊢
    split at h
    ·rename_i s p hl
     split at h
     ·rename_i hp
      cases h
      rw[hrd l (by simp),hl];simp [hp]
     ·rename_i hp
      cases h
      rw[hrd l (by simp),hl];simp [hp]
    ·cases h
   ·cases h
 |mapUpdate t x k y=>
  simp only[n6] at h ⊢
  rw[Aw x (by simp [cG]),Aw k (by simp [cG]),Aw y (by simp [cG])]
  split at h
  ·rename_i z l s ht hx' hk'
   unfold mapUpEff at h ⊢
   split at h
   ·rename_i es hl
    split at h
    ·rename_i hs
     cases h
     rw[hrd l (by simp),hl];simp [hs]
    ·cases h
   ·cases h
  ·cases h
 |insert t x k y=>
  simp only[n6] at h ⊢
  rw[Aw x (by simp [cG]),Aw k (by simp [cG]),Aw y (by simp [cG])]
  split at h
  ·rename_i z l s ht hx' hk'
   unfold mapUpEff at h ⊢
   split at h
   ·rename_i es hl
    split at h
    ·rename_i hs
     cases h
     rw[hrd l (by simp),hl];simp [hs]
    ·cases h
   ·cases h
  ·cases h
 |_=>cases h
end loc
end Go.Abs
namespace Go.Abs
def yD (o:Oper):List Nat:=(o.after.toList.filter (Region.binds .any)).map (·.on)
def Vq:List Oper→List Nat→List Nat
 |[],acc=>acc
 |o::os,acc=>Vq os (acc++[(yD o).foldl (fun s d=>s|||2 ^ d|||acc.getD d 0) 0])
def tC (ops:Array Oper) (i j:Nat):Bool:=((Vq ops.toList []).getD j 0).testBit i
def AD:Op→Bool
 | .call {callee:= .builtin _,..}=>false
 | .call _=>true
 |_=>false
def CW (ops:Array Oper):Bool:=
 Region.noSelect ops&&
 (let r:=Vq ops.toList []
  (dY ops.size).all fun j=>match ops[j]? with
   |none=>true
   |some oj=>(yD oj).all (· <j)&&(dY j).all fun i=>match ops[i]? with
    |none=>true
    |some oi=>(r.getD j 0).testBit i||(oi.apart ops oj&& !(AD oi.op&&AD oj.op)))
structure Tr where
 j:Nat
 n:Nat
 e:wL
def Dd (a b:List Nat):Bool:=a.all fun x=> !b.contains x
def zZ (t:Tr) (e:wL):Bool:=
 Dd (t.e.up.map (·.1)) (e.rd++e.up.map (·.1))&&Dd (e.up.map (·.1)) t.e.rd&&
 (t.e.nw.isEmpty||(e.nw.isEmpty&&(e.rd++e.up.map (·.1)).all fun l=>decide (l<t.n)))&&
 ((!t.e.whole||(e.up.isEmpty&&e.nw.isEmpty))&&(!e.whole||(t.e.up.isEmpty&&t.e.nw.isEmpty)))
def quiet:Op→Bool
 | .move _| .assign _| .pick _ _ _| .load _ _| .store _ _ _| .binOp _ _ _ _ _| .unOp _ _ _| .fieldAddr _ _ _| .field _ _ _| .indexAddr _ _ _| .index _ _ _| .extract _ _=>true
 |_=>false
def JC (o:Oper):Bool:=(match o.op with| .alloc _=>true|_=>false)&&o.guard.isNone
def Kb (ops:Array Oper) (i j:Nat):Bool:=
 match ops[i]?,ops[j]? with
 |some oi,some oj=>JC oi&&JC oj&&(yD oi).isEmpty&&(yD oj).isEmpty&&decide (i<j)&&
  (dY ops.size).all fun k=>k==i||k==j||(match ops[k]? with
    |none=>true
    |some o=>quiet o.op&&(tC ops i k==tC ops j k))
 |_,_=>false
def Q5 (ops:Array Oper) (i j:Nat):Bool:=tC ops i j||Kb ops i j
def Bm (ops:Array Oper) (tr:List Tr) (j:Nat) (e:wL):Bool:=tr.all fun t=>zZ t e||Q5 ops t.j j
def Ek (P:Program) (f:FuncId) (args:List AV) (σ:AState) (e:wL):Prop:=
 ((∀l∈e.rd,l<σ.heap.length)∧ ∀l∈e.up.map (·.1),l∈e.rd)∧
 ∀σ':AState,(∀l∈e.rd,σ'.heap[l]? =σ.heap[l]?)→(e.nw≠[]→σ'.heap.length=σ.heap.length)→(e.whole=true→σ'.heap=σ.heap)→AZ P f args σ' (fun o H'=>o= .ret e.val∧H'=p4 σ'.heap e.up++e.nw)
theorem Ek.move {P:Program} {f:FuncId} {args:List AV} {σ σ':AState} {e:wL} (h:Ek P f args σ e) (h1: ∀l∈e.rd,σ'.heap[l]? =σ.heap[l]?) (h2:e.nw≠[]→σ'.heap.length=σ.heap.length) (h3:e.whole=true→σ'.heap=σ.heap):Ek P f args σ' e:=by
 refine ⟨⟨fun l hl=> ?_,h.1.2⟩,fun σ2 k1 k2 k3=>h.2 σ2 (fun l hl=>(k1 l hl).trans (h1 l hl)) (fun hn=>(k2 hn).trans (h2 hn)) (fun hw=>(k3 hw).trans (h3 hw))⟩
 have hlt:=h.1.1 l hl
 have:=h1 l hl
 rw[cV hlt] at this
 exact (cM.1 this).1
def xS (P:Program) (ops:Array Oper) (o:Oper) (σ:AState) (S:wL→Prop):Prop:=
 (sH ops o σ=some false∧ ∀e,S e↔e={val:= .raw undef})∨
 (sH ops o σ=some true∧qn σ o.op=none∧ ∃e,n6 P σ o.op=some e∧e.pre∧ ∀e',S e'↔e'=e)∨
 (sH ops o σ=some true∧ ∃f args V,qn σ o.op=some (f,args)∧xY P f args V∧(∃r,V r)∧ ∀e,S e↔ ∃r,V r∧e={val:=r})∨
 (sH ops o σ=some true∧ ∃f args e,qn σ o.op=some (f,args)∧Ek P f args σ e∧ ∀e',S e'↔e'=e)
def M9 (P:Program) (ops:Array Oper) (K:AState→Prop):List Nat→List Tr→AState→Prop
 |[],_,σ=>K σ
 |j::rest,tr,σ=> ∃o S,ops[j]? =some o∧xS P ops o σ S∧ ∀e,S e→Bm ops tr j e=true∧M9 P ops K rest (tr++[⟨j,σ.heap.length,e⟩]) (σ.app o.dst e)
section
variable {P:Program} {ops:Array Oper} {K:AState→Prop}
theorem Q6: ∀ {R:List Nat} {tr SZ:List Tr} {σ:AState},(∀t∈SZ,t∈tr)→M9 P ops K R tr σ→M9 P ops K R SZ σ
 |[],_,_,_,_,h=>h
 |j::rest,tr,SZ,σ,hs,⟨o,S,ho,hst,h⟩=>by
  refine ⟨o,S,ho,hst,fun e he=> ?_⟩
  obtain ⟨hc,hr⟩:=h e he
  refine ⟨?_,Q6 ?_ hr⟩
  ·unfold Bm at*
   rw[cQ] at*
   exact fun t ht=>hc t (hs t ht)
  ·intro t ht
   rcases cN.1 ht with ht|ht
   ·exact cN.2 (.inl (hs t ht))
   ·exact cN.2 (.inr ht)
theorem xS.nonempty {o:Oper} {σ:AState} {S:wL→Prop} (h:xS P ops o σ S): ∃e,S e:=by
 rcases h with ⟨_,h⟩|⟨_,_,e,_,_,h⟩|⟨_,f,args,V,_,_,⟨r,hr⟩,h⟩|⟨_,f,args,e,_,_,h⟩
 ·exact ⟨_,(h _).2 rfl⟩
 ·exact ⟨e,(h e).2 rfl⟩
 ·exact ⟨_,(h _).2 ⟨r,hr,rfl⟩⟩
 ·exact ⟨e,(h e).2 rfl⟩
theorem xS.det {o:Oper} {σ:AState} {S:wL→Prop} (h:xS P ops o σ S) (hc:AD o.op=false): ∃e,∀e',S e'↔e'=e:=by
 rcases h with ⟨_,h⟩|⟨_,_,e,_,_,h⟩|⟨_,f,args,V,h1,_,_,h⟩|⟨_,f,args,e,_,_,h⟩
 ·exact ⟨_,h⟩
 ·exact ⟨e,h⟩
 rotate_left
 ·exact ⟨e,h⟩
 ·exfalso
  unfold qn at h1
  split at h1
  ·rename_i ho;rw[ho] at hc;simp [AD] at hc
  ·cases h1
theorem xS.eq {o:Oper} {σ:AState} {S S':wL→Prop} (h:xS P ops o σ S) (h':xS P ops o σ S') (hc:AD o.op=false): ∀e,S e↔S' e:=by
 have nc: ∀ {f args},qn σ o.op≠some (f,args):=by
  intro f args h1
  unfold qn at h1
  split at h1
  ·rename_i ho;rw[ho] at hc;simp [AD] at hc
  ·cases h1
 rcases h with ⟨hw,h⟩|⟨hw,_,e,he,_,h⟩|⟨_,f,args,V,h1,_⟩|⟨_,f,args,_,h1,_⟩
 ·rcases h' with ⟨_,h'⟩|⟨hw',_⟩|⟨_,f,args,V,h1,_⟩|⟨_,f,args,_,h1,_⟩
  ·intro e;rw[h,h']
  ·rw[hw] at hw';cases hw'
  ·exact absurd h1 nc
  ·exact absurd h1 nc
 ·rcases h' with ⟨hw',_⟩|⟨_,_,e2,he2,_,h'⟩|⟨_,f,args,V,h1,_⟩|⟨_,f,args,_,h1,_⟩
  ·rw[hw] at hw';cases hw'
  ·intro x;rw[h,h'];rw[he] at he2;cases he2;exact cT
  ·exact absurd h1 nc
  ·exact absurd h1 nc
 ·exact absurd h1 nc
 ·exact absurd h1 nc
theorem EY {o:Oper} {σ σ':AState} (h: ∀j b d,o.guard=some (j,b)→(ops[j]?).bind (·.dst)=some d→σ'.slots[d]? =σ.slots[d]?):sH ops o σ'=sH ops o σ:=by
 unfold sH
 split
 ·rfl
 ·rename_i j want hg
  split
  ·rename_i d hd;rw[h j want d hg hd]
  ·rfl
theorem Dx {o:Op} {σ σ':AState} (h: ∀x∈o.operands,σ'.ev x=σ.ev x):qn σ' o=qn σ o:=by
 unfold qn
 split
 ·rename_i f args ts
  have h1:σ'.ev f=σ.ev f:=h f (by simp [cG,Call.operands])
  have h2:args.toList.map σ'.ev=args.toList.map σ.ev:=dn fun x hx=>h x (Hz (by simpa using hx))
  rw[h1,h2]
 ·rfl
theorem xS.local {o:Oper} {σ σ':AState} {S:wL→Prop} (h:xS P ops o σ S) (Aw: ∀x∈o.op.operands,σ'.ev x=σ.ev x) (hw:sH ops o σ'=sH ops o σ)
 (hh: ∀e,S e→((∀l∈e.rd,σ'.heap[l]? =σ.heap[l]?)∧(e.nw≠[]→σ'.heap.length=σ.heap.length))∧(e.whole=true→σ'.heap=σ.heap)):xS P ops o σ' S:=by
 rcases h with ⟨h1,h⟩|⟨h1,h2,e,he,hp,h⟩|⟨h1,f,args,V,h2,h3,h4,h⟩|⟨h1,f,args,e,h2,h3,h⟩
 ·exact .inl ⟨by rw[hw];exact h1,h⟩
 ·refine .inr (.inl ⟨by rw[hw];exact h1,by rw[Dx Aw];exact h2,e,?_,hp,h⟩)
  obtain ⟨⟨a,b⟩,_⟩:=hh e ((h e).2 rfl)
  exact WW he Aw a b
 ·exact .inr (.inr (.inl ⟨by rw[hw];exact h1,f,args,V,by rw[Dx Aw];exact h2,h3,h4,h⟩))
 ·obtain ⟨⟨a,b⟩,c⟩:=hh e ((h e).2 rfl)
  exact .inr (.inr (.inr ⟨by rw[hw];exact h1,f,args,e,by rw[Dx Aw];exact h2,h3.move a b c,h⟩))
theorem tO: ∀ (ups:List (Nat×AObj)) (H:List AObj),(p4 H ups).length=H.length
 |[],_=>rfl
 |(l,x)::r,H=>by simp [p4,tO r]
theorem Na: ∀ (ups:List (Nat×AObj)) (H:List AObj) (l:Nat),l ∉ ups.map (·.1)→(p4 H ups)[l]? =H[l]?
 |[],_,_,_=>rfl
 |(k,x)::r,H,l,h=>by
  simp only[dM,cU,not_or] at h
  rw[p4,Na r _ l h.2,cY (fun e=>h.1 e.symm)]
theorem Nb {σ:AState} {dst:Option Tmp} {e:wL} {l:Nat} (h1:l ∉ e.up.map (·.1)) (h2:l<σ.heap.length):(σ.app dst e).heap[l]? =σ.heap[l]? :=by
 have:(σ.app dst e).heap=p4 σ.heap e.up++e.nw:=rfl
 rw[this,cO (by rw[tO];exact h2),Na _ _ _ h1]
theorem Zi {σ:AState} {dst:Option Tmp} {e:wL} {x:Operand} (h: ∀d,dst=some d→x≠ .tmp d):(σ.app dst e).ev x=σ.ev x:=by
 cases x with
 |tmp t=>
  cases dst with
  |none=>rfl
  |some d=>
   have hne:d≠t:=fun he=>h d rfl (by rw[he])
   simp only[AState.ev,AState.app,AState.put,List.getD]
   rw[cY hne]
 |const v=>rfl
 |global g=>rfl
 |func f=>rfl
theorem Od {σ:AState} {dst:Option Tmp} {e:wL} {t:Nat} (h: ∀d,dst=some d→t≠d):(σ.app dst e).slots[t]? =σ.slots[t]? :=by
 cases dst with
 |none=>rfl
 |some d=>
  simp only[AState.app,AState.put]
  rw[cY (fun he=>h d rfl he.symm)]
theorem opEff_lt {σ:AState} {o:Op} {e:wL} (h:n6 P σ o=some e):(∀l∈e.rd,l<σ.heap.length)∧ ∀l∈e.up.map (·.1),l<σ.heap.length:=by
 have lt: ∀ {l:Nat} {x:AObj},σ.heap[l]? =some x→l<σ.heap.length:=fun h=>(cM.1 h).1
 cases o with
 |load t x=>
  simp only[n6] at h
  split at h
  ·split at h
   ·rename_i hl
    split at h
    ·obtain ⟨_,h2,h3⟩:=ldV_rd h
     refine ⟨fun k hk=> ?_,by rw[h2];simp⟩
     rcases h3 k hk with rfl|hk
     ·exact lt hl
     ·exact hk
    ·cases h
   ·cases h
  ·split at h
   ·cases h;simp
   ·cases h
  ·split at h
   ·rename_i hl
    split at h
    ·split at h
     ·split at h
      ·cases h;simp only[cP,dy,dJ,false_imp_iff,implies_true,and_true];rintro l rfl;exact lt hl
      ·cases h
     ·cases h
    ·cases h
   ·cases h
  ·unfold QS at h
   split at h
   ·split at h
    ·rw[dh] at h
     obtain ⟨m,_,h⟩:=h
     cases h;simp
    ·cases h
   ·cases h
  ·cases h
 |store t x y=>
  simp only[n6] at h
  split at h
  ·split at h
   ·rename_i hl
    split at h
    ·cases h
     constructor
     ·simp only[cP];rintro l rfl;exact lt hl
     ·simp only[dM,dy,cP];rintro l rfl;exact lt hl
    ·cases h
   ·cases h
  ·split at h
   ·rename_i hl
    split at h
    ·split at h
     ·split at h
      ·cases h
       constructor
       ·simp only[cP];rintro l rfl;exact lt hl
       ·simp only[dM,dy,cP];rintro l rfl;exact lt hl
      ·cases h
     ·cases h
    ·cases h
   ·cases h
  ·cases h
 |indexAddr t x i=>
  simp only[n6] at h
  split at h
  ·split at h
   ·split at h
    ·split at h
     ·cases h;simp
     ·cases h
    ·cases h
   ·split at h
    ·rename_i hl
     split at h
     ·split at h
      ·cases h;simp only[cP,dy,dJ,false_imp_iff,implies_true,and_true];rintro l rfl;exact lt hl
      ·cases h
     ·cases h
    ·rename_i hl
     split at h
     ·cases h;simp only[cP,dy,dJ,false_imp_iff,implies_true,and_true];rintro l rfl;exact lt hl
     ·cases h
    ·cases h
   ·cases h
  ·split at h
   ·split at h
    ·split at h
     ·cases h;simp
     ·cases h
    ·split at h
     ·rw[dh] at h
      obtain ⟨ds,_,he⟩:=h
      obtain rfl:=dQ he
      simp
     ·cases h
    ·split at h
     ·cases h;simp
     ·cases h
    ·cases h
   ·cases h
 |slice t x lo hi mx=>
  simp only[n6] at h
  split at h
  ·split at h
   ·cases h
   ·unfold M1 at h
    split at h
    ·split at h
     ·split at h
      ·cases h;simp
      ·cases h
     ·cases h
    ·split at h
     ·rename_i hl
      split at h
      ·split at h
       ·cases h;simp only[cP,dy,dJ,false_imp_iff,implies_true,and_true];rintro l rfl;exact lt hl
       ·cases h
      ·cases h
     ·cases h
    ·cases h
  ·split at h
   ·split at h
    ·split at h
     ·cases h;simp
     ·cases h
    ·cases h
   ·cases h
 |call c=>
  obtain ⟨cl,args,ts⟩:=c
  cases cl with
  |builtin b=>
   simp only[n6] at h
   unfold Et at h
   split at h
   ·unfold Up at h
    split at h
    ·split at h
     ·cases h;simp
     ·cases h
    ·split at h
     ·cases h;simp
     ·cases h
    ·split at h
     ·split at h
      ·rename_i hl
       split at h
       ·cases h;simp only[cP,dy,dJ,false_imp_iff,implies_true,and_true];rintro l rfl;exact lt hl
       ·cases h
      ·cases h
     ·cases h
    ·cases h
   ·split at h
    ·split at h
     ·split at h
      ·unfold I0 at h
       split at h
       ·cases h
       ·rename_i rd ys hsrc
        have hrd: ∀l∈rd,l<σ.heap.length:=by
         unfold Jy at hsrc
         split at hsrc
         ·split at hsrc
          ·cases hsrc;simp
          ·cases hsrc
         ·split at hsrc
          ·rename_i hl
           split at hsrc
           ·cases hsrc;simp only[cP];rintro l rfl;exact lt hl
           ·cases hsrc
          ·cases hsrc
         ·cases hsrc;simp
         ·cases hsrc
        split at h
        ·split at h
         ·rename_i hl
          split at h
          ·cases h
           constructor
           ·intro l hl'
            simp only[cU] at hl'
            rcases hl' with rfl|hl'
            ·exact lt hl
            ·exact hrd l hl'
           ·simp only[dM,dy,cP];rintro l rfl;exact lt hl
          ·cases h
         ·cases h
        ·split at h
         ·split at h<;>cases h<;>exact ⟨hrd,by simp⟩
         ·cases h
        ·cases h
      ·cases h
     ·cases h
    ·cases h
   ·cases h;simp
   ·cases h;simp
   ·cases h
  |value f=>cases h
  |invoke r m=>cases h
 |move x=>cases h;simp
 |assign x=>cases h;simp
 |makeFunc fn f c=>cases h;simp
 |pick c x y=>simp only[n6] at h;split at h<;>cases h;simp
 |alloc t=>simp only[n6] at h;split at h<;>cases h;simp
 |box t x=>simp only[n6] at h;split at h<;>cases h;simp
 |build t parts=>
  simp only[n6] at h
  split at h
  ·split at h<;>cases h;simp
  ·cases h
 |buildSlice t len parts=>
  simp only[n6] at h
  split at h
  ·split at h
   ·split at h
    ·split at h<;>cases h;simp
    ·cases h
   ·cases h
  ·cases h
 |nilCheck x=>simp only[n6] at h;split at h<;>cases h<;>simp
 |binOp op t x y ty=>
  simp only[n6] at h
  split at h
  ·cases h;simp
  ·unfold Uo MF at h
   split at h
   ·rename_i he
    split at he
    ·split at he<;>cases he;cases h;simp
    ·split at he<;>cases he;cases h;simp
    ·cases he
   unfold Oa at h
   split at h
   ·cases h;simp
   ·cases h;simp
   ·split at h<;>cases h;simp
   ·split at h<;>cases h;simp
   ·split at h<;>cases h;simp
   ·split at h<;>cases h;simp
   ·split at h<;>cases h;simp
   ·split at h<;>cases h;simp
   ·cases h
 |unOp op t x=>simp only[n6] at h;split at h<;>cases h<;>simp
 |convert s d x=>
  simp only[n6] at h
  split at h
  ·split at h<;>cases h;simp
  ·split at h
   ·cases h;simp
   ·split at h<;>cases h;simp
   ·cases h
  ·cases h
 |makeInterface t x=>simp only[n6] at h;split at h<;>cases h;simp
 |makeSlice t x y=>
  simp only[n6] at h
  split at h
  ·split at h
   ·split at h<;>cases h;simp
   ·cases h
  ·cases h
 |fieldAddr t x i=>simp only[n6] at h;split at h<;>cases h<;>simp
 |field t x i=>
  simp only[n6] at h
  split at h
  ·split at h
   ·split at h<;>cases h;simp
   ·cases h
  ·cases h
 |index t x i=>
  simp only[n6] at h
  split at h
  ·split at h
   ·split at h<;>cases h;simp
   ·cases h
  ·cases h
 |extract x i=>
  simp only[n6] at h
  split at h
  ·split at h<;>cases h;simp
  ·cases h
 |makeMap t r=>
  cases r with
  |some r=>cases h
  |none=>cases h;simp
 |typeAssert x u t ok=>
  cases ok with
  |false=>cases h
  |true=>
   simp only[n6] at h
   unfold Vj at h
   split at h
   ·split at h<;>cases h;simp
   ·cases h
 |lookup t x k ok=>
  cases ok with
  |true=>
   simp only[n6] at h
   split at h
   ·unfold Ob at h
    split at h
    ·rename_i hl
     split at h
     ·cases h
      have:=lt hl
      unfold Uq
      split<;>simp [this]
     ·cases h
    ·cases h
   ·cases h
  |false=>
   simp only[n6] at h
   split at h
   ·unfold Lm at h
    split at h
    ·rename_i hl
     split at h
     ·cases h
      have:=lt hl
      simp [this]
     ·cases h
    ·cases h
   ·cases h
 |range t x=>simp only[n6] at h;split at h<;>cases h;simp
 |next x st=>
  cases st with
  |false=>cases h
  |true=>
   simp only[n6] at h
   split at h
   ·unfold Ln at h
    split at h
    ·rename_i hl
     have:=lt hl
     split at h<;>cases h<;>simp [this]
    ·cases h
   ·cases h
 |mapUpdate t x k y=>
  simp only[n6] at h
  split at h
  ·unfold mapUpEff at h
   split at h
   ·rename_i hl
    split at h
    ·cases h
     have:=lt hl
     simp [this]
    ·cases h
   ·cases h
  ·cases h
 |insert t x k y=>
  simp only[n6] at h
  split at h
  ·unfold mapUpEff at h
   split at h
   ·rename_i hl
    split at h
    ·cases h
     have:=lt hl
     simp [this]
    ·cases h
   ·cases h
  ·cases h
 |_=>cases h
end
end Go.Abs
namespace Go.Abs
section
variable {P:Program} {ops:Array Oper} {K:AState→Prop}
theorem FT: ∀ (ups:List (Nat×AObj)) (H N:List AObj),(∀l∈ups.map (·.1),l<H.length)→p4 (H++N) ups=p4 H ups++N
 |[],_,_,_=>rfl
 |(l,x)::r,H,N,h=>by
  simp only[p4]
  rw[List.set_append_left _ _ (h l (by simp))]
  exact FT r _ N (fun k hk=>by rw[List.length_set];exact h k (by simp at hk ⊢;exact .inr hk))
theorem Nc: ∀ (ups:List (Nat×AObj)) (H:List AObj) (l:Nat) (x:AObj),l ∉ ups.map (·.1)→p4 (H.set l x) ups=(p4 H ups).set l x
 |[],_,_,_,_=>rfl
 |(k,y)::r,H,l,x,h=>by
  simp only[dM,cU,not_or] at h
  simp only[p4]
  rw[ec _ _ h.1,Nc r _ l x h.2]
theorem L4: ∀ (u v:List (Nat×AObj)) (H:List AObj),(∀l∈u.map (·.1),l ∉ v.map (·.1))→p4 (p4 H u) v=p4 (p4 H v) u
 |[],_,_,_=>rfl
 |(l,x)::r,v,H,h=>by
  simp only[p4]
  rw[L4 r v _ (fun k hk=>h k (by simp at hk ⊢;exact .inr hk)),Nc v H l x (h l (by simp))]
theorem Gy {a b:List Nat} (h:Dd a b=true): ∀l∈a,l ∉ b:=by
 unfold Dd at h
 rw[cQ] at h
 intro l hl hb
 have:=h l hl
 simp [hb] at this
theorem WX {σ:AState} {d d':Option Tmp} {e e':wL} {j:Nat} (hd: ∀x,d=some x→d'≠some x) (hi:zZ ⟨j,σ.heap.length,e⟩ e'=true)
 (h1: ∀l∈e.up.map (·.1),l<σ.heap.length) (h2: ∀l∈e'.up.map (·.1),l<(σ.app d e).heap.length):(σ.app d e).app d' e'=(σ.app d' e').app d e:=by
 unfold zZ at hi
 simp only[cJ,dj] at hi
 obtain ⟨⟨⟨i1,i2⟩,i3⟩,_⟩:=hi
 have dis: ∀l∈e.up.map (·.1),l ∉ e'.up.map (·.1):=fun l hl hl'=>Gy i1 l hl (cN.2 (.inr hl'))
 have h2': ∀l∈e'.up.map (·.1),l<σ.heap.length:=by
  intro l hl
  rcases i3 with i3|⟨_,i3⟩
  ·have:=h2 l hl
   have hn:e.nw=[]:=by simpa using i3
   simpa [AState.app,hn,tO] using this
  ·rw[cQ] at i3
   simpa using i3 l (cN.2 (.inr hl))
 have hslots:((σ.app d e).app d' e').slots=((σ.app d' e').app d e).slots:=by
  cases d with
  |none=>cases d'<;>rfl
  |some x=>cases d' with
   |none=>rfl
   |some y=>
    simp only[AState.app,AState.put]
    exact ec _ _ (fun he=>hd x rfl (by rw[he]))
 have F6:((σ.app d e).app d' e').heap=((σ.app d' e').app d e).heap:=by
  simp only[AState.app]
  rw[FT _ _ _ (by rw[tO];exact h2'),FT _ _ _ (by rw[tO];exact h1),L4 _ _ _ dis]
  rcases i3 with i3|⟨i3,_⟩
  ·have hn:e.nw=[]:=by simpa using i3
   simp [hn]
  ·have hn:e'.nw=[]:=by simpa using i3
   simp [hn]
 have ext: ∀ (s t:AState),s.slots=t.slots→s.heap=t.heap→s.low=t.low→s.df=t.df→s=t:=by
  intro s t h h' h'' h3;cases s;cases t;simp_all
 refine ext _ _ hslots F6 ?_ ?_<;>cases d<;>cases d'<;>rfl
theorem xS.lt {o:Oper} {σ:AState} {S:wL→Prop} (h:xS P ops o σ S) {e:wL} (he:S e):(∀l∈e.rd,l<σ.heap.length)∧ ∀l∈e.up.map (·.1),l<σ.heap.length:=by
 rcases h with ⟨_,h⟩|⟨_,_,e',he',_,h⟩|⟨_,f,args,V,_,_,_,h⟩|⟨_,f,args,e',_,hl,h⟩
 ·rw[(h e).1 he];simp
 ·rw[(h e).1 he];exact opEff_lt he'
 ·obtain ⟨r,_,rfl⟩:=(h e).1 he;simp
 ·rw[(h e).1 he];exact ⟨hl.1.1,fun l hm=>hl.1.1 l (hl.1.2 l hm)⟩
theorem EZ {o:Oper} {d:Tmp} (h:d ∉ o.looksAt ops): ∀x∈o.op.operands,x≠ .tmp d:=by
 intro x hx e
 subst e
 apply h
 unfold Oper.looksAt
 refine cN.2 (.inl ?_)
 simp only[List.mem_filterMap]
 exact ⟨.tmp d,by simpa using hx,rfl⟩
theorem HA {o:Oper} {d:Tmp} (h:d ∉ o.looksAt ops) {j:Nat} {b:Bool} {k:Tmp} (hg:o.guard=some (j,b)) (hk:(ops[j]?).bind (·.dst)=some k):k≠d:=by
 intro e
 subst e
 apply h
 unfold Oper.looksAt
 refine cN.2 (.inr ?_)
 simp [hg,hk]
theorem xS.back {oi or':Oper} {σ:AState} {S:wL→Prop} {er:wL} {j:Nat} (h:xS P ops oi (σ.app or'.dst er) S) (hap: ∀d,or'.dst=some d→d ∉ oi.looksAt ops)
 (hi: ∀e,S e→zZ ⟨j,σ.heap.length,er⟩ e=true):xS P ops oi σ S:=by
 refine h.local (fun x hx=> ?_) (EY fun k b d hg hd=> ?_) (fun e he=> ?_)
 ·rw[Zi];intro d hd;exact EZ (hap d hd) x hx
 ·rw[Od];intro d' hd';exact HA (hap d' hd') hg hd
 ·have hlt:=h.lt he
  have:=hi e he
  unfold zZ at this
  simp only[cJ,dj] at this
  obtain ⟨⟨⟨i1,i2⟩,i3⟩,_,i5⟩:=this
  refine ⟨⟨?_,?_⟩,fun hwh=> ?_⟩
  rotate_left 2
  ·rw[hwh] at i5
   simp only[eD,dG,false_or,dr] at i5
   simp [AState.app,i5.1,i5.2,p4]
  ·intro l hl
   have hl2:l<σ.heap.length:=by
    rcases i3 with i3|⟨_,i3⟩
    ·have hn:er.nw=[]:=by simpa using i3
     have:=hlt.1 l hl
     simpa [AState.app,hn,tO] using this
    ·rw[cQ] at i3
     simpa using i3 l (cN.2 (.inl hl))
   rw[Nb (fun hu=>Gy i1 l hu (cN.2 (.inl hl))) hl2]
  ·intro Zh
   rcases i3 with i3|⟨i3,_⟩
   ·have hn:er.nw=[]:=by simpa using i3
    simp [AState.app,hn,tO]
   ·exact absurd (by simpa using i3) Zh
theorem xS.fwd {oi or':Oper} {σ:AState} {S:wL→Prop} {ei:wL} {j:Nat} (h:xS P ops or' σ S) (hap: ∀d,oi.dst=some d→d ∉ or'.looksAt ops)
 (hi: ∀e,S e→zZ ⟨j,σ.heap.length,e⟩ ei=true):xS P ops or' (σ.app oi.dst ei) S:=by
 refine h.local (fun x hx=> ?_) (EY fun k b d hg hd=> ?_) (fun e he=> ?_)
 ·rw[Zi];intro d hd;exact EZ (hap d hd) x hx
 ·rw[Od];intro d' hd';exact HA (hap d' hd') hg hd
 ·have hlt:=h.lt he
  have:=hi e he
  unfold zZ at this
  simp only[cJ,dj] at this
  obtain ⟨⟨⟨i1,i2⟩,i3⟩,i4,_⟩:=this
  refine ⟨⟨?_,?_⟩,fun hwh=> ?_⟩
  rotate_left 2
  ·rw[hwh] at i4
   simp only[eD,dG,false_or,dr] at i4
   simp [AState.app,i4.1,i4.2,p4]
  ·intro l hl
   rw[Nb (fun hu=>Gy i2 l hu hl) (hlt.1 l hl)]
  ·intro Zh
   rcases i3 with i3|⟨i3,_⟩
   ·exact absurd (by simpa using i3) Zh
   ·have hn:ei.nw=[]:=by simpa using i3
    simp [AState.app,hn,tO]
theorem De (h:CW ops=true):Region.noSelect ops=true∧ ∀ (j:Nat) (oj:Oper),ops[j]? =some oj→(∀d∈yD oj,d<j)∧
 ∀ (i:Nat) (oi:Oper),i<j→ops[i]? =some oi→tC ops i j=false→oi.apart ops oj=true∧ ¬ (AD oi.op=true∧AD oj.op=true):=by
 unfold CW at h
 simp only[cJ] at h
 refine ⟨h.1,fun j oj hj=> ?_⟩
 have h2:=h.2
 rw[cQ] at h2
 have hjs:j<ops.size:=(cW.1 hj).1
 have h3:=h2 j (by simpa using hjs)
 simp only[hj,cJ] at h3
 refine ⟨fun d hd=> ?_,fun i oi hij hi Q7=> ?_⟩
 ·have:=h3.1
  rw[cQ] at this
  simpa using this d hd
 ·have:=h3.2
  rw[cQ] at this
  have:=this i (by simpa using hij)
  simp only[hi,dj] at this
  unfold tC at Q7
  rcases this with this|this
  ·rw[Q7] at this;cases this
  ·simp only[cJ,Bool.not_eq_true',Bool.and_eq_false_iff] at this
   refine ⟨this.1,fun ⟨a,b⟩=> ?_⟩
   rcases this.2 with h|h
   ·rw[h] at a;cases a
   ·rw[h] at b;cases b
theorem indepB_le {j n n':Nat} {e e':wL} (h:n≤n') (hi:zZ ⟨j,n,e⟩ e'=true):zZ ⟨j,n',e⟩ e'=true:=by
 unfold zZ at*
 simp only[cJ,dj] at*
 refine ⟨⟨hi.1.1,hi.1.2.imp id fun ⟨a,b⟩=>⟨a,?_⟩⟩,hi.2⟩
 rw[cQ] at*
 intro l hl
 have:=b l hl
 simp only[decide_eq_true_eq] at*
 omega
theorem Q8: ∀ {R:List Nat} {tr SZ:List Tr} {σ:AState},(∀t'∈SZ,∃t∈tr,t.j=t'.j∧t.e=t'.e∧t.n≤t'.n)→M9 P ops K R tr σ→M9 P ops K R SZ σ
 |[],_,_,_,_,h=>h
 |j::rest,tr,SZ,σ,hs,⟨o,S,ho,hst,h⟩=>by
  refine ⟨o,S,ho,hst,fun e he=> ?_⟩
  obtain ⟨hc,hr⟩:=h e he
  refine ⟨?_,Q8 ?_ hr⟩
  ·unfold Bm at*
   rw[cQ] at*
   intro t' ht'
   obtain ⟨t,ht,h1,h2,h3⟩:=hs t' ht'
   have:=hc t ht
   simp only[dj] at*
   rw[←h1]
   refine this.imp (fun hi=> ?_) id
   obtain ⟨a,b,c⟩:=t
   obtain ⟨a',b',c'⟩:=t'
   simp only at h1 h2 h3
   subst h1 h2
   exact indepB_le h3 hi
  ·intro t' ht'
   rcases cN.1 ht' with ht'|ht'
   ·obtain ⟨t,ht,h⟩:=hs t' ht'
    exact ⟨t,cN.2 (.inl ht),h⟩
   ·exact ⟨t',cN.2 (.inr ht'),rfl,rfl,cZ _⟩
theorem ordB_left {i j:Nat} (h:Q5 ops i j=false):tC ops i j=false:=by
 unfold Q5 at h;simp only[Bool.or_eq_false_iff] at h;exact h.1
theorem pull (hok:CW ops=true) {i:Nat}: ∀ {R:List Nat} {tr:List Tr} {σ:AState},M9 P ops K R tr σ→i∈R→R.Pairwise (· < ·)→(∀r∈R,r<i→Q5 ops r i=false)→
 ∃o S,ops[i]? =some o∧xS P ops o σ S∧ ∀e,S e→Bm ops tr i e=true∧M9 P ops K (R.erase i) tr (σ.app o.dst e)
 |[],_,_,_,hi,_,_=>by simp at hi
 |r::R,tr,σ,⟨or',Sr,hor,hst,h⟩,hi,N7,Q7=>by
  by_cases e:r=i
  ·subst e
   refine ⟨or',Sr,hor,hst,fun e he=> ?_⟩
   obtain ⟨hc,hr⟩:=h e he
   refine ⟨hc,?_⟩
   rw[eT]
   exact Q6 (fun t ht=>cN.2 (.inl ht)) hr
  ·have Wz:i∈R:=by
    simp only[cU] at hi
    rcases hi with h|h
    ·exact absurd h.symm e
    ·exact h
   rw[dW] at N7
   have hri:r<i:=N7.1 i Wz
   have hor_i:Q5 ops r i=false:=Q7 r (by simp) hri
   have ih: ∀er,Sr er→_:=fun er her=>pull hok (h er her).2 Wz N7.2 (fun q hq hlt=>Q7 q (by simp [hq]) hlt)
   obtain ⟨er0,her0⟩:=hst.nonempty
   obtain ⟨oi,S0,Ii,hst0,h0⟩:=ih er0 her0
   obtain ⟨_,hspec⟩:=De hok
   obtain ⟨Q9,hcalls⟩:=(hspec i oi Ii).2 r or' hri hor (ordB_left hor_i)
   obtain ⟨a1,a2,a3⟩:=dR Q9
   have hind: ∀ {er:wL} {S:wL→Prop},(∀e,S e→Bm ops (tr++[⟨r,σ.heap.length,er⟩]) i e=true∧M9 P ops K (R.erase i) (tr++[⟨r,σ.heap.length,er⟩]) ((σ.app or'.dst er).app oi.dst e))→
    ∀e,S e→zZ ⟨r,σ.heap.length,er⟩ e=true:=by
    intro er S hS e he
    have:=(hS e he).1
    unfold Bm at this
    rw[cQ] at this
    have:=this ⟨r,σ.heap.length,er⟩ (by simp)
    simp only[hor_i,eW] at this
    exact this
   have KD:xS P ops oi σ S0:=hst0.back (j:=r) a1 (hind h0)
   refine ⟨oi,S0,Ii,KD,fun ei hei=> ?_⟩
   have same: ∀er,Sr er→Bm ops (tr++[⟨r,σ.heap.length,er⟩]) i ei=true∧M9 P ops K (R.erase i) (tr++[⟨r,σ.heap.length,er⟩]) ((σ.app or'.dst er).app oi.dst ei):=by
    intro er her
    obtain ⟨oi',S',hoi',hst',h'⟩:=ih er her
    rw[Ii] at hoi';cases hoi'
    by_cases hc:AD oi.op=true
    ·
     have hcr:AD or'.op=false:=by
      cases hq:AD or'.op with
      |false=>rfl
      |true=>exact absurd ⟨hq,hc⟩ hcalls
     obtain ⟨ex,hex⟩:=hst.det hcr
     have:er=er0:=by rw[(hex er).1 her,(hex er0).1 her0]
     subst this
     exact h0 ei hei
    ·have M6:AD oi.op=false:=by simpa using hc
     have hb':xS P ops oi σ S':=hst'.back (j:=r) a1 (hind h')
     exact h' ei ((KD.eq hb' M6 ei).1 hei)
   have hfwd:xS P ops or' (σ.app oi.dst ei) Sr:=by
    refine hst.fwd (j:=r) a3 (fun er her=> ?_)
    have:=(same er her).1
    unfold Bm at this
    rw[cQ] at this
    have:=this ⟨r,σ.heap.length,er⟩ (by simp)
    simp only[hor_i,eW] at this
    exact this
   refine ⟨?_,?_⟩
   ·have:=(same er0 her0).1
    unfold Bm at*
    rw[cQ] at*
    exact fun t ht=>this t (cN.2 (.inl ht))
   ·have hne:(r::R).erase i=r::R.erase i:=eU (by simpa using e)
    rw[hne]
    refine ⟨or',Sr,hor,hfwd,fun er her=>⟨(h er her).1,?_⟩⟩
    have hs:=same er her
    have hi':zZ ⟨r,σ.heap.length,er⟩ ei=true:=by
     have:=hs.1
     unfold Bm at this
     rw[cQ] at this
     have:=this ⟨r,σ.heap.length,er⟩ (by simp)
     simp only[hor_i,eW] at this
     exact this
    have hcomm:=WX (d:=or'.dst) (d':=oi.dst) a2 hi' (hst.lt her).2 (by
     intro l hl
     have:=(KD.lt hei).2 l hl
     simp only[AState.app,eA,tO];omega)
    rw[←hcomm]
    refine Q8 ?_ hs.2
    intro t' ht'
    rcases cN.1 ht' with ht'|ht'
    ·exact ⟨t',cN.2 (.inl ht'),rfl,rfl,cZ _⟩
    ·simp only[cP] at ht'
     subst ht'
     exact ⟨⟨r,σ.heap.length,er⟩,by simp,rfl,rfl,by simp [AState.app,tO]⟩
theorem I2 {f:Nat→Nat} {r:Nat}: ∀ (ds:List Nat) (s:Nat),(ds.foldl (fun s d=>s|||2 ^ d|||f d) s).testBit r=true→s.testBit r=true∨ ∃d∈ds,d=r∨(f d).testBit r=true
 |[],s,h=> .inl h
 |d::ds,s,h=>by
  simp only[List.foldl_cons] at h
  rcases I2 ds _ h with h|⟨d',hd',h⟩
  ·rw[Nat.testBit_or,Nat.testBit_or,dj,dj] at h
   rcases h with (h|h)|h
   ·exact .inl h
   ·right
    refine ⟨d,by simp,.inl ?_⟩
    rw[Nat.testBit_two_pow] at h
    simpa using h
   ·exact .inr ⟨d,by simp,.inr h⟩
  ·exact .inr ⟨d',by simp [hd'],h⟩
theorem Pp {L:Nat→Prop} {all:List Oper} (hclosed: ∀j o,all[j]? =some o→L j→ ∀d∈yD o,L d): ∀ (os:List Oper) (acc:List Nat),all.drop acc.length=os→
 (∀k o,all[k]? =some o→k<acc.length→(∀d∈yD o,L d)→ ∀r,(acc.getD k 0).testBit r=true→L r)→(∀k o,all[k]? =some o→ ∀d∈yD o,d<k)→
 ∀k o,all[k]? =some o→(∀d∈yD o,L d)→ ∀r,((Vq os acc).getD k 0).testBit r=true→L r
 |[],acc,hd,h,_=>by
  intro k o hk Bz r hr
  refine h k o hk ?_ Bz r hr
  have h1:all.length≤acc.length:=by simpa using hd
  have h2:=(cM.1 hk).1
  omega
 |o::os,acc,hd,h,hlt=>by
  refine Pp hclosed os _ ?_ ?_ hlt
  ·have:=congrArg eM hd
   simpa [ey] using this
  ·intro k o' hk hkl Bz r hr
   have ho:all[acc.length]? =some o:=by
    have:=congrArg (fun l:List Oper=>l[0]?) hd
    simpa using this
   by_cases e:k<acc.length
   ·rw[dN,cO e,←dN] at hr
    exact h k o' hk e Bz r hr
   ·have e2:k=acc.length:=by simp at hkl;omega
    subst e2
    rw[ho] at hk;cases hk
    rw[dN,c9 (cZ _)] at hr
    simp only[eY,dD,eg] at hr
    rcases I2 (f:=fun d=>acc.getD d 0) _ _ hr with h0|⟨d,hd',rfl|h1⟩
    ·simp at h0
    ·exact Bz d hd'
    ·have hdl:d<acc.length:=hlt _ _ ho d hd'
     have hdl2:d<all.length:=by have:=(cM.1 ho).1;omega
     exact h d all[d] (cV hdl2) hdl (hclosed d _ (cV hdl2) (Bz d hd')) r h1
end
theorem getD_replicate_false' (m j:Nat):(dx m false).getD j false=false:=by
 by_cases h:j<m<;>simp [eV,h]
section region
variable {C:Ctx} {ops:Array Oper} {Q:qG→AState→Prop}
theorem Gz {ro:Option Nat} {φ:Nat→Value} {σ:AState} {a:Act} {w:World} (S:ql C φ σ a w) {o:Oper} {i:Nat} {E:wL→Prop} (ho:ops[i]? =some o) (h:xS C.P ops o σ E) {K:Act→World→Prop} {Q':Exit→Act→World→Prop}
 (hK: ∀e φ' v w',E e→ql C φ' (σ.app o.dst e) (a.put o.dst v) w'→K (a.put o.dst v) w'):wpOpIn (Dw ro) 0 C.P ops Q' i K a w:=by
 unfold wpOpIn
 simp only[ho]
 rcases h with ⟨hw,h⟩|⟨hw,_,e,he,hp,h⟩|⟨hw,f,args,V,hc,hf,_,h⟩|⟨hw,f,args,e,hc,hf,h⟩
 ·rw[zB S hw]
  simp only[dG,if_false]
  refine ⟨fun _ _=>trivial,hK _ φ undef w ((h _).2 rfl) ?_⟩
  rw[CH];exact S.put o.dst rfl
 ·rw[zB S hw]
  simp only[if_true]
  obtain ⟨n,v,w',φ',hr,hn,S'⟩:=Hx S he hp
  refine ⟨fun _ _=>trivial,?_⟩
  rw[eE _ _ _ (WT he),hr]
  rcases hn with rfl|⟨rfl,rfl⟩
  ·rw[Oper.uponIn_value];exact hK e φ' v w' ((h e).2 rfl) S'
  ·rw[Oper.uponIn_skip];exact hK e φ' undef w' ((h e).2 rfl) S'
 ·rw[zB S hw]
  simp only[if_true]
  have yC:AZ C.P f args σ (fun o' H'=> ∃r,V r∧o'= .ret r∧H'=σ.heap):=JB hf (fun r hr=>⟨r,hr,rfl,rfl⟩)
  obtain ⟨vs,hrun,hr⟩:=Gk S hc yC.1
  refine ⟨fun _ _=>trivial,?_⟩
  rw[eE _ _ _ (Hy hc),hrun,eF]
  refine ⟨fun h=>by simp [Dw,dZ] at h,Fk.2 ?_⟩
  refine (yC.2 C φ a w rfl S vs hr).mono fun en w' ⟨o',φ',H',⟨r,hV,ho',hH⟩,S',uX⟩=> ?_
  subst ho' hH
  cases en with
  |returned v=>
   refine hK {val:=r} φ' v w' ((h _).2 ⟨r,hV,rfl⟩) ?_
   rw[CH];exact S'.put o.dst uX
  |panicked chain=>exact uX.elim
  |outgrown=>exact uX.elim
 ·rw[zB S hw]
  simp only[if_true]
  have yC:=hf.2 σ (fun _ _=>rfl) (fun _=>rfl) (fun _=>rfl)
  obtain ⟨vs,hrun,hr⟩:=Gk S hc yC.1
  refine ⟨fun _ _=>trivial,?_⟩
  rw[eE _ _ _ (Hy hc),hrun,eF]
  refine ⟨fun h=>by simp [Dw,dZ] at h,Fk.2 ?_⟩
  refine (yC.2 C φ a w rfl S vs hr).mono fun en w' ⟨o',φ',H',⟨ho',hH⟩,S',uX⟩=> ?_
  subst ho' hH
  cases en with
  |returned v=>
   refine hK e φ' v w' ((h _).2 rfl) ?_
   have:=S'.put o.dst uX
   have e1:({σ with heap:=p4 σ.heap e.up++e.nw}:AState).put o.dst e.val=σ.app o.dst e:=by
    cases hd:o.dst<;>rfl
   rw[e1] at this
   exact this
  |panicked chain=>exact uX.elim
  |outgrown=>exact uX.elim
end region
end Go.Abs
namespace Go.Abs
theorem FU {E:Env} {b:Nat} {c:Array Value} {t:TypeId} {fr:Nat×Nat} (hcb:E.w.heap[b]? =some (.cells c t fr)): ∀ (cs:List AV) (off:Nat),(∀o,off≤o→o<off+cs.length→ ¬ E.mu b o)→
 nj E cs ((c.toList.drop off).take cs.length)→(∀u∈(c.toList.drop off).take cs.length,u.oneCell'=true)→qw E b off cs
 |[],_,_,_,_=>trivial
 |x::cs,off,hm,r,h1=>by
  obtain ⟨u,us,hu,r1,r2⟩:=r
  have hcu:c[off]? =some u:=by
   have:(c.toList.drop off)[0]? =some u:=by
    have:=congrArg (fun l:List Value=>l[0]?) hu
    simpa using this
   simpa using this
  have htl:us=(c.toList.drop (off+1)).take cs.length:=by
   have h1:=congrArg eM hu
   simp only[List.tail_cons] at h1
   rw[←h1]
   cases hd:c.toList.drop off with
   |nil=>rw[hd] at hu;simp at hu
   |cons y ys=>
    have:c.toList.drop (off+1)=ys:=by
     have:=congrArg eM hd
     simpa [ey] using this
    rw[this];simp
  refine ⟨⟨hm off (cZ _) (by simp),u,by simp only[World.cell?,hcb];simpa using hcu,h1 u (by rw[hu];simp),r1⟩,FU hcb cs (off+1) (fun o h2 h3=>hm o (by omega) (by simp;omega)) (by rw[←htl];exact r2) (fun v hv=>h1 v (by rw[hu,htl];simp [hv]))⟩
theorem I3 {E:Env} {b sz:Nat} {c:Array Value} {t:TypeId} {fr:Nat×Nat} (hcb:E.w.heap[b]? =some (.cells c t fr)): ∀ (rs:List (List AV)) (off:Nat),(∀r∈rs,r.length=sz)→
 (∀o,off≤o→o<off+rs.length*sz→ ¬ E.mu b o)→nj E rs.flatten ((c.toList.drop off).take (rs.length*sz))→(∀u∈(c.toList.drop off).take (rs.length*sz),u.oneCell'=true)→qj E sz b off rs
 |[],_,_,_,_,_=>trivial
 |r::rs,off,hl,hm,h,h1=>by
  have hr:r.length=sz:=hl r (by simp)
  simp only[dH] at h
  have h3:=nj.take r.length h
  have h2:=nj.drop r.length h
  simp only[ep,eu,List.take_take,List.drop_take,List.drop_drop] at h3 h2
  have e1:min r.length ((r::rs).length*sz)=r.length:=by
   simp only[dK,eZ,e8];omega
  have e2:(r::rs).length*sz-r.length=rs.length*sz:=by simp only[dK,eZ,e8];omega
  have e3:(r::rs).length*sz=rs.length*sz+sz:=by simp only[dK,eZ,e8]
  rw[e1] at h3
  rw[e2,hr] at h2
  refine ⟨hr,FU hcb r off (fun o h4 h5=>hm o h4 (by omega)) h3 (fun u hu=>h1 u ?_),I3 hcb rs (off+sz) (fun q hq=>hl q (by simp [hq])) (fun o h4 h5=>hm o (by omega) (by omega)) h2 (fun u hu=>h1 u ?_)⟩
  ·have:(c.toList.drop off).take r.length=((c.toList.drop off).take ((r::rs).length*sz)).take r.length:=by rw[List.take_take,e1]
   rw[this] at hu
   exact List.mem_of_mem_take hu
  ·have:(c.toList.drop (off+sz)).take (rs.length*sz)=((c.toList.drop off).take ((r::rs).length*sz)).drop sz:=by
    rw[List.drop_take,List.drop_drop]
    congr 1
    rw[←e2,hr]
   rw[this] at hu
   exact List.mem_of_mem_drop hu
def objNb (n:Nat):AObj→Prop
 | .cells cs=>nbL n cs
 | .acc _ _ rows=>Gq n rows
 | .map es=> ∀p∈es,p.1.nb n∧p.2.nb n
 | .loop _ slots _ _=>nbL n slots
 | .iter _ _=>True
 | .dead=>True
def Sub (x y:AV):Prop:= ∀ (E:Env) (v:Value),rE E x v→rE E y v
def tD (xs ys:List AV):Prop:= ∀ (E:Env) (vs:List Value),nj E xs vs→nj E ys vs
def JD (xs ys:List (List AV)):Prop:=xs.length=ys.length∧ ∀ (E:Env) (sz b off:Nat),qj E sz b off xs→qj E sz b off ys
def Oe (xs ys:List AV):Prop:=xs.length=ys.length∧ ∀ (E:Env) (b off:Nat),qw E b off xs→qw E b off ys
theorem Sub.refl (x:AV):Sub x x:=fun _ _ h=>h
theorem Sub.of_eq {x y:AV} (h:x=y):Sub x y:=h ▸ Sub.refl x
theorem Sub.any (x:AV):Sub x .any:=fun _ _ _=>trivial
theorem Sub.trans {x y z:AV} (h:Sub x y) (h':Sub y z):Sub x z:=fun E v r=>h' E v (h E v r)
theorem tD.refl (xs:List AV):tD xs xs:=fun _ _ h=>h
theorem tD.nil:tD [] []:=fun _ _ h=>h
theorem tD.cons {x y:AV} {xs ys:List AV} (h:Sub x y) (hs:tD xs ys):tD (x::xs) (y::ys):=fun E _ ⟨u,us,hv,r1,r2⟩=>⟨u,us,hv,h E u r1,hs E us r2⟩
theorem Oe.refl (xs:List AV):Oe xs xs:=⟨rfl,fun _ _ _ h=>h⟩
theorem Oe.nil:Oe [] []:=Oe.refl []
theorem Oe.cons {x y:AV} {xs ys:List AV} (h:Sub x y) (hs:Oe xs ys):Oe (x::xs) (y::ys):=
 ⟨by simp [hs.1],fun E b off ⟨⟨hm,u,hu,h1,r⟩,r2⟩=>⟨⟨hm,u,hu,h1,h E u r⟩,hs.2 E b _ r2⟩⟩
theorem JD.refl (xs:List (List AV)):JD xs xs:=⟨rfl,fun _ _ _ _ h=>h⟩
theorem JD.nil:JD [] []:=JD.refl []
theorem JD.cons {x y:List AV} {xs ys:List (List AV)} (h:Oe x y) (hs:JD xs ys):JD (x::xs) (y::ys):=
 ⟨by simp [hs.1],fun E sz b off ⟨h1,r,r2⟩=>⟨by rw[←h.1];exact h1,h.2 E b off r,hs.2 E sz b _ r2⟩⟩
theorem Sub.agg {xs ys:List AV} (h:tD xs ys):Sub (.agg xs) (.agg ys):=fun E _ ⟨vs,hv,r⟩=>⟨vs,hv,h E _ r⟩
theorem Sub.tup {xs ys:List AV} (h:tD xs ys):Sub (.tup xs) (.tup ys):=fun E _ ⟨vs,hv,r⟩=>⟨vs,hv,h E _ r⟩
theorem Sub.pp {xs ys:List AV} (h:Oe xs ys):Sub (.pp xs) (.pp ys):=fun E _ ⟨b,off,hv,r⟩=>⟨b,off,hv,h.2 E b off r⟩
theorem Sub.iface {t:TypeId} {x y:AV} (h:Sub x y):Sub (.iface t x) (.iface t y):=fun E _ ⟨u,hv,r⟩=>⟨u,hv,h E u r⟩
theorem Sub.func {fn:Fn} {f f' c c':List AV} (h:tD f f') (h':tD c c'):Sub (.func fn f c) (.func fn f' c'):=fun E _ ⟨a,b,hv,r1,r2⟩=>⟨a,b,hv,h E _ r1,h' E _ r2⟩
theorem Sub.nY {t:Bool} {sz:Nat} {xs ys:List (List AV)} (h:JD xs ys):Sub (.nY t sz xs) (.nY false sz ys):=fun E v ⟨base,cap,h1,h2,h3,h4,h5,h6⟩=>
 ⟨base,cap,by rw[←h.1];exact h1,by rw[←h.1];exact h2,(by intro h;cases h),h4,fun a ha hne=>h5 a ha (fun e=>hne (by have:=h.1;rw[e] at this;exact cR this.symm)),fun a ha=>h.2 E sz _ _ (h6 a ha)⟩
theorem Sub.empty (t:Bool) (sz sz':Nat):Sub (.nY t sz []) (.nY false sz' []):=fun _ _ ⟨base,cap,h1,h2,_,h4,_,_⟩=>
 ⟨base,cap,h1,h2,(by intro h;cases h),h4,(by intro a _ h;exact absurd rfl h),fun _ _=>trivial⟩
def Uz (H:List AObj) (n:Nat) (x y:AV):Prop:=
 (Sub x y∧y.nb n)∨ ∃l m sz rows,x= .acc l m∧H[l]? =some (.acc true sz rows)∧rows.length=m∧Sub (.nY false sz rows) y∧y.nb n
def tX (H:List AObj) (n:Nat):List AV→List AV→Prop
 |[],ys=>ys=[]
 |x::xs,ys=> ∃y zs,ys=y::zs∧Uz H n x y∧tX H n xs zs
def Co (H:List AObj) (n:Nat) (x y:AV):Prop:=Uz H n x y∨ ∃cs ds,x= .agg cs∧y= .agg ds∧tX H n cs ds
def AE (H:List AObj) (n:Nat):List AV→List AV→Prop
 |[],ys=>ys=[]
 |x::xs,ys=> ∃y zs,ys=y::zs∧Co H n x y∧AE H n xs zs
theorem GA {n:Nat}: ∀ {p q:List AV},nbL n p→nbL n q→nbL n (p++q)
 |[],_,_,hq=>hq
 |_::_,_,hp,hq=>⟨hp.1,GA hp.2 hq⟩
theorem Df {n:Nat}: ∀ {rows:List (List AV)},Gq n rows→nbL n rows.flatten
 |[],_=>trivial
 |_::_,h=>by simp only[dH];exact GA h.1 (Df h.2)
def CI:List (List AV)→List (List AV)→Prop
 |[],ys=>ys=[]
 |x::xs,ys=> ∃y zs,ys=y::zs∧(x.length=y.length∧tD x y)∧CI xs zs
theorem CI.length: ∀ {xs ys:List (List AV)},CI xs ys→ys.length=xs.length
 |[],_,rfl=>rfl
 |_::_,_,⟨_,_,rfl,_,h⟩=>by simp [CI.length h]
theorem CI.sz {sz:Nat}: ∀ {xs ys:List (List AV)},CI xs ys→(∀r∈xs,r.length=sz)→ ∀r∈ys,r.length=sz
 |[],_,rfl,_=>by simp
 |x::_,_,⟨y,_,rfl,h1,h⟩,hl=>by
  intro r hr
  simp only[cU] at hr
  rcases hr with rfl|hr
  ·rw[←h1.1];exact hl x (by simp)
  ·exact CI.sz h (fun q hq=>hl q (by simp [hq])) r hr
theorem CI.flat {E:Env}: ∀ {xs ys:List (List AV)} {vs:List Value},CI xs ys→nj E xs.flatten vs→nj E ys.flatten vs
 |[],_,_,rfl,r=>r
 |x::xs,_,vs,⟨y,zs,rfl,h1,h⟩,r=>by
  simp only[dH] at r ⊢
  have h3:=nj.take x.length r
  have h2:=nj.drop x.length r
  simp only[ep,eu] at h3 h2
  have:=nj.append (h1.2 _ _ h3) (CI.flat h h2)
  rwa [List.take_append_drop] at this
def GB (H:List AObj) (n:Nat) (x y:AObj):Prop:=
 y= .dead∨(y=x∧objNb n x)∨(∃cs ds,x= .cells cs∧y= .cells ds∧AE H n cs ds)∨(∃u5 sz rows vV,x= .acc u5 sz rows∧y= .acc u5 sz vV∧CI rows vV∧Gq n vV)∨
  ∃k s s' st uW,x= .loop k s st uW∧y= .loop k s' st uW∧AE H n s s'
def Lr (H:List AObj) (n:Nat):List AObj→List AObj→Prop
 |_,[]=>True
 |[],_::_=>False
 |x::xs,y::ys=>GB H n x y∧Lr H n xs ys
def Vr (n:Nat) (df:List (FuncId×List AV)):Prop:= ∀p∈df,nbL n p.2
theorem Nd {n:Nat}:Vr n []:=fun _ h=>by cases h
def S6 (σ σ':AState):Prop:=((σ'.low=σ.low∧σ.low≤σ'.heap.length)∧σ'.df=σ.df∧Vr σ'.heap.length σ.df)∧AE σ.heap σ'.heap.length σ.slots σ'.slots∧Lr σ.heap σ'.heap.length σ.heap σ'.heap
theorem Lr.get {H:List AObj} {n:Nat}: ∀ {xs ys:List AObj} {l:Nat} {y:AObj},Lr H n xs ys→ys[l]? =some y→ ∃x,xs[l]? =some x∧GB H n x y
 |_,[],_,_,_,h=>by simp at h
 |[],_::_,_,_,h,_=>h.elim
 |x::_,_::_,0,_,⟨h,_⟩,hy=>by simp at hy;subst hy;exact ⟨x,by simp,h⟩
 |_::_,_::_,l+1,_,⟨_,h⟩,hy=>by
  simp at hy
  obtain ⟨x,hx,hc⟩:=Lr.get h hy
  exact ⟨x,by simpa using hx,hc⟩
section weak
variable {C:Ctx} {φ:Nat→Value} {σ σ':AState} {a:Act} {w:World}
theorem AE.rep {E E':Env} {H:List AObj} {n:Nat} (hone: ∀x y v,Co H n x y→rE E x v→rE E' y v): ∀ {xs ys:List AV} {vs:List Value},AE H n xs ys→nj E xs vs→nj E' ys vs
 |[],_,_,rfl,r=>r
 |_::_,_,_,⟨y,zs,rfl,hc,hr⟩,⟨u,us,rfl,r1,r2⟩=>⟨u,us,rfl,hone _ y u hc r1,AE.rep hone hr r2⟩
theorem tX.rep {E E':Env} {H:List AObj} {n:Nat} (hone: ∀x y v,Uz H n x y→rE E x v→rE E' y v): ∀ {xs ys:List AV} {vs:List Value},tX H n xs ys→nj E xs vs→nj E' ys vs
 |[],_,_,rfl,r=>r
 |_::_,_,_,⟨y,zs,rfl,hc,hr⟩,⟨u,us,rfl,r1,r2⟩=>⟨u,us,rfl,hone _ y u hc r1,tX.rep hone hr r2⟩
theorem Co.S7 {E E':Env} {H:List AObj} {n:Nat} (hone: ∀x y v,Uz H n x y→rE E x v→rE E' y v) (x y:AV) (v:Value) (h:Co H n x y) (r:rE E x v):rE E' y v:=by
 rcases h with h|⟨cs,ds,rfl,rfl,h⟩
 ·exact hone x y v h r
 ·obtain ⟨vs,hv,rl⟩:=r
  exact ⟨vs,hv,tX.rep hone h rl⟩
theorem Co.rep (S:ql C φ σ a w) {n:Nat} {x y:AV} {v:Value} (h:Co σ.heap n x y) (r:rE (C.env φ σ.heap w) x v):rE (C.env φ σ.heap w) y v:=by
 refine Co.S7 ?_ x y v h r
 intro x y v hc r
 rcases hc with ⟨hsub,hn⟩|⟨l,m,sz,rows,rfl,hl,hm,hsub,hn⟩
 ·exact hsub _ _ r
 ·have hv:=EX S hl hm r
  subst hv
  exact hsub _ _ (Kz S hl)
theorem AE.repS (S:ql C φ σ a w) {n:Nat} {xs ys:List AV} {vs:List Value} (h:AE σ.heap n xs ys) (r:nj (C.env φ σ.heap w) xs vs):nj (C.env φ σ.heap w) ys vs:=
 AE.rep (fun _ _ _ h r=>Co.rep S h r) h r
theorem S6.sim (h:S6 σ σ') (S:ql C φ σ a w):ql C φ σ' a w:=by
 obtain ⟨⟨Dt,hdf,hdn⟩,hs,hh⟩:=h
 have Dv: ∀ (l:Nat) (y:AObj),σ'.heap[l]? =some y→ ∃x,σ.heap[l]? =some x∧GB σ.heap σ'.heap.length x y:=fun l y hy=>hh.get hy
 have Pm: ∀ {x y:AObj} {h:Value} {b o:Nat},GB σ.heap σ'.heap.length x y→y.muts h b o→x.muts h b o:=by
  intro x y h b o hc hm
  rcases hc with rfl|⟨rfl,_⟩|⟨cs,ds,rfl,rfl,_⟩|⟨u5,sz,rows,vV,rfl,rfl,_,_⟩|⟨lk,s1,s2,st,uW,rfl,rfl,_⟩
  ·simp [AObj.muts] at hm
  ·exact hm
  ·cases h with
   |pointer p=>cases p<;>exact hm
   |_=>exact hm
  ·cases h with
   |slice p _ _=>cases p<;>exact hm
   |_=>exact hm
  ·cases h with
   |func q _ _=>cases q<;>exact hm
   |_=>exact hm
 have Cm: ∀ {x y:AObj} {h:Value} {b:Nat},GB σ.heap σ'.heap.length x y→y.block h b→x.block h b:=by
  intro x y h b hc hm
  rcases hc with rfl|⟨rfl,_⟩|⟨cs,ds,rfl,rfl,_⟩|⟨u5,sz,rows,vV,rfl,rfl,_,_⟩|⟨lk,s1,s2,st,uW,rfl,rfl,_⟩
  ·simp [AObj.block] at hm
  ·exact hm
  ·cases h with
   |pointer p=>cases p<;>exact hm
   |_=>exact hm
  ·cases h with
   |slice p _ _=>cases p<;>exact hm
   |_=>exact hm
  ·cases h with
   |func q _ _=>cases q<;>exact hm
   |_=>exact hm
 have BZ: ∀b o,Cg φ σ'.heap b o→Cg φ σ.heap b o:=by
  rintro b o ⟨l,y,hy,hm⟩
  obtain ⟨x,hx,hc⟩:=Dv l y hy
  exact ⟨l,x,hx,Pm hc hm⟩
 have le:(C.env φ σ.heap w).Le σ'.heap.length (C.env φ σ'.heap w):=by
  refine ⟨cZ _,fun l hl=> .inl ⟨rfl,?_⟩,fun b o u hm hc=>⟨fun h=>hm (h.imp (BZ b o) id),hc⟩⟩
  obtain ⟨x,hx,hc⟩:=Dv l σ'.heap[l] (cV hl)
  simp only[Ctx.env]
  rw[cV hl,hx]
  rcases hc with h|⟨h,_⟩|⟨cs,ds,rfl,h,_⟩|⟨u5,sz,rows,vV,rfl,h,hr,_⟩|⟨lk,s1,s2,st,uW,rfl,h,_⟩
  ·right;rw[h];rfl
  ·left;rw[h]
  ·left;rw[h];rfl
  ·left;rw[h];simp only[oW,hr.length]
  ·left;rw[h];rfl
 have hone: ∀x y v,Co σ.heap σ'.heap.length x y→rE (C.env φ σ.heap w) x v→rE (C.env φ σ'.heap w) y v:=by
  refine Co.S7 ?_
  intro x y v hc r
  rcases hc with ⟨hsub,hn⟩|⟨l,m,sz,rows,rfl,hl,hm,hsub,hn⟩
  ·exact rE.mono le _ _ hn (hsub _ _ r)
  ·have hv:=EX S hl hm r
   subst hv
   exact rE.mono le _ _ hn (hsub _ _ (Kz S hl))
 have Az:uT C φ σ'.heap w σ'.df a.defers:=by
  rw[hdf]
  exact S.defers.step' (fun xs vs ⟨f,hf⟩ r=>nj.mono le _ _ (hdn _ hf) r) (fun _ _ _=>rfl) (fun l x b hx hb=>by
   obtain ⟨y,hy,hc⟩:=Dv l x hx
   exact .inl ⟨l,y,hy,Cm hc hb⟩)
 refine {slots:=AE.rep hone hs S.slots,defers:=Az,objs:= ?_,apart:= ?_,vE:= ?_,size:=S.size,old:=S.old,qM:=S.qM,Be:= ?_,wZ:=S.wZ,rest:=S.rest,low:=⟨by rw[Dt.1];exact S.low.1,by rw[Dt.1];exact Dt.2⟩,names:= ?_}
 ·intro l y hy
  obtain ⟨x,hx,hc⟩:=Dv l y hy
  have r:=S.objs l x hx
  rcases hc with rfl|⟨rfl,hn⟩|⟨cs,ds,rfl,rfl,Vk⟩|⟨u5,sz,rows,vV,rfl,rfl,hr,hn⟩|⟨lk,s1,s2,st,uW,rfl,rfl,Vk⟩
  ·exact trivial
  ·cases y with
   |cells cs=>
    obtain ⟨b,c,t,h1,h2,rl,h3⟩:=r
    exact ⟨b,c,t,h1,h2,nj.mono le _ _ hn rl,h3⟩
   |acc u5 sz rows=>
    obtain ⟨base,cap,h1,h2,h3,h4,h5⟩:=r
    refine ⟨base,cap,h1,h2,h3,h4,fun a0 ha hc=> ?_⟩
    obtain ⟨h6,c,t,h7,h8,rl,h9⟩:=h5 a0 ha hc
    exact ⟨h6,c,t,h7,h8,nj.mono le _ _ (by
     clear rl h9 h8 h7 h6 hc ha h5 h4 h3 h2 h1
     revert hn
     simp only[objNb]
     clear hy hx
     induction rows with
     |nil=>intro _;trivial
     |cons r rs ih=>
      intro hn
      simp only[dH]
      have: ∀ (p q:List AV),nbL σ'.heap.length p→nbL σ'.heap.length q→nbL σ'.heap.length (p++q):=by
       intro p q hp hq
       induction p with
       |nil=>exact hq
       |cons z p ihp=>exact ⟨hp.1,ihp hp.2⟩
      exact this r _ hn.1 (ih hn.2)) rl,h9⟩
   |map es=>
    obtain ⟨r',en,cl,h1,h2,rp⟩:=r
    exact ⟨r',en,cl,h1,h2,um.mono le hn rp⟩
   |loop lk s1 st uW=>
    obtain ⟨D,rec,h1,h2,h3,h4,rl⟩:=r
    exact ⟨D,rec,h1,h2,h3,h4,nj.mono le _ _ hn rl⟩
   |iter s p=>exact r
   |dead=>trivial
  ·obtain ⟨b,c,t,h1,h2,rl,h3⟩:=r
   exact ⟨b,c,t,h1,h2,AE.rep hone Vk rl,h3⟩
  ·obtain ⟨base,cap,h1,h2,h3,h4,h5⟩:=r
   have hlen:=hr.length
   refine ⟨base,cap,by rw[hlen];exact h1,by rw[hlen];exact h2,h3,hr.sz h4,fun a0 ha hc=> ?_⟩
   obtain ⟨h6,c,t,h7,h8,rl,h9⟩:=h5 a0 ha hc
   rw[hlen]
   exact ⟨h6,c,t,h7,h8,nj.mono le _ _ (Df hn) (hr.flat rl),h9⟩
  ·obtain ⟨D,rec,h1,h2,h3,h4,rl⟩:=r
   exact ⟨D,rec,h1,h2,h3,h4,AE.rep hone Vk rl⟩
 ·intro l l' x x' b hx hx' hb hb'
  obtain ⟨y,hy,hc⟩:=Dv l x hx
  obtain ⟨y',hy',M6⟩:=Dv l' x' hx'
  exact S.apart l l' y y' b hy hy' (Cm hc hb) (Cm M6 hb')
 ·intro l x b o hx hb
  obtain ⟨y,hy,hc⟩:=Dv l x hx
  exact S.vE l y b o hy (Cm hc hb)
 ·intro l x b o hx hm hb
  obtain ⟨y,hy,hc⟩:=Dv l x hx
  exact S.Be l y b o hy (Pm hc hm) hb
 ·intro l hl
  have hlt:l<σ'.heap.length:=by have:=S.low;omega
  obtain ⟨x,hx,hc⟩:=Dv l σ'.heap[l] (cV hlt)
  have hn:=S.names l hl
  rw[hx] at hn
  rw[cV hlt]
  have WY:oW (some σ'.heap[l])=oW (some x)∨oW (some σ'.heap[l])=none:=by
   rcases hc with h|⟨h,_⟩|⟨cs,ds,rfl,h,_⟩|⟨u5,sz,rows,vV,rfl,h,hr,_⟩|⟨lk,s1,s2,st,uW,rfl,h,_⟩
   ·right;rw[h];rfl
   ·left;rw[h]
   ·left;rw[h];rfl
   ·left;rw[h];simp only[oW,hr.length]
   ·left;rw[h];rfl
  rcases WY with h|h
  ·rw[h];exact hn
  ·rw[h]
   rcases hn with ⟨h1,_⟩|⟨⟨k,h1,_⟩,h3⟩
   ·exact .inl ⟨h1,.inr rfl⟩
   ·exact .inr ⟨⟨k,h1,fun k' hk'=>by cases hk'⟩,h3⟩
theorem S6.imp (h:S6 σ σ'):FN σ σ':=fun _ φ _ _ S=>⟨φ,h.sim S⟩
theorem WZ {i s sz:Nat} {u5:Bool} (h:σ.slots[i]? =some (.nY true s [])):FN σ {σ with slots:=σ.slots.set i (.acc σ.heap.length 0),heap:=σ.heap++[.acc u5 sz []]}:=by
 intro C φ a w S
 obtain ⟨v,hv,base,cap,rfl,_,hc,_⟩:=S.slots.get h
 have hcap:cap=0:=hc rfl
 subst hcap
 have S':=S.M5 (u5:=u5) (sz:=sz) (rows:=[]) (w':=w) (h':= .slice base 0 0) (cZ _) (fun _ _=>rfl) (fun _=>rfl) ⟨rfl,rfl⟩ (by
  intro b hb
  cases base<;>simp [AObj.block] at hb) (fun E' _ _=>⟨base,0,rfl,cZ _,fun _=>rfl,by simp,fun b _ h0=>absurd rfl h0⟩)
 refine ⟨(fun k=>if k=σ.heap.length then .slice base 0 0 else φ k),?_⟩
 have:=S'.put (some i) (x:= .acc σ.heap.length 0) (v:= .slice base 0 0) ⟨by simp [Ctx.env],⟨_,_,_,rfl⟩,fun k hk=>by
  simp only[Ctx.env,c9 (cZ _),eY,dD,oW,cH] at hk
  exact ⟨by simp,fun _=>by simp [Ctx.env]⟩⟩
 refine {this with slots:= ?_,defers:=this.defers}
 have hs:=this.slots
 have ha:(a.put (some i) (.slice base 0 0)).tmps.toList=a.tmps.toList:=by
  simp only[Act.put,Array.toList_setIfInBounds]
  apply List.ext_getElem?
  intro k
  by_cases e:i=k
  ·subst e
   have hlt:i<a.tmps.toList.length:=(cM.1 hv).1
   rw[dc hlt];exact hv.symm
  ·rw[cY e]
 rw[ha] at hs
 exact hs
end weak
def chunks (sz:Nat):Nat→List AV→List (List AV)
 |0,_=>[]
 |n+1,cs=>cs.take sz::chunks sz n (cs.drop sz)
mutual
def Pq (low:Nat) (H:List AObj):AV→AV
 | .acc l n=>if l<low then .acc l n else match H[l]? with
   |some (.acc _ sz rows)=>if rows.length=n then .nY false sz rows else .any
   |_=> .any
 | .own l i n o sz=>if l<low then .own l i n o sz else .any
 | .agg cs=> .agg (Nf low H cs)
 | .tup cs=> .tup (Nf low H cs)
 | .any=> .any
 | .bool b=> .bool b
 | .int k n=> .int k n
 | .str s=> .str s
 | .raw v=> .raw v
 | .nY t sz rows=> .nY t sz rows
 | .ptr l off=> .ptr l off
 | .map l=> .map l
 | .pp cs=> .pp cs
 | .func fn f c=> .func fn f c
 | .iface t x=> .iface t x
def Nf (low:Nat) (H:List AObj):List AV→List AV
 |[]=>[]
 |x::xs=>Pq low H x::Nf low H xs
end
section res
variable {C:Ctx} {φ:Nat→Value} {σ:AState} {a:Act} {w:World}
theorem W0 (_S:ql C φ σ a w):(C.env φ σ.heap w).Le 0 (C.env φ [] w):=by
 refine ⟨ez _,fun l hl=>absurd hl (dg _),fun b o u hm hc=>⟨?_,hc⟩⟩
 simp only[Ctx.env] at hm ⊢
 rintro (⟨l,x,hx,_⟩|h)
 ·simp at hx
 ·exact hm (.inr h)
structure Drops (C:Ctx) (φ:Nat→Value) (σ:AState) (w:World) (E':Env):Prop where
 le:(C.env φ σ.heap w).Le σ.low E'
 w:E'.w=w
 free: ∀ (l:Nat) (x:AObj) (b o:Nat),σ.low≤l→σ.heap[l]? =some x→x.block (φ l) b→ ¬ E'.mu b o
theorem ql.drops (S:ql C φ σ a w) (h0:σ.low=0):Drops C φ σ w (C.env φ [] w):=by
 refine ⟨by rw[h0];exact W0 S,rfl,fun l x b o _ hx hb=> ?_⟩
 simp only[Ctx.env]
 rintro (⟨l',y,hy,_⟩|hA)
 ·simp at hy
 ·exact S.vE l x b o hx hb hA
mutual
theorem Of (S:ql C φ σ a w) {E':Env} (D:Drops C φ σ w E'):
 ∀ (x:AV) (v:Value),(Pq σ.low σ.heap x).nb σ.low→rE (C.env φ σ.heap w) x v→rE E' (Pq σ.low σ.heap x) v
 | .acc l n,v,hn,r=>by
   simp only[Pq] at hn ⊢
   by_cases Dt:l<σ.low
   ·rw[if_pos Dt];exact rE.mono D.le (.acc l n) v Dt r
   ·rw[if_neg Dt] at hn ⊢
    split
    ·rename_i u5 sz rows hl
     simp only[hl] at hn
     split
     ·rename_i hlen
      rw[if_pos hlen] at hn
      have hv:=EX S hl hlen r
      subst hv
      obtain ⟨base,cap,hh,h2,h3,h4,h5⟩:=S.objs l _ hl
      refine ⟨base,cap,hh,h2,(by intro h;cases h),h3,?_,?_⟩
      ·intro b hb hne
       exact (h5 b hb (fun h0=>hne (cR (by omega)))).1
      ·intro b hb
       by_cases hc:cap=0
       ·have:rows=[]:=cR (by omega)
        subst this;trivial
       ·obtain ⟨hsp,c,t,hcb,hsz,rl,h1⟩:=h5 b hb hc
        subst hb
        refine I3 (E:=E') (c:=c) (t:=t) (fr:=(0,0)) (by rw[D.w];exact hcb) rows b.off h4 ?_ (nj.mono D.le _ _ (Df hn) rl) h1
        intro o _ _
        exact D.free l _ b.block o (by omega) hl (by rw[hh];exact ⟨rfl,hc⟩)
     ·exact trivial
    ·exact trivial
 | .own l i n o sz,v,hn,r=>by
   simp only[Pq] at hn ⊢
   by_cases Dt:l<σ.low
   ·rw[if_pos Dt];exact rE.mono D.le (.own l i n o sz) v Dt r
   ·rw[if_neg Dt];exact trivial
 | .agg cs,v,hn,⟨vs,hv,rl⟩=>⟨vs,hv,MI S D cs _ hn rl⟩
 | .tup cs,v,hn,⟨vs,hv,rl⟩=>⟨vs,hv,MI S D cs _ hn rl⟩
 | .any,_,_,_=>trivial
 | .bool _,_,_,r=>r
 | .int _ _,_,_,r=>r
 | .str _,_,_,r=>r
 | .raw _,_,_,r=>r
 | .nY t sz rows,_,hn,r=>rE.mono D.le (.nY t sz rows) _ hn r
 | .ptr l off,_,hn,r=>rE.mono D.le (.ptr l off) _ hn r
 | .map l,_,hn,r=>rE.mono D.le (.map l) _ hn r
 | .pp cs,_,hn,r=>rE.mono D.le (.pp cs) _ hn r
 | .func fn f c,_,hn,r=>rE.mono D.le (.func fn f c) _ hn r
 | .iface t x,_,hn,r=>rE.mono D.le (.iface t x) _ hn r
theorem MI (S:ql C φ σ a w) {E':Env} (D:Drops C φ σ w E'):
 ∀ (xs:List AV) (vs:List Value),nbL σ.low (Nf σ.low σ.heap xs)→nj (C.env φ σ.heap w) xs vs→nj E' (Nf σ.low σ.heap xs) vs
 |[],_,_,r=>r
 |x::xs,_,hn,⟨u,us,hv,r1,r2⟩=>⟨u,us,hv,Of S D x u hn.1 r1,MI S D xs us hn.2 r2⟩
end
mutual
theorem frz_of_nb (low:Nat) (H:List AObj): ∀x:AV,x.nb 0→Pq low H x=x
 | .acc _ _,h=>absurd h (dg _)
 | .own _ _ _ _ _,h=>absurd h (dg _)
 | .agg cs,h=>by rw[Pq,AF low H cs h]
 | .tup cs,h=>by rw[Pq,AF low H cs h]
 | .any,_| .bool _,_| .int _ _,_| .str _,_| .raw _,_| .nY _ _ _,_| .ptr _ _,_| .map _,_| .pp _,_| .func _ _ _,_| .iface _ _,_=>by rw[Pq]
theorem AF (low:Nat) (H:List AObj): ∀xs:List AV,nbL 0 xs→Nf low H xs=xs
 |[],_=>rfl
 |x::xs,h=>by rw[Nf,frz_of_nb low H x h.1,AF low H xs h.2]
end
end res
end Go.Abs
namespace Go.Abs
mutual
def AV.ren (ρ:Nat→Nat):AV→AV
 | .agg cs=> .agg (renL ρ cs)
 | .tup cs=> .tup (renL ρ cs)
 | .pp cs=> .pp (renL ρ cs)
 | .nY t sz rows=> .nY t sz (BA ρ rows)
 | .acc l n=> .acc (ρ l) n
 | .own l off len cap sz=> .own (ρ l) off len cap sz
 | .ptr l off=> .ptr (ρ l) off
 | .map l=> .map (ρ l)
 | .func fn f c=> .func fn (renL ρ f) (renL ρ c)
 | .iface t x=> .iface t (x.ren ρ)
 | .any=> .any
 | .bool b=> .bool b
 | .int k n=> .int k n
 | .str s=> .str s
 | .raw v=> .raw v
def renL (ρ:Nat→Nat):List AV→List AV
 |[]=>[]
 |c::cs=>c.ren ρ::renL ρ cs
def BA (ρ:Nat→Nat):List (List AV)→List (List AV)
 |[]=>[]
 |r::rs=>renL ρ r::BA ρ rs
end
theorem renL_length (ρ:Nat→Nat): ∀cs:List AV,(renL ρ cs).length=cs.length
 |[]=>rfl
 |_::cs=>by simp [renL,renL_length ρ cs]
theorem vH (ρ:Nat→Nat): ∀cs:List (List AV),(BA ρ cs).length=cs.length
 |[]=>rfl
 |_::cs=>by simp [BA,vH ρ cs]
theorem KE (ρ:Nat→Nat): ∀a b:List AV,renL ρ (a++b)=renL ρ a++renL ρ b
 |[],_=>rfl
 |_::a,b=>by simp [renL,KE ρ a b]
theorem JE (ρ:Nat→Nat): ∀rs:List (List AV),(BA ρ rs).flatten=renL ρ rs.flatten
 |[]=>rfl
 |r::rs=>by simp [BA,KE,JE ρ rs]
mutual
theorem Ey (ρ:Nat→Nat): ∀x:AV,x.nb 0→x.ren ρ=x
 | .acc _ _,h=>absurd h (dg _)
 | .own _ _ _ _ _,h=>absurd h (dg _)
 | .ptr _ _,h=>absurd h (dg _)
 | .map _,h=>absurd h (dg _)
 | .agg cs,h=>by rw[AV.ren,uG ρ cs h]
 | .tup cs,h=>by rw[AV.ren,uG ρ cs h]
 | .pp cs,h=>by rw[AV.ren,uG ρ cs h]
 | .nY _ _ rows,h=>by rw[AV.ren,wN ρ rows h]
 | .func _ f c,h=>by rw[AV.ren,uG ρ f h.1,uG ρ c h.2]
 | .iface _ x,h=>by rw[AV.ren,Ey ρ x h]
 | .any,_| .bool _,_| .int _ _,_| .str _,_| .raw _,_=>by rw[AV.ren]
theorem uG (ρ:Nat→Nat): ∀xs:List AV,nbL 0 xs→renL ρ xs=xs
 |[],_=>rfl
 |x::xs,h=>by rw[renL,Ey ρ x h.1,uG ρ xs h.2]
theorem wN (ρ:Nat→Nat): ∀xs:List (List AV),Gq 0 xs→BA ρ xs=xs
 |[],_=>rfl
 |x::xs,h=>by rw[BA,uG ρ x h.1,wN ρ xs h.2]
end
def AObj.ren (ρ:Nat→Nat):AObj→AObj
 | .cells cs=> .cells (renL ρ cs)
 | .acc u5 sz rows=> .acc u5 sz (BA ρ rows)
 | .map es=> .map (es.map fun p=>(p.1.ren ρ,p.2.ren ρ))
 | .loop k slots st uW=> .loop k (renL ρ slots) st uW
 | .iter s p=> .iter s p
 | .dead=> .dead
def wM.ren (ρ:Nat→Nat):wM→wM
 | .ret r=> .ret (r.ren ρ)
 | .panic x=> .panic (x.ren ρ)
structure Ng (N:Nat) (ρ:Nat→Nat) (E E':Env):Prop where
 n: ∀l,l<N→ρ l<E'.n
 names: ∀l,l<N→E'.φ (ρ l)=E.φ l∧(E'.ln (ρ l)=E.ln l∨E'.ln (ρ l)=none)
 mem: ∀b o u,¬ E.mu b o→E.w.cell? ⟨b,o,none⟩=some u→ ¬ E'.mu b o∧E'.w.cell? ⟨b,o,none⟩=some u
section
variable {E E':Env} {N:Nat} {ρ:Nat→Nat}
mutual
theorem rE.ren (h:Ng N ρ E E'): ∀ (x:AV) (v:Value),x.nb N→rE E x v→rE E' (x.ren ρ) v
 | .any,_,_,_=>trivial
 | .bool _,_,_,r=>r
 | .int _ _,_,_,r=>r
 | .str _,_,_,r=>r
 | .raw _,_,_,r=>r
 | .agg cs,_,hb,⟨vs,hv,hr⟩=>⟨vs,hv,nj.ren h cs _ hb hr⟩
 | .tup cs,_,hb,⟨vs,hv,hr⟩=>⟨vs,hv,nj.ren h cs _ hb hr⟩
 | .nY t sz rows,_,hb,⟨base,cap,h1,h2,h3,h4,h5,h6⟩=>
   ⟨base,cap,by rw[vH];exact h1,by rw[vH];exact h2,fun e=>by rw[vH];exact h3 e,h4,fun a ha hne=>h5 a ha (fun e=>hne (by rw[e];rfl)),fun a ha=>qj.ren h rows _ hb (h6 a ha)⟩
 | .acc l n,v,hb,⟨_,LM,r⟩=>⟨h.n l hb,LM,fun k hk=>by
     rcases (h.names l hb).2 with e|e
     ·rw[e] at hk;rw[(h.names l hb).1];exact r k hk
     ·rw[e] at hk;cases hk⟩
 | .own l i n o sz,v,hb,⟨_,LM,r⟩=>⟨h.n l hb,LM,fun k hk=>by
     rcases (h.names l hb).2 with e|e
     ·rw[e] at hk;rw[(h.names l hb).1];exact r k hk
     ·rw[e] at hk;cases hk⟩
 | .ptr l off,v,hb,⟨_,b,hφ,hv⟩=>⟨h.n l hb,b,by rw[(h.names l hb).1];exact hφ,hv⟩
 | .map l,v,hb,⟨_,hv,r,hφ⟩=>⟨h.n l hb,by rw[(h.names l hb).1];exact hv,r,by rw[(h.names l hb).1];exact hφ⟩
 | .pp cs,_,hb,⟨b,off,hv,r⟩=>⟨b,off,hv,qw.ren h cs _ hb r⟩
 | .func _ f c,_,hb,⟨f',c',hv,r1,r2⟩=>⟨f',c',hv,nj.ren h f _ hb.1 r1,nj.ren h c _ hb.2 r2⟩
 | .iface _ x,_,hb,⟨u,hv,r⟩=>⟨u,hv,rE.ren h x _ hb r⟩
theorem nj.ren (h:Ng N ρ E E'): ∀ (cs:List AV) (vs:List Value),nbL N cs→nj E cs vs→nj E' (renL ρ cs) vs
 |[],_,_,r=>r
 |c::cs,_,hb,⟨u,us,hv,r1,r2⟩=>⟨u,us,hv,rE.ren h c _ hb.1 r1,nj.ren h cs _ hb.2 r2⟩
theorem qw.ren (h:Ng N ρ E E') {b:Nat}: ∀ (cs:List AV) (off:Nat),nbL N cs→qw E b off cs→qw E' b off (renL ρ cs)
 |[],_,_,_=>trivial
 |c::cs,off,hb,⟨⟨hm,u,hu,h1,r1⟩,r2⟩=>
  let ⟨m,c'⟩:=h.mem b off u hm hu
  ⟨⟨m,u,c',h1,rE.ren h c _ hb.1 r1⟩,qw.ren h cs _ hb.2 r2⟩
theorem qj.ren (h:Ng N ρ E E') {sz b:Nat}: ∀ (rs:List (List AV)) (off:Nat),Gq N rs→qj E sz b off rs→qj E' sz b off (BA ρ rs)
 |[],_,_,_=>trivial
 |r::rs,off,hb,⟨hl,r1,r2⟩=>⟨by rw[renL_length];exact hl,qw.ren h r _ hb.1 r1,qj.ren h rs _ hb.2 r2⟩
end
structure UnLe (N:Nat) (ρ:Nat→Nat) (E' E:Env):Prop where
 n:N≤E.n
 names: ∀l,l<N→E.φ l=E'.φ (ρ l)∧E.ln l=E'.ln (ρ l)
 mem: ∀b o u,¬ E'.mu b o→E'.w.cell? ⟨b,o,none⟩=some u→ ¬ E.mu b o∧E.w.cell? ⟨b,o,none⟩=some u
mutual
theorem rE.Ax (h:UnLe N ρ E' E): ∀ (x:AV) (v:Value),x.nb N→rE E' (x.ren ρ) v→rE E x v
 | .any,_,_,_=>trivial
 | .bool _,_,_,r=>r
 | .int _ _,_,_,r=>r
 | .str _,_,_,r=>r
 | .raw _,_,_,r=>r
 | .agg cs,_,hb,⟨vs,hv,hr⟩=>⟨vs,hv,nj.Ax h cs _ hb hr⟩
 | .tup cs,_,hb,⟨vs,hv,hr⟩=>⟨vs,hv,nj.Ax h cs _ hb hr⟩
 | .nY t sz rows,_,hb,⟨base,cap,h1,h2,h3,h4,h5,h6⟩=>by
   rw[vH] at h1 h2 h3
   refine ⟨base,cap,h1,h2,h3,h4,fun a ha hne=>h5 a ha (fun e=>hne ?_),fun a ha=>qj.Ax h rows _ hb (h6 a ha)⟩
   have:=congrArg List.length e
   rw[vH] at this
   exact cR this
 | .acc l n,v,hb,⟨_,LM,r⟩=>⟨cX hb h.n,LM,fun k hk=>by rw[(h.names l hb).2] at hk;rw[(h.names l hb).1];exact r k hk⟩
 | .own l i n o sz,v,hb,⟨_,LM,r⟩=>⟨cX hb h.n,LM,fun k hk=>by rw[(h.names l hb).2] at hk;rw[(h.names l hb).1];exact r k hk⟩
 | .ptr l off,v,hb,⟨_,b,hφ,hv⟩=>⟨cX hb h.n,b,by rw[(h.names l hb).1];exact hφ,hv⟩
 | .map l,v,hb,⟨_,hv,r,hφ⟩=>⟨cX hb h.n,by rw[(h.names l hb).1];exact hv,r,by rw[(h.names l hb).1];exact hφ⟩
 | .pp cs,_,hb,⟨b,off,hv,r⟩=>⟨b,off,hv,qw.Ax h cs _ hb r⟩
 | .func _ f c,_,hb,⟨f',c',hv,r1,r2⟩=>⟨f',c',hv,nj.Ax h f _ hb.1 r1,nj.Ax h c _ hb.2 r2⟩
 | .iface _ x,_,hb,⟨u,hv,r⟩=>⟨u,hv,rE.Ax h x _ hb r⟩
theorem nj.Ax (h:UnLe N ρ E' E): ∀ (cs:List AV) (vs:List Value),nbL N cs→nj E' (renL ρ cs) vs→nj E cs vs
 |[],_,_,r=>r
 |c::cs,_,hb,⟨u,us,hv,r1,r2⟩=>⟨u,us,hv,rE.Ax h c _ hb.1 r1,nj.Ax h cs _ hb.2 r2⟩
theorem qw.Ax (h:UnLe N ρ E' E) {b:Nat}: ∀ (cs:List AV) (off:Nat),nbL N cs→qw E' b off (renL ρ cs)→qw E b off cs
 |[],_,_,_=>trivial
 |c::cs,off,hb,⟨⟨hm,u,hu,h1,r1⟩,r2⟩=>
  let ⟨m,c'⟩:=h.mem b off u hm hu
  ⟨⟨m,u,c',h1,rE.Ax h c _ hb.1 r1⟩,qw.Ax h cs _ hb.2 r2⟩
theorem qj.Ax (h:UnLe N ρ E' E) {sz b:Nat}: ∀ (rs:List (List AV)) (off:Nat),Gq N rs→qj E' sz b off (BA ρ rs)→qj E sz b off rs
 |[],_,_,_=>trivial
 |r::rs,off,hb,⟨hl,r1,r2⟩=>⟨by rw[renL_length] at hl;exact hl,qw.Ax h r _ hb.1 r1,qj.Ax h rs _ hb.2 r2⟩
end
end
theorem W1 {E E':Env} {N:Nat} {ρ:Nat→Nat} (h:Ng N ρ E E'): ∀ {es:List (AV×AV)} {xs:List MapEntry},(∀p∈es,p.1.nb N∧p.2.nb N)→um E es xs→um E' (es.map fun p=>(p.1.ren ρ,p.2.ren ρ)) xs
 |[],_,_,r=>r
 |(k,v)::_,_,hb,⟨e,s,he,r1,r2,r3⟩=>
  ⟨e,s,he,rE.ren h k _ (hb (k,v) (by simp)).1 r1,rE.ren h v _ (hb (k,v) (by simp)).2 r2,W1 h (fun p hp=>hb p (by simp [hp])) r3⟩
theorem Ra {E E':Env} {N:Nat} {ρ:Nat→Nat} (h:UnLe N ρ E' E): ∀ {es:List (AV×AV)} {xs:List MapEntry},(∀p∈es,p.1.nb N∧p.2.nb N)→um E' (es.map fun p=>(p.1.ren ρ,p.2.ren ρ)) xs→um E es xs
 |[],_,_,r=>r
 |(k,v)::_,_,hb,⟨e,s,he,r1,r2,r3⟩=>
  ⟨e,s,he,rE.Ax h k _ (hb (k,v) (by simp)).1 r1,rE.Ax h v _ (hb (k,v) (by simp)).2 r2,Ra h (fun p hp=>hb p (by simp [hp])) r3⟩
theorem qQ.ren {E E':Env} {N:Nat} {ρ:Nat→Nat} (h:Ng N ρ E E') {x:AObj} {hd:Value} (hb:objNb N x) (hw: ∀b,x.block hd b→E'.w.heap[b]? =E.w.heap[b]?) (r:qQ E x hd):qQ E' (x.ren ρ) hd:=by
 cases x with
 |cells cs=>
  obtain ⟨b,c,t,rfl,h2,rl,h3⟩:=r
  exact ⟨b,c,t,rfl,by rw[hw b rfl];exact h2,nj.ren h _ _ hb rl,h3⟩
 |acc u5 sz rows=>
  obtain ⟨base,cap,rfl,h2,h3,h4,h5⟩:=r
  refine ⟨base,cap,by rw[vH],by rw[vH];exact h2,h3,?_,fun a0 ha hc=> ?_⟩
  ·have key: ∀rs:List (List AV),(∀r∈rs,r.length=sz)→ ∀r∈BA ρ rs,r.length=sz:=by
    intro rs
    induction rs with
    |nil=>intro _ r hr;simp [BA] at hr
    |cons q rs ih=>
     intro hl r hr
     simp only[BA,cU] at hr
     rcases hr with rfl|hr
     ·rw[renL_length];exact hl q (by simp)
     ·exact ih (fun p hp=>hl p (by simp [hp])) r hr
   exact key rows h4
  ·obtain ⟨h6,c,t,h7,h8,rl,h9⟩:=h5 a0 ha hc
   subst ha
   rw[vH,JE]
   exact ⟨h6,c,t,by rw[hw _ ⟨rfl,hc⟩];exact h7,h8,nj.ren h _ _ (Df hb) rl,h9⟩
 |map es=>
  obtain ⟨r',en,cl,rfl,h2,rp⟩:=r
  exact ⟨r',en,cl,rfl,by rw[hw r' rfl];exact h2,W1 h hb rp⟩
 |loop k slots st uW=>
  obtain ⟨D,rec,rfl,h1,h2,h3,rl⟩:=r
  exact ⟨D,rec,rfl,by rw[hw (D+1) (.inl rfl)];exact h1,by rw[hw D (.inr rfl)];exact h2,h3,nj.ren h _ _ hb rl⟩
 |iter s p=>
  obtain ⟨b,rfl,h2⟩:=r
  exact ⟨b,rfl,by rw[hw b rfl];exact h2⟩
 |dead=>trivial
theorem qQ.Ax {E E':Env} {N:Nat} {ρ:Nat→Nat} (h:UnLe N ρ E' E) {x:AObj} {hd:Value} (hb:objNb N x) (hw: ∀b,(x.ren ρ).block hd b→E.w.heap[b]? =E'.w.heap[b]?) (r:qQ E' (x.ren ρ) hd):qQ E x hd:=by
 cases x with
 |cells cs=>
  obtain ⟨b,c,t,rfl,h2,rl,h3⟩:=r
  exact ⟨b,c,t,rfl,by rw[hw b rfl];exact h2,nj.Ax h _ _ hb rl,h3⟩
 |acc u5 sz rows=>
  obtain ⟨base,cap,rfl,h2,h3,h4,h5⟩:=r
  rw[vH] at h2 hw
  refine ⟨base,cap,by rw[vH],h2,h3,?_,fun a0 ha hc=> ?_⟩
  ·have key: ∀rs:List (List AV),(∀r∈BA ρ rs,r.length=sz)→ ∀r∈rs,r.length=sz:=by
    intro rs
    induction rs with
    |nil=>intro _ r hr;simp at hr
    |cons q rs ih=>
     intro hl r hr
     simp only[cU] at hr
     rcases hr with rfl|hr
     ·have:=hl (renL ρ r) (by simp [BA]);rw[renL_length] at this;exact this
     ·exact ih (fun p hp=>hl p (by simp [BA,hp])) r hr
   exact key rows h4
  ·obtain ⟨h6,c,t,h7,h8,rl,h9⟩:=h5 a0 ha hc
   subst ha
   rw[vH] at rl h9
   rw[JE] at rl
   exact ⟨h6,c,t,by rw[hw _ ⟨rfl,hc⟩];exact h7,h8,nj.Ax h _ _ (Df hb) rl,h9⟩
 |map es=>
  obtain ⟨r',en,cl,rfl,h2,rp⟩:=r
  exact ⟨r',en,cl,rfl,by rw[hw r' rfl];exact h2,Ra h hb rp⟩
 |loop k slots st uW=>
  obtain ⟨D,rec,rfl,h1,h2,h3,rl⟩:=r
  exact ⟨D,rec,rfl,by rw[hw (D+1) (.inl rfl)];exact h1,by rw[hw D (.inr rfl)];exact h2,h3,nj.Ax h _ _ hb rl⟩
 |iter s p=>
  obtain ⟨b,rfl,h2⟩:=r
  exact ⟨b,rfl,by rw[hw b rfl];exact h2⟩
 |dead=>trivial
theorem I4 {ρ:Nat→Nat} {x:AObj} {h:Value} {b o:Nat}:(x.ren ρ).muts h b o↔x.muts h b o:=by
 cases x with
 |cells cs=>cases h with
  |pointer p=>cases p<;>exact cT
  |_=>exact cT
 |acc u5 sz rows=>cases h with
  |slice p n c=>cases p<;>exact cT
  |_=>exact cT
 |map es=>cases h with
  |map p=>cases p<;>exact cT
  |_=>exact cT
 |loop k slots st uW=>cases h with
  |func q _ _=>cases q<;>exact cT
  |_=>exact cT
 |iter s p=>cases h with
  |pointer p=>cases p<;>exact cT
  |_=>exact cT
 |dead=>exact cT
theorem z1 {ρ:Nat→Nat} {x:AObj} {h:Value} {b:Nat}:(x.ren ρ).block h b↔x.block h b:=by
 cases x with
 |cells cs=>cases h with
  |pointer p=>cases p<;>exact cT
  |_=>exact cT
 |acc u5 sz rows=>cases h with
  |slice p n c=>cases p<;>exact cT
  |_=>exact cT
 |map es=>cases h with
  |map p=>cases p<;>exact cT
  |_=>exact cT
 |loop k slots st uW=>cases h with
  |func q _ _=>cases q<;>exact cT
  |_=>exact cT
 |iter s p=>cases h with
  |pointer p=>cases p<;>exact cT
  |_=>exact cT
 |dead=>exact cT
theorem BB {ρ:Nat→Nat} {x:AObj}:oW (some (x.ren ρ))=oW (some x):=by
 cases x<;>simp [oW,AObj.ren,vH]
theorem Ij {x:AObj} {h:Value} {b:Nat} (hb:x.block h b): ∃o,x.muts h b o:=by
 cases x with
 |cells cs=>
  cases h with
  |pointer p=>cases p with
   |none=>exact absurd hb id
   |some a=>exact ⟨0,hb⟩
  |_=>exact absurd hb id
 |acc u5 sz rows=>
  cases h with
  |slice base n cap=>cases base with
   |none=>exact absurd hb id
   |some a=>exact ⟨a.off+n*sz,hb,fun _=>cZ _⟩
  |_=>exact absurd hb id
 |map es=>
  cases h with
  |map r=>cases r with
   |none=>exact absurd hb id
   |some a=>exact ⟨0,hb⟩
  |_=>exact absurd hb id
 |loop k slots st uW=>
  cases h with
  |func q _ _=>cases q with
   |yield r=>exact ⟨0,hb⟩
   |_=>exact absurd hb id
  |_=>exact absurd hb id
 |iter s p=>
  cases h with
  |pointer p=>cases p with
   |none=>exact absurd hb id
   |some a=>exact ⟨0,hb⟩
  |_=>exact absurd hb id
 |dead=>exact absurd hb id
end Go.Abs
namespace Go.Abs
theorem quiet_nw {P:Program} {σ:AState} {op:Op} {e:wL} (hq:quiet op=true) (h:n6 P σ op=some e):e.nw=[]:=by
 cases op with
 |move x=>cases h;rfl
 |assign x=>cases h;rfl
 |pick c x y=>simp only[n6] at h;split at h<;>cases h;rfl
 |unOp op t x=>simp only[n6] at h;split at h<;>cases h<;>rfl
 |fieldAddr t x i=>simp only[n6] at h;split at h<;>cases h<;>rfl
 |extract x i=>
  simp only[n6] at h
  split at h
  ·split at h<;>cases h;rfl
  ·cases h
 |binOp op t x y u=>
  simp only[n6] at h
  split at h
  ·cases h;rfl
  ·unfold Uo MF at h
   split at h
   ·rename_i he
    split at he
    ·split at he<;>cases he;cases h;rfl
    ·split at he<;>cases he;cases h;rfl
    ·cases he
   unfold Oa at h
   split at h
   ·cases h;rfl
   ·cases h;rfl
   ·split at h<;>cases h;rfl
   ·split at h<;>cases h;rfl
   ·split at h<;>cases h;rfl
   ·split at h<;>cases h;rfl
   ·split at h<;>cases h;rfl
   ·split at h<;>cases h;rfl
   ·cases h
 |load t x=>
  simp only[n6] at h
  split at h
  ·split at h
   ·split at h
    ·unfold ldV at h
     split at h
     ·split at h<;>cases h;rfl
     ·cases h;rfl
    ·cases h
   ·cases h
  ·split at h<;>cases h;rfl
  ·split at h
   ·split at h
    ·split at h
     ·split at h<;>cases h;rfl
     ·cases h
    ·cases h
   ·cases h
  ·unfold QS at h
   split at h
   ·split at h
    ·rw[dh] at h
     obtain ⟨m,_,he⟩:=h
     obtain rfl:=dQ he
     rfl
    ·cases h
   ·cases h
  ·cases h
 |store t x y=>
  simp only[n6] at h
  split at h
  ·split at h
   ·split at h<;>cases h;rfl
   ·cases h
  ·split at h
   ·split at h
    ·split at h
     ·split at h<;>cases h;rfl
     ·cases h
    ·cases h
   ·cases h
  ·cases h
 |field t x i=>
  simp only[n6] at h
  split at h
  ·split at h
   ·split at h<;>cases h;rfl
   ·cases h
  ·cases h
 |index t x i=>
  simp only[n6] at h
  split at h
  ·split at h
   ·split at h<;>cases h;rfl
   ·cases h
  ·cases h
 |indexAddr t x i=>
  simp only[n6] at h
  split at h
  ·split at h
   ·split at h
    ·split at h<;>cases h;rfl
    ·cases h
   ·split at h
    ·split at h
     ·split at h<;>cases h;rfl
     ·cases h
    ·split at h<;>cases h;rfl
    ·cases h
   ·cases h
  ·split at h
   ·split at h
    ·split at h<;>cases h;rfl
    ·split at h
     ·rw[dh] at h
      obtain ⟨ds,_,he⟩:=h
      obtain rfl:=dQ he
      rfl
     ·cases h
    ·split at h<;>cases h;rfl
    ·cases h
   ·cases h
 |_=>simp [quiet] at hq
theorem quiet_wh {P:Program} {σ:AState} {op:Op} {e:wL} (hq:quiet op=true) (h:n6 P σ op=some e):e.whole=false:=by
 cases op with
 |move x=>cases h;rfl
 |assign x=>cases h;rfl
 |pick c x y=>simp only[n6] at h;split at h<;>cases h;rfl
 |unOp op t x=>simp only[n6] at h;split at h<;>cases h<;>rfl
 |fieldAddr t x i=>simp only[n6] at h;split at h<;>cases h<;>rfl
 |extract x i=>
  simp only[n6] at h
  split at h
  ·split at h<;>cases h;rfl
  ·cases h
 |binOp op t x y u=>
  simp only[n6] at h
  split at h
  ·cases h;rfl
  ·unfold Uo MF at h
   split at h
   ·rename_i he
    split at he
    ·split at he<;>cases he;cases h;rfl
    ·split at he<;>cases he;cases h;rfl
    ·cases he
   unfold Oa at h
   split at h
   ·cases h;rfl
   ·cases h;rfl
   ·split at h<;>cases h;rfl
   ·split at h<;>cases h;rfl
   ·split at h<;>cases h;rfl
   ·split at h<;>cases h;rfl
   ·split at h<;>cases h;rfl
   ·split at h<;>cases h;rfl
   ·cases h
 |load t x=>
  simp only[n6] at h
  split at h
  ·split at h
   ·split at h
    ·unfold ldV at h
     split at h
     ·split at h<;>cases h;rfl
     ·cases h;rfl
    ·cases h
   ·cases h
  ·split at h<;>cases h;rfl
  ·split at h
   ·split at h
    ·split at h
     ·split at h<;>cases h;rfl
     ·cases h
    ·cases h
   ·cases h
  ·unfold QS at h
   split at h
   ·split at h
    ·rw[dh] at h
     obtain ⟨m,_,he⟩:=h
     obtain rfl:=dQ he
     rfl
    ·cases h
   ·cases h
  ·cases h
 |store t x y=>
  simp only[n6] at h
  split at h
  ·split at h
   ·split at h<;>cases h;rfl
   ·cases h
  ·split at h
   ·split at h
    ·split at h
     ·split at h<;>cases h;rfl
     ·cases h
    ·cases h
   ·cases h
  ·cases h
 |field t x i=>
  simp only[n6] at h
  split at h
  ·split at h
   ·split at h<;>cases h;rfl
   ·cases h
  ·cases h
 |index t x i=>
  simp only[n6] at h
  split at h
  ·split at h
   ·split at h<;>cases h;rfl
   ·cases h
  ·cases h
 |indexAddr t x i=>
  simp only[n6] at h
  split at h
  ·split at h
   ·split at h
    ·split at h<;>cases h;rfl
    ·cases h
   ·split at h
    ·split at h
     ·split at h<;>cases h;rfl
     ·cases h
    ·split at h<;>cases h;rfl
    ·cases h
   ·cases h
  ·split at h
   ·split at h
    ·split at h<;>cases h;rfl
    ·split at h
     ·rw[dh] at h
      obtain ⟨ds,_,he⟩:=h
      obtain rfl:=dQ he
      rfl
     ·cases h
    ·split at h<;>cases h;rfl
    ·cases h
   ·cases h
 |_=>simp [quiet] at hq
mutual
theorem QA {ρ:Nat→Nat} {n:Nat} (hf: ∀l,l<n→ρ l=l): ∀x:AV,x.nb n→x.ren ρ=x
 | .acc l _,h=>by rw[AV.ren,hf l h]
 | .own l _ _ _ _,h=>by rw[AV.ren,hf l h]
 | .ptr l _,h=>by rw[AV.ren,hf l h]
 | .map l,h=>by rw[AV.ren,hf l h]
 | .agg cs,h=>by rw[AV.ren,BC hf cs h]
 | .tup cs,h=>by rw[AV.ren,BC hf cs h]
 | .pp cs,h=>by rw[AV.ren,BC hf cs h]
 | .nY _ _ rows,h=>by rw[AV.ren,Rb hf rows h]
 | .func _ f c,h=>by rw[AV.ren,BC hf f h.1,BC hf c h.2]
 | .iface _ x,h=>by rw[AV.ren,QA hf x h]
 | .any,_| .bool _,_| .int _ _,_| .str _,_| .raw _,_=>by rw[AV.ren]
theorem BC {ρ:Nat→Nat} {n:Nat} (hf: ∀l,l<n→ρ l=l): ∀xs:List AV,nbL n xs→renL ρ xs=xs
 |[],_=>rfl
 |x::xs,h=>by rw[renL,QA hf x h.1,BC hf xs h.2]
theorem Rb {ρ:Nat→Nat} {n:Nat} (hf: ∀l,l<n→ρ l=l): ∀xs:List (List AV),Gq n xs→BA ρ xs=xs
 |[],_=>rfl
 |x::xs,h=>by rw[BA,BC hf x h.1,Rb hf xs h.2]
end
theorem obj_fix {ρ:Nat→Nat} {n:Nat} (hf: ∀l,l<n→ρ l=l) (x:AObj) (h:objNb n x):x.ren ρ=x:=by
 cases x with
 |cells cs=>simp only[AObj.ren,BC hf cs h]
 |acc u5 sz rows=>simp only[AObj.ren,Rb hf rows h]
 |map es=>
  simp only[AObj.ren,AObj.map.injEq]
  have h: ∀p∈es,p.1.nb n∧p.2.nb n:=h
  induction es with
  |nil=>rfl
  |cons p es ih=>
   have hp:=h p (by simp)
   rw[dM,ih (fun q hq=>h q (by simp [hq])) (fun q hq=>h q (by simp [hq])),QA hf _ hp.1,QA hf _ hp.2]
 |loop k slots st uW=>simp only[AObj.ren,BC hf slots h]
 |iter s p=>rfl
 |dead=>rfl
theorem Rc {n m:Nat} (h:n≤m) (x:AObj) (hx:objNb n x):objNb m x:=by
 cases x with
 |cells cs=>exact sP h _ hx
 |acc u5 sz rows=>exact Vi h _ hx
 |map es=>exact fun p hp=>⟨AV.Pf h _ (hx p hp).1,AV.Pf h _ (hx p hp).2⟩
 |loop k slots st uW=>exact sP h _ hx
 |iter s p=>trivial
 |dead=>trivial
def N8 (n l:Nat):Nat:=if l=n then n+1 else if l=n+1 then n else l
theorem Vs (n l:Nat):N8 n (N8 n l)=l:=by unfold N8;split<;>(try split)<;>(try split)<;>(try split)<;>omega
theorem Nh {n l:Nat} (h:l<n):N8 n l=l:=by unfold N8;split<;>(try split)<;>omega
theorem tau_lt {n l:Nat} (h:l<n+2):N8 n l<n+2:=by unfold N8;split<;>(try split)<;>omega
theorem tau_get {α:Type} {H:List α} {x y z:α} {l:Nat} (h:(H++[x]++[y])[l]? =some z):(H++[y]++[x])[N8 H.length l]? =some z:=by
 have hl:l<H.length+2:=by have:=(cM.1 h).1;simpa using this
 rw[eG] at h ⊢
 by_cases h1:l<H.length
 ·rw[Nh h1,cO h1]
  rwa [cO h1] at h
 ·rw[c9 (by omega)] at h
  by_cases h2:l=H.length
  ·subst h2
   simp only[eY,List.cons_append,dD] at h
   simp only[N8,if_true]
   rw[c9 (by omega)]
   simpa using h
  ·have h3:l=H.length+1:=by omega
   subst h3
   simp only[show H.length+1-H.length=1 by omega,List.cons_append,List.nil_append,List.getElem?_cons_succ,dD] at h
   simp only[N8,if_true,Nat.add_eq_left,Nat.one_ne_zero,if_false]
   rw[c9 (by omega)]
   simpa using h
theorem ql.swap {C:Ctx} {φ:Nat→Value} {a:Act} {w:World} {s:List AV} {H:List AObj} {x y:AObj} {low:Nat} {df:List (FuncId×List AV)} (hdf:Vr H.length df) (Dt:low≤H.length) (hH: ∀z∈H,objNb H.length z) (hx:objNb 0 x) (hy:objNb 0 y)
 (S:ql C φ ⟨s,H++[x]++[y],low,df⟩ a w):ql C (fun l=>φ (N8 H.length l)) ⟨renL (N8 H.length) s,H++[y]++[x],low,df⟩ a w:=by
 have Dv: ∀z∈H++[x]++[y],objNb H.length z:=by
  intro z hz
  simp only[cN,cP] at hz
  rcases hz with (hz|rfl)|rfl
  ·exact hH z hz
  ·exact Rc (ez _) _ hx
  ·exact Rc (ez _) _ hy
 have back: ∀ (l:Nat) (z:AObj),(H++[y]++[x])[l]? =some z→(H++[x]++[y])[N8 H.length l]? =some z:=fun l z h=>tau_get h
 have fwd: ∀ (l:Nat) (z:AObj),(H++[x]++[y])[l]? =some z→(H++[y]++[x])[N8 H.length l]? =some z:=fun l z h=>tau_get h
 have BZ: ∀b o,Cg (fun l=>φ (N8 H.length l)) (H++[y]++[x]) b o↔Cg φ (H++[x]++[y]) b o:=by
  intro b o
  constructor
  ·rintro ⟨l,z,hz,hm⟩
   exact ⟨_,z,back l z hz,hm⟩
  ·rintro ⟨l,z,hz,hm⟩
   refine ⟨_,z,fwd l z hz,?_⟩
   simp only[Vs];exact hm
 have ren:Ng (H.length+2) (N8 H.length) (C.env φ (H++[x]++[y]) w) (C.env (fun l=>φ (N8 H.length l)) (H++[y]++[x]) w):=by
  refine ⟨fun l hl=> ?_,fun l hl=> ?_,fun b o u hm hc=>⟨?_,hc⟩⟩
  ·simp only[Ctx.env,eA,eO];exact tau_lt hl
  ·simp only[Ctx.env,Vs,true_and]
   have hl':l<(H++[x]++[y]).length:=by simpa using hl
   have h1:=cV hl'
   rw[h1,fwd l _ h1]
   exact .inl rfl
  ·simp only[Ctx.env] at hm ⊢
   rw[BZ];exact hm
 have Az:uT C (fun l=>φ (N8 H.length l)) (H++[y]++[x]) w df a.defers:=S.defers.step' (fun xs vs ⟨f,hf⟩ r=>by
  have:=nj.ren ren xs vs (sP (by omega) _ (hdf _ hf)) r
  rwa [BC (fun l hl=>Nh hl) xs (hdf _ hf)] at this) (fun _ _ _=>rfl) (fun l z b hz hb=> .inl ⟨_,z,back l z hz,hb⟩)
 refine {slots:= ?_,defers:=Az,objs:= ?_,apart:= ?_,vE:= ?_,size:=S.size,old:=S.old,qM:=S.qM,Be:= ?_,wZ:=S.wZ,rest:=S.rest,low:=⟨S.low.1,by simp only[eA,eO];omega⟩,names:= ?_}
 ·refine nj.ren ren _ _ ?_ S.slots
  have:=nj.nb _ _ S.slots
  simpa [Ctx.env] using this
 ·intro l z hz
  have h1:=back l z hz
  have hm:=Dv z (List.mem_of_getElem? h1)
  have:=qQ.ren ren (Rc (by omega) _ hm) (fun _ _=>rfl) (S.objs _ z h1)
  rw[obj_fix (fun l hl=>Nh hl) z hm] at this
  exact this
 ·intro l l' z z' b hz WO hb hb'
  have:=S.apart _ _ z z' b (back l z hz) (back l' z' WO) hb hb'
  have h2:=congrArg (N8 H.length) this
  simpa only[Vs] using h2
 ·intro l z b o hz hb
  exact S.vE _ z b o (back l z hz) hb
 ·intro l z b o hz hm
  exact S.Be _ z b o (back l z hz) hm
 ·intro l hl
  have hN:C.N0=low:=S.low.1
  have hlt:l<H.length:=by omega
  have:=S.names l hl
  have e1:(H++[y]++[x])[l]? =(H++[x]++[y])[l]? :=by
   rw[eG,eG,cO hlt,cO hlt]
  simp only[Nh hlt] at this ⊢
  rw[e1]
  exact this
theorem Vt {E:Env} {x:AObj} {h:Value} (r:qQ E x h) (hx: ∀u5 sz rows,x= .acc u5 sz rows→(∃base n cap,h= .slice base n cap∧cap≠0∧base≠none)∨rows=[]):objNb E.n x:=by
 cases x with
 |cells cs=>obtain ⟨_,_,_,_,_,rl,_⟩:=r;exact nj.nb _ _ rl
 |acc u5 sz rows=>
  rcases hx u5 sz rows rfl with ⟨base,n,cap,rfl,hc,hb⟩|rfl
  ·obtain ⟨base',cap',h1,h2,h3,h4,h5⟩:=r
   simp only[Value.slice.injEq] at h1
   obtain ⟨rfl,rfl,rfl⟩:=h1
   cases base with
   |none=>exact absurd rfl hb
   |some a0=>
    obtain ⟨_,c,t,_,_,rl,_⟩:=h5 a0 rfl hc
    have hn:=nj.nb _ _ rl
    have key: ∀rows:List (List AV),nbL E.n rows.flatten→Gq E.n rows:=by
     intro rows
     induction rows with
     |nil=>intro _;trivial
     |cons q rs ih=>
      intro this
      simp only[dH] at this
      have split: ∀ (p q:List AV),nbL E.n (p++q)→nbL E.n p∧nbL E.n q:=by
       intro p
       induction p with
       |nil=>intro q h;exact ⟨trivial,h⟩
       |cons z p ihp=>intro q h;exact ⟨⟨h.1,(ihp q h.2).1⟩,(ihp q h.2).2⟩
      exact ⟨(split _ _ this).1,ih (split _ _ this).2⟩
    exact key rows hn
  ·trivial
 |map es=>obtain ⟨_,_,_,_,_,rp⟩:=r;exact um.nb rp
 |loop k slots st uW=>obtain ⟨_,_,_,_,_,_,rl⟩:=r;exact nj.nb _ _ rl
 |iter s p=>trivial
 |dead=>trivial
theorem I5 {E:Env} {x:AObj} {h:Value} (r:qQ E x h):objNb E.n x:=by
 refine Vt r ?_
 rintro u5 sz rows rfl
 obtain ⟨base,cap,rfl,h2,h3,_⟩:=r
 cases base with
 |none=>
  right
  have:=h3 rfl
  exact cR (by omega)
 |some a0=>
  by_cases hc:cap=0
  ·right;exact cR (by omega)
  ·exact .inl ⟨_,_,_,rfl,hc,by simp⟩
theorem W2 {P:Program} {t:TypeId} {z:List AV} (w:World) (h:rS P t=some z):nbL 0 z:=by
 obtain ⟨v,_,hr,_⟩:=Lo (w:=w) h
 exact nj.nb _ _ (hr {w,mu:=fun _ _=>False,φ:=fun _=> .tuple #[],ln:=fun _=>none,n:=0})
end Go.Abs
namespace Go.Abs
section
variable {P:Program} {ops:Array Oper}
theorem Kc {o:Oper} (h:JC o=true): ∃t,o.op= .alloc t∧o.guard=none:=by
 unfold JC at h
 simp only[cJ,Option.isNone_iff_eq_none] at h
 obtain ⟨h1,h2⟩:=h
 cases ho:o.op with
 |alloc t=>exact ⟨t,rfl,h2⟩
 |_=>simp [ho] at h1
def vi (n:Nat) (z:List AV):wL:={val:= .ptr n 0,nw:=[.cells z]}
theorem Pr {o:Oper} {σ:AState} {t:TypeId} {z:List AV} (ho:o.op= .alloc t) (hg:o.guard=none) (hz:rS P t=some z):xS P ops o σ (fun e=>e=vi σ.heap.length z):=by
 refine .inr (.inl ⟨?_,?_,vi σ.heap.length z,?_,?_,fun _=>cT⟩)
 ·unfold sH;rw[hg]
 ·rw[ho];rfl
 ·rw[ho];simp only[n6,hz];rfl
 ·exact trivial
theorem CJ {o:Oper} {σ:AState} {t:TypeId} {S:wL→Prop} (ho:o.op= .alloc t) (hg:o.guard=none) (h:xS P ops o σ S): ∃z,rS P t=some z∧ ∀e,S e↔e=vi σ.heap.length z:=by
 rcases h with ⟨hw,_⟩|⟨_,_,e,he,_,h⟩|⟨_,f,args,V,hc,_⟩|⟨_,f,args,e,hc,_⟩
 ·unfold sH at hw;rw[hg] at hw;cases hw
 ·rw[ho] at he
  simp only[n6] at he
  split at he
  ·rename_i z hz
   cases he
   exact ⟨z,hz,h⟩
  ·cases he
 ·rw[ho] at hc;cases hc
 ·rw[ho] at hc;cases hc
theorem CX {p q:Nat} (h:Kb ops p q=true):p<q∧(∃op oq tp tq,ops[p]? =some op∧ops[q]? =some oq∧op.op= .alloc tp∧oq.op= .alloc tq∧op.guard=none∧oq.guard=none∧yD op=[]∧yD oq=[])∧
 ∀k o,ops[k]? =some o→k≠p→k≠q→quiet o.op=true∧tC ops p k=tC ops q k:=by
 unfold Kb at h
 split at h
 ·rename_i op oq hp hq
  simp only[cJ,decide_eq_true_eq,dr] at h
  obtain ⟨⟨⟨⟨⟨h1,h2⟩,h3⟩,h4⟩,h5⟩,h6⟩:=h
  obtain ⟨tp,a1,a2⟩:=Kc h1
  obtain ⟨tq,b1,b2⟩:=Kc h2
  refine ⟨h5,⟨op,oq,tp,tq,hp,hq,a1,b1,a2,b2,h3,h4⟩,fun k o hk n1 n2=> ?_⟩
  rw[cQ] at h6
  have:=h6 k (by simpa using (cW.1 hk).1)
  simp only[hk,dj,beq_iff_eq,cJ] at this
  rcases this with (h|h)|h
  ·exact absurd h n1
  ·exact absurd h n2
  ·exact h
 ·cases h
theorem Ez {i j:Nat} (h1:tC ops i j=false) (h2:Kb ops i j=false):Q5 ops i j=false:=by
 unfold Q5;rw[h1,h2];rfl
theorem A0 {op:Op} {t:TypeId} (h:quiet op=true):op≠ .alloc t:=by
 rintro rfl;cases h
theorem z6 {op:Op} (h:quiet op=true):AD op=false:=by
 cases op<;>first|rfl|(simp [quiet] at h)
end
section region
variable {C:Ctx} {ops:Array Oper} {Q:qG→AState→Prop}
theorem UA (o:Oper) (listed:Array Bool):(o.after.all fun e=> !Region.binds .any e||listed.getD e.on false)=true↔ ∀d∈yD o,listed.getD d false=true:=by
 rw[Array.all_eq_true_iff_forall_mem]
 constructor
 ·intro h d hd
  unfold yD at hd
  simp only[eJ,dU] at hd
  obtain ⟨e,⟨he,hb⟩,rfl⟩:=hd
  have:=h e (by simpa using he)
  simpa [hb] using this
 ·intro h e he
  cases hb:Region.binds .any e with
  |false=>simp
  |true=>
   have:=h e.on (by unfold yD;simp only[eJ,dU];exact ⟨e,⟨by simpa using he,hb⟩,rfl⟩)
   simpa using this
theorem GC (listed:Array Bool) (i:Nat) (hsz:listed.size=ops.size):i∈Region.ready .any ops listed↔i<ops.size∧listed.getD i false=false∧ ∃o,ops[i]? =some o∧ ∀d∈yD o,listed.getD d false=true:=by
 unfold Region.ready
 simp only[dU,eP]
 constructor
 ·rintro ⟨h1,h2⟩
  rw[cJ] at h2
  have ho:ops[i]? =some ops[i]:=dV h1
  refine ⟨h1,?_,ops[i],ho,?_⟩
  ·have h3:=h2.1
   have hlt:i<listed.size:=by omega
   simp only[eV,hlt,dif_pos] at h3 ⊢
   simpa using h3
  ·have h3:=h2.2
   rw[ho] at h3
   simp only[Option.map_some,eg] at h3
   exact (UA _ _).1 h3
 ·rintro ⟨h1,h2,o,ho,h3⟩
  refine ⟨h1,?_⟩
  rw[cJ]
  constructor
  ·have hlt:i<listed.size:=by omega
   simp only[eV,hlt,dif_pos] at h2 ⊢
   simpa using h2
  ·rw[ho]
   simp only[Option.map_some,eg]
   exact (UA _ _).2 h3
theorem x9 (hok:CW ops=true) {listed:Array Bool} (Vk: ∀j o,ops[j]? =some o→listed.getD j false=true→ ∀d∈yD o,listed.getD d false=true) {i r:Nat} {oi:Oper} (Ii:ops[i]? =some oi)
 (Bz: ∀d∈yD oi,listed.getD d false=true) (hq:tC ops r i=true):listed.getD r false=true:=by
 obtain ⟨_,hspec⟩:=De hok
 exact Pp (L:=fun d=>listed.getD d false=true) (all:=ops.toList) (fun j o hj hL=>Vk j o (by simpa using hj) hL) ops.toList [] (by simp) (by simp) (fun k o hk=>(hspec k o (by simpa using hk)).1) i oi (by simpa using Ii) Bz r hq
theorem HB {listed:Array Bool} {i:Nat} {oi:Oper} (Ii:ops[i]? =some oi) (Bz: ∀d∈yD oi,listed.getD d false=true) (Vk: ∀j o,ops[j]? =some o→listed.getD j false=true→ ∀d∈yD o,listed.getD d false=true):
 ∀j o,ops[j]? =some o→(listed.setIfInBounds i true).getD j false=true→ ∀d∈yD o,(listed.setIfInBounds i true).getD d false=true:=by
 intro j o' hj hL d hd
 by_cases e:j=i
 ·subst e
  rw[Ii] at hj;cases hj
  exact getD_set_true (Bz d hd)
 ·rw[getD_set_ne false (fun e'=>e e'.symm)] at hL
  exact getD_set_true (Vk j o' hj hL d hd)
theorem Ls {listed:Array Bool} {i:Nat} (h:i<listed.size):(listed.setIfInBounds i true).getD i false=true:=by
 simp [eV,h]
structure Rd (ops:Array Oper) (R:List Nat) (listed:Array Bool):Prop where
 pw:R.Pairwise (· < ·)
 sz:listed.size=ops.size
 mem: ∀i,i∈R↔i<ops.size∧listed.getD i false=false
 cl: ∀j o,ops[j]? =some o→listed.getD j false=true→ ∀d∈yD o,listed.getD d false=true
theorem Rd.next {R:List Nat} {listed:Array Bool} (F:Rd ops R listed) {i:Nat} {oi:Oper} (Ii:ops[i]? =some oi) (Bz: ∀d∈yD oi,listed.getD d false=true):Rd ops (R.erase i) (listed.setIfInBounds i true):=by
 refine ⟨F.pw.erase i,by simpa using F.sz,fun k=> ?_,HB Ii Bz F.cl⟩
 have hnd:R.Nodup:=F.pw.imp (fun h=>eK h)
 have hi:i<listed.size:=by have:=(cW.1 Ii).1;rw[F.sz];exact this
 rw[hnd.mem_erase_iff,F.mem k]
 constructor
 ·rintro ⟨hne,h1,h2⟩
  refine ⟨h1,?_⟩
  rw[getD_set_ne false (fun e=>hne e.symm)];exact h2
 ·rintro ⟨h1,h2⟩
  have hne:k≠i:=by
   intro e
   subst e
   rw[Ls hi] at h2;cases h2
  refine ⟨hne,h1,?_⟩
  rw[getD_set_ne false (fun e=>hne e.symm)] at h2;exact h2
theorem draw_pend {ro:Option Nat} (hok:CW ops=true) {p q:Nat} (htw:Kb ops p q=true) (fuel:Nat)
 (back: ∀ (f:Nat) (R:List Nat) (listed:Array Bool) (φ:Nat→Value) (σ:AState) (a:Act) (w:World),f≤fuel→R.length=f→Rd ops R listed→(p ∉ R)→ql C φ σ a w→M9 C.P ops (Q .normal) R [] σ→wpAnyIn (Dw ro) 0 C.P .any ops (QC C Q) f listed a w)
 {oq:Oper} {tq:TypeId} {zq:List AV} (hoq:ops[q]? =some oq) (htq:oq.op= .alloc tq) (hgq:oq.guard=none) (hzq:rS C.P tq=some zq):
 ∀ (f:Nat) (R:List Nat) (listed:Array Bool) (φ φ0:Nat→Value) (σ:AState) (a a0:Act) (w w0:World),f≤fuel→R.length=f+1→R.Pairwise (· < ·)→listed.size=ops.size→p∈R→q∈R→listed.getD q false=true→
 (∀i,i∈R↔i<ops.size∧(listed.getD i false=false∨i=q))→(∀j o,ops[j]? =some o→listed.getD j false=true→ ∀d∈yD o,listed.getD d false=true)→
 ql C φ (σ.app oq.dst (vi σ.heap.length zq)) a w→ql C φ0 σ a0 w0→M9 C.P ops (Q .normal) R [] σ→wpAnyIn (Dw ro) 0 C.P .any ops (QC C Q) f listed a w:=by
 obtain ⟨hpq,⟨op,oq',tp,tq',hop,hoq',htp,htq',hgp,hgq',hdp,hdq⟩,Zj⟩:=CX htw
 rw[hoq] at hoq';cases hoq'
 obtain ⟨_,hspec⟩:=De hok
 intro f
 induction f with
 |zero=>
  intro R listed φ φ0 σ a a0 w w0 hf hlen N7 hsz hpR hqR hlq hR Vk S S0 h
  exfalso
  match R,hlen with
  |[x],_=>
   simp only[cP] at hpR hqR
   omega
 |succ f ih=>
  intro R listed φ φ0 σ a a0 w w0 hf hlen N7 hsz hpR hqR hlq hR Vk S S0 h
  have hnd:R.Nodup:=N7.imp (fun h=>eK h)
  have hpl:listed.getD p false=false:=by
   rcases ((hR p).1 hpR).2 with h|h
   ·exact h
   ·omega
  have hps:p<ops.size:=((hR p).1 hpR).1
  refine ⟨?_,?_⟩
  ·intro Re
   exfalso
   have:p∈Region.ready .any ops listed:=(GC listed p hsz).2 ⟨hps,hpl,op,hop,by rw[hdp];intro d hd;cases hd⟩
   rw[Re] at this;cases this
  ·intro i hi
   rw[GC listed i hsz] at hi
   obtain ⟨hi1,hi2,oi,Ii,Bz⟩:=hi
   have hiq:i≠q:=by rintro rfl;rw[hlq] at hi2;cases hi2
   have Wz:i∈R:=(hR i).2 ⟨hi1,.inl hi2⟩
   have Vu: ∀r∈R,tC ops r i=false:=by
    intro r hr
    cases hq':tC ops r i with
    |false=>rfl
    |true=>
     exfalso
     have hl:=x9 hok Vk Ii Bz hq'
     rcases ((hR r).1 hr).2 with h|h
     ·rw[hl] at h;cases h
     ·subst h
      by_cases e:i=p
      ·subst e
       rw[hop] at Ii;cases Ii
       have:=x9 hok (listed:=dx ops.size false) (by intro j o _ hj;rw[getD_replicate_false'] at hj;cases hj) hop (by rw[hdp];intro d hd;cases hd) hq'
       rw[getD_replicate_false'] at this;cases this
      ·have:=(Zj i oi Ii e hiq).2
       rw[hq'] at this
       have hl:=x9 hok Vk Ii Bz this
       rw[hpl] at hl;cases hl
   by_cases eip:i=p
   ·
    subst eip
    rw[hop] at Ii;cases Ii
    have hno: ∀r∈R,r<i→Q5 ops r i=false:=by
     intro r hr hlt
     refine Ez (Vu r hr) ?_
     cases ht:Kb ops r i with
     |false=>rfl
     |true=>
      exfalso
      obtain ⟨_,⟨o1,_,t1,_,Vv,_,ht1,_⟩,_⟩:=CX ht
      exact A0 (Zj r o1 Vv (by omega) (by omega)).1 ht1
    obtain ⟨o1,E1,Vv,Vw,hE1⟩:=pull hok h Wz N7 hno
    rw[hop] at Vv;cases Vv
    obtain ⟨zp,hzp,hd1⟩:=CJ htp hgp Vw
    obtain ⟨_,h1⟩:=hE1 _ ((hd1 _).2 rfl)
    have hqR':q∈R.erase i:=(hnd.mem_erase_iff).2 ⟨by omega,hqR⟩
    obtain ⟨o2,E2,ho2,hst2,hE2⟩:=pull hok h1 hqR' (N7.erase i) (by
     intro r hr hlt
     have hr':=eo hr
     have hri:r≠i:=fun e=>by subst e;exact (hnd.not_mem_erase) hr
     refine Ez ?_ ?_
     ·cases ho':tC ops r q with
      |false=>rfl
      |true=>
       exfalso
       have:=x9 hok (listed:=dx ops.size false) (by intro j o _ hj;rw[getD_replicate_false'] at hj;cases hj) hoq (by rw[hdq];intro d hd;cases hd) ho'
       rw[getD_replicate_false'] at this;cases this
     ·cases ht:Kb ops r q with
      |false=>rfl
      |true=>
       exfalso
       obtain ⟨_,⟨o1,_,t1,_,Vv,_,ht1,_⟩,_⟩:=CX ht
       exact A0 (Zj r o1 Vv hri (by omega)).1 ht1)
    rw[hoq] at ho2;cases ho2
    obtain ⟨zq',hzq',hd2⟩:=CJ htq hgq hst2
    rw[hzq] at hzq';cases hzq'
    obtain ⟨_,h2⟩:=hE2 _ ((hd2 _).2 rfl)
    refine Gz S hop (Pr htp hgp hzp) ?_
    rintro e φ' v w' rfl S'
    have hoQ:tC ops i q=false:=by
     cases ho':tC ops i q with
     |false=>rfl
     |true=>
      exfalso
      have:=x9 hok (listed:=dx ops.size false) (by intro j o _ hj;rw[getD_replicate_false'] at hj;cases hj) hoq (by rw[hdq];intro d hd;cases hd) ho'
      rw[getD_replicate_false'] at this;cases this
    obtain ⟨Q9,_⟩:=(hspec q oq hoq).2 i op hpq hop hoQ
    obtain ⟨_,ap2,_⟩:=dR Q9
    have LM:nbL σ.heap.length σ.slots:=nj.nb _ _ S0.slots
    have hob: ∀z∈σ.heap,objNb σ.heap.length z:=by
     intro z hz
     obtain ⟨l,hl⟩:=List.getElem?_of_mem hz
     exact I5 (S0.objs l z hl)
    have S2:=ql.swap (s:=((σ.app oq.dst (vi σ.heap.length zq)).app op.dst (vi (σ.app oq.dst (vi σ.heap.length zq)).heap.length zp)).slots) (H:=σ.heap) (x:= .cells zq) (y:= .cells zp) (low:=σ.low) (df:=σ.df) (Fi.nb S0.defers.2.2) S0.low.2 hob (W2 w0 hzq) (W2 w0 hzp) (by
     have e:(σ.app oq.dst (vi σ.heap.length zq)).app op.dst (vi (σ.app oq.dst (vi σ.heap.length zq)).heap.length zp)=⟨((σ.app oq.dst (vi σ.heap.length zq)).app op.dst (vi (σ.app oq.dst (vi σ.heap.length zq)).heap.length zp)).slots,σ.heap++[.cells zq]++[.cells zp],σ.low,σ.df⟩:=by
      cases oq.dst<;>cases op.dst<;>simp [AState.app,AState.put,vi,p4]
     rw[←e];exact S')
    have e2:(⟨renL (N8 σ.heap.length) ((σ.app oq.dst (vi σ.heap.length zq)).app op.dst (vi (σ.app oq.dst (vi σ.heap.length zq)).heap.length zp)).slots,σ.heap++[.cells zp]++[.cells zq],σ.low,σ.df⟩:AState)
     =(σ.app op.dst (vi σ.heap.length zp)).app oq.dst (vi (σ.app op.dst (vi σ.heap.length zp)).heap.length zq):=by
     have Zk:=BC (ρ:=N8 σ.heap.length) (fun l hl=>Nh hl) σ.slots LM
     have P5: ∀ (d:Nat) (c:AV) (cs:List AV),renL (N8 σ.heap.length) (cs.set d c)=(renL (N8 σ.heap.length) cs).set d (c.ren (N8 σ.heap.length)):=by
      intro d c cs
      induction cs generalizing d with
      |nil=>simp [renL]
      |cons x cs ih=>cases d with
       |zero=>simp [renL]
       |succ d=>simp [renL,ih]
     have hlen1:(σ.app oq.dst (vi σ.heap.length zq)).heap.length=σ.heap.length+1:=by simp [AState.app,vi,p4]
     have W3:(σ.app op.dst (vi σ.heap.length zp)).heap.length=σ.heap.length+1:=by simp [AState.app,vi,p4]
     have t0:N8 σ.heap.length σ.heap.length=σ.heap.length+1:=by simp [N8]
     have t1:N8 σ.heap.length (σ.heap.length+1)=σ.heap.length:=by simp [N8]
     rw[hlen1,W3]
     cases h1:oq.dst with
     |none=>cases h2:op.dst with
      |none=>simp [AState.app,AState.put,vi,p4,Zk]
      |some dp=>simp [AState.app,AState.put,vi,p4,Zk,P5,AV.ren,t0,t1]
     |some dq=>cases h2:op.dst with
      |none=>simp [AState.app,AState.put,vi,p4,Zk,P5,AV.ren,t0,t1]
      |some dp=>
       have hne:dp≠dq:=fun e=>ap2 dp h2 (by rw[h1,e])
       simp only[AState.app,AState.put,vi,p4,Zk,P5,AV.ren,t0,t1,List.nil_append,List.append_nil]
       rw[ec _ _ hne]
    rw[e2] at S2
    have hF:Rd ops ((R.erase i).erase q) (listed.setIfInBounds i true):=by
     refine ⟨(N7.erase i).erase q,by simpa using hsz,fun k=> ?_,HB hop Bz Vk⟩
     have hnd':(R.erase i).Nodup:=hnd.erase i
     rw[hnd'.mem_erase_iff,hnd.mem_erase_iff,hR k]
     constructor
     ·rintro ⟨hne,hne2,h1,h2⟩
      refine ⟨h1,?_⟩
      rw[getD_set_ne false (fun e=>hne2 e.symm)]
      rcases h2 with h2|h2
      ·exact h2
      ·exact absurd h2 hne
     ·rintro ⟨h1,h2⟩
      have hne:k≠i:=by
       intro e
       subst e
       rw[Ls (by rw[hsz];exact hi1)] at h2;cases h2
      rw[getD_set_ne false (fun e=>hne e.symm)] at h2
      refine ⟨?_,hne,h1,.inl h2⟩
      intro ekq
      rw[ekq,hlq] at h2;cases h2
    refine back f _ _ _ _ _ w' (by omega) ?_ hF ?_ S2 (Q6 (by simp) h2)
    ·rw[dm hqR',dm Wz];omega
    ·intro hm
     exact (hnd.not_mem_erase) (eo hm)
   ·
    obtain ⟨hqi,_⟩:=Zj i oi Ii eip hiq
    have hno: ∀r∈R,r<i→Q5 ops r i=false:=by
     intro r hr hlt
     refine Ez (Vu r hr) ?_
     cases ht:Kb ops r i with
     |false=>rfl
     |true=>
      exfalso
      obtain ⟨_,⟨_,o1,_,t1,_,Vv,_,ht1,_⟩,_⟩:=CX ht
      rw[Ii] at Vv;cases Vv
      exact A0 hqi ht1
    obtain ⟨o1,E1,Vv,Vw,hE1⟩:=pull hok h Wz N7 hno
    rw[Ii] at Vv;cases Vv
    have Zh: ∀e,E1 e→e.nw=[]:=by
     intro e he
     rcases Vw with ⟨_,h⟩|⟨_,_,e',he',_,h⟩|⟨_,f',args,V,hc,_,_,_⟩|⟨_,f',args,_,hc,_,_⟩
     ·rw[(h e).1 he]
     ·rw[(h e).1 he];exact quiet_nw hqi he'
     ·exfalso
      have:=z6 hqi
      unfold qn at hc
      split at hc
      ·rename_i ho';rw[ho'] at this;simp [AD] at this
      ·cases hc
     ·exfalso
      have:=z6 hqi
      unfold qn at hc
      split at hc
      ·rename_i ho';rw[ho'] at this;simp [AD] at this
      ·cases hc
    have hwh: ∀e,E1 e→e.whole=false:=by
     intro e he
     rcases Vw with ⟨_,h⟩|⟨_,_,e',he',_,h⟩|⟨_,f',args,V,hc,_,_,_⟩|⟨_,f',args,_,hc,_,_⟩
     ·rw[(h e).1 he]
     ·rw[(h e).1 he];exact quiet_wh hqi he'
     ·exfalso
      have:=z6 hqi
      unfold qn at hc
      split at hc
      ·rename_i ho';rw[ho'] at this;simp [AD] at this
      ·cases hc
     ·exfalso
      have:=z6 hqi
      unfold qn at hc
      split at hc
      ·rename_i ho';rw[ho'] at this;simp [AD] at this
      ·cases hc
    have hap:(∀d,oq.dst=some d→d ∉ oi.looksAt ops)∧(∀d,oi.dst=some d→oq.dst≠some d):=by
     rcases Nat.lt_or_gt_of_ne hiq with hlt|hgt
     ·have ho':tC ops i q=false:=by
       cases ho':tC ops i q with
       |false=>rfl
       |true=>
        exfalso
        have:=x9 hok (listed:=dx ops.size false) (by intro j o _ hj;rw[getD_replicate_false'] at hj;cases hj) hoq (by rw[hdq];intro d hd;cases hd) ho'
        rw[getD_replicate_false'] at this;cases this
      obtain ⟨hap,_⟩:=(hspec q oq hoq).2 i oi hlt Ii ho'
      obtain ⟨x1,x2,x3⟩:=dR hap
      exact ⟨x3,x2⟩
     ·obtain ⟨hap,_⟩:=(hspec i oi Ii).2 q oq hgt hoq (Vu q hqR)
      obtain ⟨x1,x2,x3⟩:=dR hap
      exact ⟨x1,fun d hd hd'=>x2 d hd' hd⟩
    have hind: ∀e,E1 e→zZ ⟨i,σ.heap.length,e⟩ (vi σ.heap.length zq)=true:=by
     intro e he
     simp [zZ,vi,Dd,Zh e he,hwh e he]
    have hfw:xS C.P ops oi (σ.app oq.dst (vi σ.heap.length zq)) E1:=Vw.fwd (j:=i) hap.1 hind
    refine Gz S Ii hfw ?_
    intro e φ' v w' he S'
    obtain ⟨_,s9⟩:=hE1 e he
    have hcomm:=WX (d:=oi.dst) (d':=oq.dst) (j:=i) hap.2 (hind e he) (Vw.lt he).2 (by simp [vi])
    have hle:(σ.app oi.dst e).heap.length=σ.heap.length:=by simp [AState.app,Zh e he,tO]
    rw[←hcomm] at S'
    have hg: ∃φ1 a1 w1,ql C φ1 (σ.app oi.dst e) a1 w1:=by
     rcases Vw with ⟨_,h⟩|⟨_,_,e',he',hp,h⟩|⟨_,f',args,V,hc,_,_,_⟩|⟨_,f',args,_,hc,_,_⟩
     ·rw[(h e).1 he,CH]
      exact ⟨φ0,_,w0,S0.put oi.dst (v:=undef) rfl⟩
     ·rw[(h e).1 he]
      obtain ⟨_,v1,w1,φ1,_,_,S1⟩:=Hx S0 he' hp
      exact ⟨φ1,_,w1,S1⟩
     ·exfalso
      have:=z6 hqi
      unfold qn at hc
      split at hc
      ·rename_i ho';rw[ho'] at this;simp [AD] at this
      ·cases hc
     ·exfalso
      have:=z6 hqi
      unfold qn at hc
      split at hc
      ·rename_i ho';rw[ho'] at this;simp [AD] at this
      ·cases hc
    obtain ⟨φ1,a1,w1,S1⟩:=hg
    rw[←hle] at S'
    refine ih (R.erase i) _ φ' φ1 (σ.app oi.dst e) _ a1 w' w1 (by omega) ?_ (N7.erase i) (by simpa using hsz) ((hnd.mem_erase_iff).2 ⟨fun e'=>eip e'.symm,hpR⟩) ((hnd.mem_erase_iff).2 ⟨fun e'=>hiq e'.symm,hqR⟩) ?_ ?_ (HB Ii Bz Vk) S' S1 s9
    ·rw[dm Wz];omega
    ·exact getD_set_true hlq
    ·intro k
     rw[hnd.mem_erase_iff,hR k]
     constructor
     ·rintro ⟨hne,h1,h2⟩
      refine ⟨h1,?_⟩
      rw[getD_set_ne false (fun e=>hne e.symm)];exact h2
     ·rintro ⟨h1,h2⟩
      have hne:k≠i:=by
       intro e'
       subst e'
       rcases h2 with h2|h2
       ·rw[Ls (by rw[hsz];exact hi1)] at h2;cases h2
       ·exact hiq h2
      refine ⟨hne,h1,?_⟩
      rw[getD_set_ne false (fun e=>hne e.symm)] at h2;exact h2
theorem draw_any {ro:Option Nat} (hok:CW ops=true): ∀ (fuel:Nat) (R:List Nat) (listed:Array Bool) (φ:Nat→Value) (σ:AState) (a:Act) (w:World),R.length=fuel→Rd ops R listed→
 ql C φ σ a w→M9 C.P ops (Q .normal) R [] σ→wpAnyIn (Dw ro) 0 C.P .any ops (QC C Q) fuel listed a w:=by
 obtain ⟨_,hspec⟩:=De hok
 intro fuel
 induction fuel using Nat.strongRecOn with
 |ind fuel ih=>
  intro R listed φ σ a w hl F S h
  have N7:=F.pw
  have hsz:=F.sz
  have hR:=F.mem
  have hnd:R.Nodup:=N7.imp (fun h=>eK h)
  cases fuel with
  |zero=>
   have hR0:R=[]:=cR hl
   subst hR0
   refine ⟨?_,φ,σ,S,h⟩
   rw[List.eq_nil_iff_forall_not_mem]
   intro i hi
   rw[GC listed i hsz] at hi
   have:=(hR i).2 ⟨hi.1,hi.2.1⟩
   simp at this
  |succ fuel=>
   refine ⟨?_,?_⟩
   ·intro Re
    exfalso
    cases R with
    |nil=>simp at hl
    |cons r R=>
     have hr:=(hR r).1 (by simp)
     have ho:ops[r]? =some ops[r]:=dV hr.1
     have:r∈Region.ready .any ops listed:=by
      rw[GC listed r hsz]
      refine ⟨hr.1,hr.2,_,ho,fun d hd=> ?_⟩
      have hdr:=(hspec r _ ho).1 d hd
      cases hld:listed.getD d false with
      |true=>rfl
      |false=>
       have hdR:=(hR d).2 ⟨by omega,hld⟩
       rw[dW] at N7
       simp only[cU] at hdR
       rcases hdR with rfl|hdR
       ·omega
       ·have:=N7.1 d hdR;omega
     rw[Re] at this
     simp at this
   ·intro i hi
    rw[GC listed i hsz] at hi
    obtain ⟨hi1,hi2,oi,Ii,Bz⟩:=hi
    have Wz:=(hR i).2 ⟨hi1,hi2⟩
    have Vu: ∀r∈R,tC ops r i=false:=by
     intro r hr
     cases hq:tC ops r i with
     |false=>rfl
     |true=>
      exfalso
      have:=x9 hok F.cl Ii Bz hq
      have hr':=((hR r).1 hr).2
      rw[hr'] at this;cases this
    by_cases htw: ∃p∈R,Kb ops p i=true
    ·obtain ⟨p,hpR,htw⟩:=htw
     obtain ⟨hpi,⟨op,oq,tp,tq,hop,hoq,htp,htq,hgp,hgq,hdp,hdq⟩,Zj⟩:=CX htw
     rw[Ii] at hoq;cases hoq
     have hpl:=((hR p).1 hpR).2
     obtain ⟨o1,E1,Vv,Vw,hE1⟩:=pull hok h hpR N7 (by
      intro r hr hlt
      refine Ez ?_ ?_
      ·cases ho':tC ops r p with
       |false=>rfl
       |true=>
        exfalso
        have:=x9 hok (listed:=dx ops.size false) (by intro j o _ hj;rw[getD_replicate_false'] at hj;cases hj) hop (by rw[hdp];intro d hd;cases hd) ho'
        rw[getD_replicate_false'] at this;cases this
      ·cases ht:Kb ops r p with
       |false=>rfl
       |true=>
        exfalso
        obtain ⟨_,⟨o1,_,t1,_,Vv,_,ht1,_⟩,_⟩:=CX ht
        exact A0 (Zj r o1 Vv (by omega) (by omega)).1 ht1)
     rw[hop] at Vv;cases Vv
     obtain ⟨zp,hzp,hd1⟩:=CJ htp hgp Vw
     obtain ⟨_,h1⟩:=hE1 _ ((hd1 _).2 rfl)
     have hqR':i∈R.erase p:=(hnd.mem_erase_iff).2 ⟨by omega,Wz⟩
     obtain ⟨o2,E2,ho2,hst2,hE2⟩:=pull hok h1 hqR' (N7.erase p) (by
      intro r hr hlt
      have hr':=eo hr
      have hrp:r≠p:=fun e=>by subst e;exact (hnd.not_mem_erase) hr
      refine Ez (Vu r hr') ?_
      cases ht:Kb ops r i with
      |false=>rfl
      |true=>
       exfalso
       obtain ⟨_,⟨o1,_,t1,_,Vv,_,ht1,_⟩,_⟩:=CX ht
       exact A0 (Zj r o1 Vv hrp (by omega)).1 ht1)
     rw[Ii] at ho2;cases ho2
     obtain ⟨zq,hzq,_⟩:=CJ htq hgq hst2
     refine Gz S Ii (Pr htq hgq hzq) ?_
     rintro e φ' v w' rfl S'
     refine draw_pend hok htw fuel (fun f R' listed' φ' σ' a' w' hf hl' F' _ S' h'=>ih f (by omega) R' listed' φ' σ' a' w' hl' F' S' h') Ii htq hgq hzq fuel R _ φ' φ σ _ a w' w (cZ _) hl N7 (by simpa using hsz) hpR Wz (Ls (by rw[hsz];exact hi1)) ?_ (HB Ii Bz F.cl) S' S h
     intro k
     rw[hR k]
     by_cases hk:k=i
     ·subst hk
      constructor
      ·rintro ⟨h1,_⟩;exact ⟨h1,.inr rfl⟩
      ·rintro ⟨h1,_⟩;exact ⟨h1,hi2⟩
     ·rw[getD_set_ne false (fun e=>hk e.symm)]
      constructor
      ·rintro ⟨h1,h2⟩;exact ⟨h1,.inl h2⟩
      ·rintro ⟨h1,h2|h2⟩
       ·exact ⟨h1,h2⟩
       ·exact absurd h2 hk
    ·have hno: ∀r∈R,r<i→Q5 ops r i=false:=by
      intro r hr _
      refine Ez (Vu r hr) ?_
      cases ht:Kb ops r i with
      |false=>rfl
      |true=>exact absurd ⟨r,hr,ht⟩ htw
     obtain ⟨o,E,ho,hst,hE⟩:=pull hok h Wz N7 hno
     refine Gz S ho hst ?_
     intro e φ' v w' he S'
     obtain ⟨_,s9⟩:=hE e he
     refine ih fuel (by omega) (R.erase i) _ φ' _ _ w' ?_ (F.next Ii Bz) S' s9
     rw[dm Wz];omega
theorem Zl {ro:Option Nat} {φ:Nat→Value} {σ:AState} {a:Act} {w:World} {id:Nat} (hm:C.P.follows .mixedOrders=true) (hok:CW ops=true) (h:M9 C.P ops (Q .normal) (dY ops.size) [] σ) (S:ql C φ σ a w):
 (Code.region id ops true).wpIn (Dw ro) 0 C.P (QC C Q) a w:=by
 refine wpIn_region_any hm ?_
 refine draw_any hok ops.size (dY ops.size) _ φ σ a _ (by simp) ⟨eN,by simp,?_,?_⟩ (S.drew _) h
 ·intro i
  simp only[eP]
  constructor
  ·intro hi;exact ⟨hi,getD_replicate_false' _ _⟩
  ·exact fun h=>h.1
 ·intro j o hj hL
  rw[getD_replicate_false'] at hL;cases hL
end region
end Go.Abs
namespace Go.Abs
section
variable {P:Program} {ops:Array Oper} {c:Nat} {H H':List AObj} {x:AV}
def W4 (P:Program) (f:FuncId) (args:List AV) (H:List AObj) (x:AV) (H':List AObj):Prop:= ∀σ':AState,σ'.heap=H→AZ P f args σ' (fun o H2=>o= .panic x∧H2=H')
def W5 (P:Program) (ops:Array Oper) (c:Nat) (H:List AObj) (x:AV) (H':List AObj) (j:Nat) (o:Oper) (σ:AState) (v:AV):Prop:=
 σ.heap=H∧((j=c∧sH ops o σ=some true∧ ∃f args,qn σ o.op=some (f,args)∧W4 P f args H x H')∨
   tC ops c j=true∨
   (j≠c∧ ∃e:wL,e.up=[]∧e.nw=[]∧e.val=v∧xS P ops o σ (fun e'=>e'=e)))
def Zm (P:Program) (ops:Array Oper) (c:Nat) (H:List AObj) (x:AV) (H':List AObj):List Nat→AState→Prop
 |[],_=>True
 |j::rest,σ=> ∃o v,ops[j]? =some o∧W5 P ops c H x H' j o σ v∧Zm P ops c H x H' rest (σ.put o.dst v)
theorem GD (σ:AState) (d:Option Tmp) (v:AV):(σ.put d v).heap=σ.heap:=by cases d<;>rfl
theorem put_ev {σ:AState} {d:Option Tmp} {v:AV} {y:Operand} (h: ∀t,d=some t→y≠ .tmp t):(σ.put d v).ev y=σ.ev y:=by
 have:=Zi (σ:=σ) (dst:=d) (e:={val:=v}) h
 rwa [CH] at this
theorem UB {σ:AState} {d:Option Tmp} {v:AV} {t:Nat} (h: ∀t',d=some t'→t≠t'):(σ.put d v).slots[t]? =σ.slots[t]? :=by
 have:=Od (σ:=σ) (dst:=d) (e:={val:=v}) h
 rwa [CH] at this
theorem put_comm {σ:AState} {d d':Option Tmp} {v v':AV} (h: ∀t,d=some t→d'≠some t):(σ.put d v).put d' v'=(σ.put d' v').put d v:=by
 cases d with
 |none=>cases d'<;>rfl
 |some t=>cases d' with
  |none=>rfl
  |some t'=>
   have hne:t≠t':=fun e=>h t rfl (by rw[e])
   simp only[AState.put]
   rw[ec _ _ hne]
theorem W5.move {j:Nat} {o:Oper} {σ σ':AState} {v:AV} (h:W5 P ops c H x H' j o σ v) (hh:σ'.heap=σ.heap) (Aw: ∀y∈o.op.operands,σ'.ev y=σ.ev y) (hw:sH ops o σ'=sH ops o σ):W5 P ops c H x H' j o σ' v:=by
 obtain ⟨h0,h⟩:=h
 refine ⟨hh.trans h0,?_⟩
 rcases h with ⟨h1,h2,f,args,h3,h4⟩|h1|⟨h1,e,h2,h3,h4,h5⟩
 ·exact .inl ⟨h1,by rw[hw];exact h2,f,args,by rw[Dx Aw];exact h3,h4⟩
 ·exact .inr (.inl h1)
 ·exact .inr (.inr ⟨h1,e,h2,h3,h4,h5.local Aw hw (fun _ _=>⟨⟨fun _ _=>by rw[hh],fun _=>by rw[hh]⟩,fun _=>hh⟩)⟩)
theorem pullI (hok:CW ops=true) {i:Nat}: ∀ {R:List Nat} {σ:AState},Zm P ops c H x H' R σ→i∈R→R.Pairwise (· < ·)→(∀r∈R,r<i→tC ops r i=false)→
 ∃o v,ops[i]? =some o∧W5 P ops c H x H' i o σ v∧Zm P ops c H x H' (R.erase i) (σ.put o.dst v)
 |[],_,_,hi,_,_=>by simp at hi
 |r::R,σ,⟨or',vr,hor,hst,h⟩,hi,N7,Q7=>by
  by_cases e:r=i
  ·subst e
   refine ⟨or',vr,hor,hst,?_⟩
   rw[eT];exact h
  ·have Wz:i∈R:=by
    simp only[cU] at hi
    rcases hi with h|h
    ·exact absurd h.symm e
    ·exact h
   rw[dW] at N7
   have hri:r<i:=N7.1 i Wz
   obtain ⟨oi,v,Ii,hsti,hr⟩:=pullI hok h Wz N7.2 (fun q hq hlt=>Q7 q (by simp [hq]) hlt)
   obtain ⟨_,hspec⟩:=De hok
   obtain ⟨Q9,_⟩:=(hspec i oi Ii).2 r or' hri hor (Q7 r (by simp) hri)
   obtain ⟨a1,a2,a3⟩:=dR Q9
   refine ⟨oi,v,Ii,hsti.move (GD _ _ _).symm (fun y hy=> ?_) (EY fun k b d hg hd=> ?_),?_⟩
   ·rw[put_ev];intro d hd;exact EZ (a1 d hd) y hy
   ·rw[UB];intro d' hd';exact HA (a1 d' hd') hg hd
   ·have hne:(r::R).erase i=r::R.erase i:=eU (by simpa using e)
    rw[hne]
    refine ⟨or',vr,hor,hst.move (GD _ _ _) (fun y hy=> ?_) (EY fun k b d hg hd=> ?_),?_⟩
    ·rw[put_ev];intro d hd;exact EZ (a3 d hd) y hy
    ·rw[UB];intro d' hd';exact HA (a3 d' hd') hg hd
    ·rw[put_comm (fun t ht=>fun h=>a2 t (by simpa using h) ht)];exact hr
def Rf:List Oper→List AV→List AV
 |[],s=>s
 |o::os,s=>Rf os (match o.dst with|some d=>s.set d .any|none=>s)
def MJ (ops:Array Oper) (s:List AV):List AV:=Rf ops.toList s
theorem Og: ∀ (L:List Oper) (s:List AV) (d:Nat) (v:AV),(∃o∈L,o.dst=some d)→Rf L (s.set d v)=Rf L s
 |[],_,_,_,⟨_,h,_⟩=>by simp at h
 |o::L,s,d,v,h=>by
  simp only[Rf]
  cases hd:o.dst with
  |none=>
   simp only
   refine Og L s d v ?_
   obtain ⟨o',ho',hd'⟩:=h
   rcases cU.1 ho' with rfl|ho'
   ·rw[hd] at hd';cases hd'
   ·exact ⟨o',ho',hd'⟩
  |some t=>
   simp only
   by_cases e:t=d
   ·subst e;rw[List.set_set]
   ·rw[ec _ _ (fun h=>e h.symm)]
    refine Og L _ d v ?_
    obtain ⟨o',ho',hd'⟩:=h
    rcases cU.1 ho' with rfl|ho'
    ·rw[hd] at hd';cases hd';exact absurd rfl e
    ·exact ⟨o',ho',hd'⟩
theorem W6 {σ:AState} {o:Oper} {i:Nat} (ho:ops[i]? =some o) (v:AV):MJ ops (σ.put o.dst v).slots=MJ ops σ.slots:=by
 cases hd:o.dst with
 |none=>rfl
 |some d=>
  refine Og _ _ d v ⟨o,?_,hd⟩
  have:=cW.1 ho
  obtain ⟨h1,h2⟩:=this
  rw[←h2];simp
theorem nj.setAny {E:Env}: ∀ {cs:List AV} {vs:List Value} (d:Nat),nj E cs vs→nj E (cs.set d .any) vs
 |[],_,_,h=>h
 |_::_,_,0,⟨v,us,rfl,_,r⟩=>⟨v,us,rfl,trivial,r⟩
 |_::_,_,d+1,⟨v,us,rfl,h1,r⟩=>⟨v,us,rfl,h1,nj.setAny d r⟩
theorem Oh {E:Env}: ∀ (L:List Oper) {cs:List AV} {vs:List Value},nj E cs vs→nj E (Rf L cs) vs
 |[],_,_,h=>h
 |o::L,cs,vs,h=>by
  simp only[Rf]
  cases o.dst with
  |none=>exact Oh L h
  |some d=>exact Oh L (nj.setAny d h)
end
section region
variable {C:Ctx} {ops:Array Oper} {Q:qG→AState→Prop}
theorem ql.MJ {φ:Nat→Value} {σ:AState} {a:Act} {w:World} (S:ql C φ σ a w) (ops:Array Oper):ql C φ {σ with slots:=MJ ops σ.slots} a w:={S with slots:=Oh _ S.slots,defers:=S.defers}
theorem draw_pan {ro:Option Nat} (hok:CW ops=true) {c:Nat} {H H':List AObj} {x:AV} {s0:List AV} {low:Nat} {df:List (FuncId×List AV)} (hQ:Q (.panic x) {slots:=MJ ops s0,heap:=H',low,df}):
 ∀ (fuel:Nat) (R:List Nat) (listed:Array Bool) (φ:Nat→Value) (σ:AState) (a:Act) (w:World),R.length=fuel→Rd ops R listed→c∈R→
 ql C φ σ a w→MJ ops σ.slots=MJ ops s0→σ.low=low→σ.df=df→Zm C.P ops c H x H' R σ→wpAnyIn (Dw ro) 0 C.P .any ops (QC C Q) fuel listed a w:=by
 obtain ⟨_,hspec⟩:=De hok
 intro fuel
 induction fuel with
 |zero=>
  intro R listed φ σ a w hl F hc S hs Dt hdf h
  have hR0:R=[]:=cR hl
  rw[hR0] at hc
  simp at hc
 |succ fuel ih=>
  intro R listed φ σ a w hl F hc S hs Dt hdf h
  have N7:=F.pw
  have hsz:=F.sz
  have hR:=F.mem
  have hnd:R.Nodup:=N7.imp (fun h=>eK h)
  refine ⟨?_,?_⟩
  ·intro Re
   exfalso
   cases R with
   |nil=>simp at hl
   |cons r R=>
    have hr:=(hR r).1 (by simp)
    have ho:ops[r]? =some ops[r]:=dV hr.1
    have:r∈Region.ready .any ops listed:=by
     rw[GC listed r hsz]
     refine ⟨hr.1,hr.2,_,ho,fun d hd=> ?_⟩
     have hdr:=(hspec r _ ho).1 d hd
     cases hld:listed.getD d false with
     |true=>rfl
     |false=>
      have hdR:=(hR d).2 ⟨by omega,hld⟩
      rw[dW] at N7
      simp only[cU] at hdR
      rcases hdR with rfl|hdR
      ·omega
      ·have:=N7.1 d hdR;omega
    rw[Re] at this
    simp at this
  ·intro i hi
   rw[GC listed i hsz] at hi
   obtain ⟨hi1,hi2,oi,Ii,Bz⟩:=hi
   have Wz:=(hR i).2 ⟨hi1,hi2⟩
   have Vu: ∀r∈R,tC ops r i=false:=by
    intro r hr
    cases hq:tC ops r i with
    |false=>rfl
    |true=>
     exfalso
     have:=x9 hok F.cl Ii Bz hq
     have hr':=((hR r).1 hr).2
     rw[hr'] at this;cases this
   obtain ⟨o,v,ho,⟨hH,hst⟩,s9⟩:=pullI hok h Wz N7 (fun r hr _=>Vu r hr)
   rw[Ii] at ho;cases ho
   rcases hst with ⟨rfl,hw,f,args,hcal,hpan⟩|Q7|⟨hne,e,hup,Zh,hval,hS⟩
   ·unfold wpOpIn
    simp only[Ii]
    rw[zB S hw]
    simp only[if_true]
    have yC:=hpan σ hH
    obtain ⟨vs,hrun,hr⟩:=Gk S hcal yC.1
    refine ⟨fun _ _=>trivial,?_⟩
    rw[eE _ _ _ (Hy hcal),hrun,eF]
    refine ⟨fun h=>by simp [Dw,dZ] at h,Fk.2 ?_⟩
    refine (yC.2 C φ a w rfl S vs hr).mono fun en w' ⟨o',φ',H2,⟨ho',hH2⟩,S',uX⟩=> ?_
    subst ho' hH2
    cases en with
    |returned v=>exact uX.elim
    |panicked chain=>
     obtain ⟨u,hu,hr⟩:=uX
     refine ⟨φ',{slots:=MJ ops s0,heap:=H2,low,df},x,u,?_,hQ,hu,hr⟩
     have:=S'.MJ ops
     rw[←hs,←Dt,←hdf]
     exact this
    |outgrown=>exact uX.elim
   ·rw[Vu c hc] at Q7;cases Q7
   ·refine Gz S Ii hS ?_
    rintro e' φ' v' w' rfl S'
    have happ:σ.app oi.dst e'=σ.put oi.dst v:=by
     rw[show σ.app oi.dst e'=σ.app oi.dst {val:=v} by simp [AState.app,hup,Zh,hval],CH]
    rw[happ] at S'
    refine ih (R.erase i) _ φ' _ _ w' ?_ (F.next Ii Bz) ((hnd.mem_erase_iff).2 ⟨fun e=>hne e.symm,hc⟩) S' ?_ ?_ ?_ s9
    ·rw[dm Wz];omega
    ·rw[W6 Ii];exact hs
    ·rw[←Dt];cases oi.dst<;>rfl
    ·rw[←hdf];cases oi.dst<;>rfl
theorem Zn {ro:Option Nat} {φ:Nat→Value} {σ:AState} {a:Act} {w:World} {id c:Nat} {H':List AObj} {x:AV} (hm:C.P.follows .mixedOrders=true) (hok:CW ops=true) (hc:c<ops.size) (h:Zm C.P ops c σ.heap x H' (dY ops.size) σ)
 (hQ:Q (.panic x) {σ with slots:=MJ ops σ.slots,heap:=H'}) (S:ql C φ σ a w):(Code.region id ops true).wpIn (Dw ro) 0 C.P (QC C Q) a w:=by
 refine wpIn_region_any hm ?_
 refine draw_pan hok hQ ops.size (dY ops.size) _ φ σ a _ (by simp) ⟨eN,by simp,?_,?_⟩ (by simpa using hc) (S.drew _) rfl rfl rfl h
 ·intro i
  simp only[eP]
  constructor
  ·intro hi;exact ⟨hi,getD_replicate_false' _ _⟩
  ·exact fun h=>h.1
 ·intro j o hj hL
  rw[getD_replicate_false'] at hL;cases hL
def FV (tr:List Tr):Bool:=tr.all fun t=>t.e.up.isEmpty&&t.e.nw.isEmpty
def HC (P:Program) (ops:Array Oper) (c:Nat):List Oper→Nat→AState→Prop
 |[],_,_=>True
 |o::rest,j,σ=>match tC ops c j with
  |true=>HC P ops c rest (j+1) (σ.put o.dst (.raw undef))
  |false=>match sH ops o σ with
   |none=>False
   |some false=>HC P ops c rest (j+1) (σ.put o.dst (.raw undef))
   |some true=>qn σ o.op=none∧match n6 P σ o.op with
    |some e=>(e.pre∧e.up=[]∧e.nw=[])∧HC P ops c rest (j+1) (σ.put o.dst e.val)
    |none=>False
theorem E0 {P:Program} {c:Nat} {H H':List AObj} {x:AV}: ∀ (rest:List Oper) (j:Nat) (σ:AState),ops.toList.drop j=rest→c<j→σ.heap=H→HC P ops c rest j σ→Zm P ops c H x H' (e9 j rest.length) σ
 |[],_,_,_,_,_,_=>trivial
 |o::rest,j,σ,hd,hcj,hH,h=>by
  have ho:ops[j]? =some o:=by
   have:=congrArg (fun l:List Oper=>l[0]?) hd
   simpa using this
  have s9:ops.toList.drop (j+1)=rest:=by
   have:=congrArg eM hd
   simpa [ey] using this
  simp only[dK,dw]
  simp only[HC] at h
  split at h
  ·rename_i hor
   exact ⟨o,.raw undef,ho,⟨hH,.inr (.inl hor)⟩,E0 rest (j+1) _ s9 (by omega) (by rw[GD];exact hH) h⟩
  ·split at h
   ·exact h.elim
   ·rename_i hw
    exact ⟨o,.raw undef,ho,⟨hH,.inr (.inr ⟨by omega,{val:= .raw undef},rfl,rfl,rfl,.inl ⟨hw,fun _=>cT⟩⟩)⟩,E0 rest (j+1) _ s9 (by omega) (by rw[GD];exact hH) h⟩
   ·rename_i hw
    obtain ⟨hc,h⟩:=h
    split at h
    ·rename_i e he
     obtain ⟨⟨hp,hu,hn⟩,h⟩:=h
     exact ⟨o,e.val,ho,⟨hH,.inr (.inr ⟨by omega,e,hu,hn,rfl,.inr (.inl ⟨hw,hc,e,he,hp,fun _=>cT⟩)⟩)⟩,E0 rest (j+1) _ s9 (by omega) (by rw[GD];exact hH) h⟩
    ·exact h.elim
end region
end Go.Abs
namespace Go.Abs
def qG.then (next:AState→Prop) (Q:qG→AState→Prop):qG→AState→Prop
 | .normal,σ=>next σ
 |e,σ=>Q e σ
def qG.inBlock (id:Nat) (Q:qG→AState→Prop):qG→AState→Prop
 | .exit id',σ=>if id'=id then Q .normal σ else Q (.exit id') σ
 |e,σ=>Q e σ
def qG.noGoto (Q:qG→AState→Prop):qG→AState→Prop
 | .goto _,_=>False
 |e,σ=>Q e σ
def wL.idle (e:wL):Bool:=e.rd.isEmpty&&e.up.isEmpty&&e.nw.isEmpty&& !e.whole
def CY (tr:List Tr) (j n:Nat) (e:wL):List Tr:=bif e.idle then tr else tr++[⟨j,n,e⟩]
def Bn (ops:Array Oper) (tr:List Tr) (j:Nat) (e:wL):Prop:=e.idle=true∨Bm ops tr j e=true
def Ni (P:Program) (ops:Array Oper) (Q:qG→AState→Prop):List Oper→Nat→List Tr→AState→Prop
 |[],_,_,σ=>Q .normal σ
 |o::rest,j,tr,σ=>match sH ops o σ with
  |none=>False
  |some b=>(b=true→match qn σ o.op with
    |some (f,args)=>(∃r,xY P f args (fun v=>v=r)∧Ni P ops Q rest (j+1) tr (σ.put o.dst r))∨
      (∃e,Ek P f args σ e∧Bn ops tr j e∧Ni P ops Q rest (j+1) (CY tr j σ.heap.length e) (σ.app o.dst e))∨
      ∃x H',W4 P f args σ.heap x H'∧FV tr=true∧HC P ops j rest (j+1) (σ.put o.dst (.raw undef))∧Q (.panic x) {σ with slots:=MJ ops σ.slots,heap:=H'}
    |none=>match n6 P σ o.op with
     |some e=>e.pre∧Bn ops tr j e∧Ni P ops Q rest (j+1) (CY tr j σ.heap.length e) (σ.app o.dst e)
     |none=>False)∧
   (b=false→Ni P ops Q rest (j+1) tr (σ.put o.dst (.raw undef)))
def RangeA (P:Program) (g:Operand) (ps:Array Tmp) (as body:Code) (Q:qG→AState→Prop) (σ:AState):Prop:=
 ∀ (C:Ctx) (φ:Nat→Value) (a:Act) (w:World),C.P=P→ql C φ σ a w→(Code.rangeFunc g ps as body).wpIn (Dw none) 0 P (QC C Q) a w
def xA:Code→Bool
 | .region _ ops _=>ops.toList.all fun o=> !isDefer o.op
 | .seq x y=>xA x&&xA y
 | .cond _ x y=>xA x&&xA y
 | .block _ x=>xA x
 | .loop x=>xA x
 | .scope x=>xA x
 | .rangeFunc _ _ _ _=>false
 |_=>true
def QB (P:Program):Code→(qG→AState→Prop)→AState→Prop
 | .skip,Q,σ=>Q .normal σ
 | .region _ ops false,Q,σ=>Ig P ops ops.toList Q σ
 | .region _ ops true,Q,σ=>(P.follows .mixedOrders=true∧CW ops=true)∧Ni P ops Q ops.toList 0 [] σ
 | .seq x y,Q,σ=>QB P x (qG.then (fun σ1=> ∃σ2,FN σ1 σ2∧QB P y Q σ2) Q) σ
 | .cond c x y,Q,σ=>match σ.ev c with
   | .bool b=>(b=true→QB P x Q σ)∧(b=false→QB P y Q σ)
   |_=>False
 | .block id x,Q,σ=>QB P x (qG.inBlock id Q) σ
 | .loop x,Q,σ=> ∃ (I:Nat→AState→Prop) (n:Nat) (σ':AState),FN σ σ'∧I n σ'∧
     ∀n σ,I n σ→QB P x (qG.then (fun σ1=> ∃n' σ',n'<n∧FN σ1 σ'∧I n' σ') Q) σ
 | .exit id,Q,σ=>Q (.exit id) σ
 | .scope x,Q,σ=>QB P x (qG.noGoto Q) σ
 | .label _,Q,σ=>Q .normal σ
 | .ret,Q,σ=>Q .ret σ
 | .goto _,_,_=>False
 | .rangeFunc g ps as body,Q,σ=>RangeA P g ps as body Q σ
 | .refuse _,_,_=>False
theorem Nj {t:Tr} {e:wL} (h:e.idle=true):zZ t e=true:=by
 unfold wL.idle at h
 simp only[cJ,dr] at h
 obtain ⟨⟨⟨h1,h2⟩,h3⟩,h4⟩:=h
 unfold zZ Dd
 simp at h4
 simp [h1,h2,h3,h4]
theorem Oi {t:Tr} {e:wL} (h:t.e.idle=true):zZ t e=true:=by
 unfold wL.idle at h
 simp only[cJ,dr] at h
 obtain ⟨⟨⟨h1,h2⟩,h3⟩,h4⟩:=h
 unfold zZ Dd
 simp at h4
 simp [h1,h2,h3,h4]
theorem Pt {tr:List Tr} {j n:Nat} {e:wL} (h:FV (CY tr j n e)=true):FV tr=true∧e.up=[]∧e.nw=[]:=by
 unfold CY at h
 cases hi:e.idle with
 |true=>
  rw[hi] at h
  unfold wL.idle at hi
  simp only[cJ,dr] at hi
  exact ⟨h,hi.1.1.2,hi.1.2⟩
 |false=>
  rw[hi] at h
  unfold FV at h ⊢
  simp only[cond_false,List.all_append,List.all_cons,List.all_nil,Bool.and_true,cJ,dr] at h
  exact ⟨h.1,h.2.1,h.2.2⟩
def PanD (P:Program) (ops:Array Oper) (Q:qG→AState→Prop) (j m:Nat) (tr:List Tr) (σ:AState):Prop:=
 FV tr=true∧ ∃c x H',j≤c∧c<j+m∧Zm P ops c σ.heap x H' (e9 j m) σ∧Q (.panic x) {σ with slots:=MJ ops σ.slots,heap:=H'}
theorem PanD.step {P:Program} {ops:Array Oper} {Q:qG→AState→Prop} {j m:Nat} {tr SZ:List Tr} {σ:AState} {o:Oper} {v:AV} (ho:ops[j]? =some o) (ht:FV SZ=true→FV tr=true∧ ∃e:wL,e.up=[]∧e.nw=[]∧e.val=v∧xS P ops o σ (fun e'=>e'=e))
 (h:PanD P ops Q (j+1) m SZ (σ.put o.dst v)):PanD P ops Q j (m+1) tr σ:=by
 obtain ⟨h1,c,x,H',h2,h3,h4,h5⟩:=h
 obtain ⟨k1,k2⟩:=ht h1
 refine ⟨k1,c,x,H',by omega,by omega,?_,?_⟩
 ·rw[dw]
  rw[GD] at h4
  exact ⟨o,v,ho,⟨rfl,.inr (.inr ⟨by omega,k2⟩)⟩,h4⟩
 ·rw[W6 ho] at h5
  cases hd:o.dst<;>rw[hd] at h5<;>exact h5
theorem W7 {σ:AState} {d:Option Tmp} {e:wL} (hu:e.up=[]) (hn:e.nw=[]):σ.app d e=σ.put d e.val:=by
 rw[show σ.app d e=σ.app d {val:=e.val,rd:=e.rd,pre:=e.pre} by simp [AState.app,hu,hn]]
 exact CH _ _ _ _ _
theorem Cu {P:Program} {ops:Array Oper} {Q:qG→AState→Prop}: ∀ (rest:List Oper) (j:Nat) (tr SZ:List Tr) (σ:AState),ops.toList.drop j=rest→(∀t∈SZ,t∈tr∨t.e.idle=true)→
 Ni P ops Q rest j tr σ→M9 P ops (Q .normal) (e9 j rest.length) SZ σ∨PanD P ops Q j rest.length tr σ
 |[],_,_,_,_,_,_,h=> .inl h
 |o::rest,j,tr,SZ,σ,hd,htr,h=>by
  have ho:ops[j]? =some o:=by
   have:=congrArg (fun l:List Oper=>l[0]?) hd
   simpa using this
  have s9:ops.toList.drop (j+1)=rest:=by
   have:=congrArg eM hd
   simpa [ey] using this
  have QD: ∀e,Bn ops tr j e→Bm ops SZ j e=true:=by
   intro e he
   unfold Bm
   rw[cQ]
   intro t ht
   rcases he with he|he
   ·rw[Nj he];rfl
   ·rcases htr t ht with h1|h1
    ·unfold Bm at he
     rw[cQ] at he
     exact he t h1
    ·rw[Oi h1];rfl
  have hpush: ∀n e,∀t∈SZ++[⟨j,n,e⟩],t∈CY tr j n e∨t.e.idle=true:=by
   intro n e t ht
   unfold CY
   rcases cN.1 ht with ht|ht
   ·rcases htr t ht with h1|h1
    ·left
     cases e.idle
     ·exact cN.2 (.inl h1)
     ·exact h1
    ·exact .inr h1
   ·simp only[cP] at ht
    subst ht
    cases hi:e.idle
    ·left;simp
    ·right;rfl
  have hidle: ∀x:AV,({val:=x}:wL).idle=true:=fun _=>rfl
  have hpush': ∀n x,∀t∈SZ++[⟨j,n,{val:=x}⟩],t∈tr∨t.e.idle=true:=by
   intro n x t ht
   have:=hpush n {val:=x} t ht
   simpa [CY,hidle] using this
  simp only[Ni] at h
  simp only[dK]
  split at h
  ·exact h.elim
  ·rename_i b hb
   cases b with
   |false=>
    have hst:xS P ops o σ (fun e=>e={val:= .raw undef}):= .inl ⟨hb,fun _=>cT⟩
    rcases Cu rest (j+1) tr (SZ++[⟨j,σ.heap.length,{val:= .raw undef}⟩]) _ s9 (hpush' _ _) (h.2 rfl) with hl|hr
    ·left
     rw[dw]
     refine ⟨o,_,ho,hst,fun e he=> ?_⟩
     subst he
     refine ⟨QD _ (.inl rfl),?_⟩
     rw[CH];exact hl
    ·exact .inr (hr.step ho fun ht=>⟨ht,_,rfl,rfl,rfl,hst⟩)
   |true=>
    have h:=h.1 rfl
    split at h
    ·rename_i f args hc
     rcases h with ⟨r,hf,hK⟩|⟨e,hf,hcp,hK⟩|⟨x,H',hp,ht,hri,hQ⟩
     ·have hst:xS P ops o σ (fun e=>e={val:=r}):= .inr (.inr (.inl ⟨hb,f,args,_,hc,hf,⟨r,rfl⟩,fun e=>⟨fun he=>⟨r,rfl,he⟩,fun ⟨r',h1,h2⟩=>by rw[h2,h1]⟩⟩))
      rcases Cu rest (j+1) tr (SZ++[⟨j,σ.heap.length,{val:=r}⟩]) _ s9 (hpush' _ _) hK with hl|hr
      ·left
       rw[dw]
       refine ⟨o,_,ho,hst,fun e he=> ?_⟩
       subst he
       refine ⟨QD _ (.inl rfl),?_⟩
       rw[CH];exact hl
      ·exact .inr (hr.step ho fun ht=>⟨ht,_,rfl,rfl,rfl,hst⟩)
     ·have hst:xS P ops o σ (fun e'=>e'=e):= .inr (.inr (.inr ⟨hb,f,args,e,hc,hf,fun _=>cT⟩))
      rcases Cu rest (j+1) _ (SZ++[⟨j,σ.heap.length,e⟩]) _ s9 (hpush _ _) hK with hl|hr
      ·left
       rw[dw]
       refine ⟨o,_,ho,hst,fun e' he=> ?_⟩
       subst he
       exact ⟨QD _ hcp,hl⟩
      ·right
       have ht:=hr.1
       obtain ⟨t1,t2,t3⟩:=Pt ht
       rw[W7 t2 t3] at hr
       exact hr.step ho fun _=>⟨t1,e,t2,t3,rfl,hst⟩
     ·right
      refine ⟨ht,j,x,H',cZ _,by omega,?_,hQ⟩
      rw[dw]
      refine ⟨o,.raw undef,ho,⟨rfl,.inl ⟨rfl,hb,f,args,hc,hp⟩⟩,?_⟩
      exact E0 rest (j+1) _ s9 (by omega) (GD _ _ _) hri
    ·rename_i hc
     split at h
     ·rename_i e he
      have hst:xS P ops o σ (fun e'=>e'=e):= .inr (.inl ⟨hb,hc,e,he,h.1,fun _=>cT⟩)
      rcases Cu rest (j+1) _ (SZ++[⟨j,σ.heap.length,e⟩]) _ s9 (hpush _ _) h.2.2 with hl|hr
      ·left
       rw[dw]
       refine ⟨o,_,ho,hst,fun e' he'=> ?_⟩
       subst he'
       exact ⟨QD _ h.2.1,hl⟩
      ·right
       have ht:=hr.1
       obtain ⟨t1,t2,t3⟩:=Pt ht
       rw[W7 t2 t3] at hr
       exact hr.step ho fun _=>⟨t1,e,t2,t3,rfl,hst⟩
     ·exact h.elim
section sound
variable {C:Ctx}
theorem QC_then {Q:qG→AState→Prop} {next:AState→Prop} {nextC:Act→World→Prop} (h: ∀φ σ a w,ql C φ σ a w→next σ→nextC a w) {e:Exit} {a:Act} {w:World}
 (hq:QC C (qG.then next Q) e a w):Exit.then nextC (QC C Q) e a w:=by
 cases e with
 |normal=>obtain ⟨φ,σ,S,hn⟩:=hq;exact h φ σ a w S hn
 |exit id=>exact hq
 |goto l=>exact hq
 |ret=>exact hq
 |panic chain=>exact hq
 |outgrown=>exact hq
theorem Zo {Q:qG→AState→Prop} {id:Nat} {e:Exit} {a:Act} {w:World} (hq:QC C (qG.inBlock id Q) e a w):Exit.inBlock id (QC C Q) e a w:=by
 cases e with
 |exit id'=>
  obtain ⟨φ,σ,S,h⟩:=hq
  simp only[qG.inBlock] at h
  simp only[Exit.inBlock]
  split at h
  ·rename_i e;rw[if_pos e];exact ⟨φ,σ,S,h⟩
  ·rename_i e;rw[if_neg e];exact ⟨φ,σ,S,h⟩
 |normal=>exact hq
 |goto l=>exact hq
 |ret=>exact hq
 |panic chain=>exact hq
 |outgrown=>exact hq
theorem QC_noGoto {Q:qG→AState→Prop} {e:Exit} {a:Act} {w:World} (hq:QC C (qG.noGoto Q) e a w):Exit.noGoto (QC C Q) e a w:=by
 cases e with
 |goto l=>obtain ⟨φ,σ,S,h⟩:=hq;exact h.elim
 |normal=>exact hq
 |exit id=>exact hq
 |ret=>exact hq
 |panic chain=>exact hq
 |outgrown=>exact hq
theorem Vx {F:Fence} {n:Nat} {P:Program} {Q:Exit→Act→World→Prop} {a:Act} {w:World} {c:Code} (I:Nat→Act→World→Prop) (n₀:Nat) (h₀:I n₀ a w)
 (round: ∀m a w,I m a w→c.wpIn F n P (Exit.then (fun a' w'=> ∃m',m'<m∧I m' a' w') Q) a w):(Code.loop c).wpIn F n P Q a w:=by
 refine wpIn_loop (fun a w=> ∃m,I m a w) (fun a w=>leastOf (fun m=>I m a w)) ⟨n₀,h₀⟩ ?_
 intro a w hI
 refine wpIn_mono (round _ a w (leastOf_spec hI).1) ?_
 intro e a' w' hq
 cases e with
 |normal=>
  obtain ⟨m',hlt,hI'⟩:=hq
  exact ⟨⟨m',hI'⟩,Nat.lt_of_le_of_lt ((leastOf_spec ⟨m',hI'⟩).2 m' hI') hlt⟩
 |exit id=>exact hq
 |goto l=>exact hq
 |ret=>exact hq
 |panic chain=>exact hq
 |outgrown=>exact hq
theorem Dg {P:Program} {b:Frame} {a:Act} {k:List Item} {cs:List Frame} {w:World} {c:Code}:step P (lone (b.atR a (.code (.scope c)::k)) cs w)= .next (lone (b.atR a (.code c:: .inScope c::k)) cs w):=
 step_lone_go (by simp [stepG,stepG.exec,Frame.atR])
theorem S8 {P:Program} {b:Frame} {a:Act} {k:List Item} {cs:List Frame} {w:World} {c:Code}:step P (lone (b.atR a (.inScope c::k)) cs w)= .next (lone (b.atR a k) cs w):=
 step_lone_go (by simp [stepG,stepG.exec,Frame.atR])
theorem Oj {F:Fence} {n:Nat} {P:Program} {Q:Exit→Act→World→Prop} {a:Act} {w:World} {c:Code} (h:c.wpIn F n P (Exit.noGoto Q) a w):(Code.scope c).wpIn F n P Q a w:=by
 intro b k cs hro hb hr
 have h0:(lone (b.atR a (.code (.scope c)::k)) cs w).fenced P F:=fenced_calm (fr:=b.atR a (.code (.scope c)::k)) hb hr rfl
 obtain ⟨e,a₁,w₁,hq,S9⟩:=h b (.inScope c::k) cs hro hb hr
 cases e with
 |normal=>exact ⟨.normal,a₁,w₁,hq,.head h0 Dg (StepsIn.trans S9 (.one (fenced_calm (fr:=b.atR a₁ (.inScope c::k)) hb hr rfl) S8))⟩
 |exit id=>
  have hx:exitTo id (.inScope c::k)=exitTo id k:=by simp [exitTo]
  exact ⟨.exit id,a₁,w₁,hq,fun k' hk=> .head h0 Dg (S9.1 k' (by rw[hx];exact hk)),
   fun hr' hk=>let ⟨k₁,h1,h2⟩:=S9.2 hr' (by rw[hx];exact hk);⟨k₁,h1,.head h0 Dg h2⟩⟩
 |goto l=>exact hq.elim
 |ret=>exact ⟨.ret,a₁,w₁,hq,.of_steps (.one h0 Dg) S9⟩
 |panic ch=>exact ⟨_,a₁,w₁,hq,.of_steps (.one h0 Dg) S9⟩
 |outgrown=>exact ⟨_,a₁,w₁,hq,.of_steps (.one h0 Dg) S9⟩
theorem yw {ro:Option Nat}: ∀ (c:Code) (Q:qG→AState→Prop) (φ:Nat→Value) (σ:AState) (a:Act) (w:World),(ro=none∨xA c=true)→QB C.P c Q σ→ql C φ σ a w→c.wpIn (Dw ro) 0 C.P (QC C Q) a w
 | .skip,Q,φ,σ,a,w,_,h,S=>wpIn_skip ⟨φ,σ,S,h⟩
 | .region id ops false,Q,φ,σ,a,w,hn,h,S=>by
   have:=M7 (ro:=ro) rfl ops.toList 0 hn (by simp) φ σ a w h S
   refine wpIn_region ?_
   rw[ew]
   simpa using this
 | .region id ops true,Q,φ,σ,a,w,_,h,S=>by
   obtain ⟨⟨hm,hok⟩,h⟩:=h
   rcases Cu ops.toList 0 [] [] σ (by simp) (by simp) h with this|⟨_,c,x,H',_,hc,hI,hQ⟩
   ·refine Zl hm hok ?_ S
    rw[ew]
    simpa using this
   ·refine Zn (c:=c) (x:=x) (H':=H') hm hok (by simpa using hc) ?_ hQ S
    rw[ew]
    simpa using hI
 | .seq x y,Q,φ,σ,a,w,hn,h,S=>
   wpIn_seq (wpIn_mono (yw x _ φ σ a w (hn.imp id fun h=>(cJ _ _ ▸ h:xA x=true∧xA y=true).1) h S) fun _ _ _ hq=>QC_then (fun φ' σ' a' w' S' h'=>by
    obtain ⟨σ2,himp,h2⟩:=h'
    obtain ⟨φ2,S2⟩:=himp C φ' a' w' S'
    exact yw y Q φ2 σ2 a' w' (hn.imp id fun h=>(cJ _ _ ▸ h:xA x=true∧xA y=true).2) h2 S2) hq)
 | .cond c x y,Q,φ,σ,a,w,hn,h,S=>by
   simp only[QB] at h
   have hc:=S.ev c
   split at h
   ·rename_i b hb
    rw[hb] at hc
    simp only[rE] at hc
    refine wpIn_cond hc ?_
    cases b with
    |true=>exact yw x Q φ σ a w (hn.imp id fun h=>(cJ _ _ ▸ h:xA x=true∧xA y=true).1) (h.1 rfl) S
    |false=>exact yw y Q φ σ a w (hn.imp id fun h=>(cJ _ _ ▸ h:xA x=true∧xA y=true).2) (h.2 rfl) S
   ·exact h.elim
 | .block id x,Q,φ,σ,a,w,hn,h,S=>wpIn_block (wpIn_mono (yw x _ φ σ a w hn h S) fun _ _ _ hq=>Zo hq)
 | .loop x,Q,φ,σ,a,w,hn,h,S=>by
   obtain ⟨I,n,σ',himp,hI,hround⟩:=h
   obtain ⟨φ',S'⟩:=himp C φ a w S
   refine Vx (fun n a w=> ∃φ σ,I n σ∧ql C φ σ a w) n ⟨φ',σ',hI,S'⟩ ?_
   rintro n a w ⟨φ,σ,hI,S⟩
   refine wpIn_mono (yw x _ φ σ a w hn (hround n σ hI) S) fun _ _ _ hq=>QC_then ?_ hq
   rintro φ1 σ1 a1 w1 S1 ⟨n',σ2,hlt,himp,hI'⟩
   obtain ⟨φ2,S2⟩:=himp C φ1 a1 w1 S1
   exact ⟨n',hlt,φ2,σ2,hI',S2⟩
 | .exit id,Q,φ,σ,a,w,_,h,S=>wpIn_exit ⟨φ,σ,S,h⟩
 | .scope x,Q,φ,σ,a,w,hn,h,S=>Oj (wpIn_mono (yw x _ φ σ a w hn h S) fun _ _ _ hq=>QC_noGoto hq)
 | .label l,Q,φ,σ,a,w,_,h,S=>wpIn_label ⟨φ,σ,S,h⟩
 | .ret,Q,φ,σ,a,w,_,h,S=>wpIn_ret ⟨φ,σ,S,h⟩
 | .goto l,Q,φ,σ,a,w,_,h,S=>h.elim
 | .rangeFunc f p x y,Q,φ,σ,a,w,hn,h,S=>by
   rcases hn with rfl|hn
   ·exact h C φ a w rfl S
   ·cases hn
 | .refuse s,Q,φ,σ,a,w,_,h,S=>h.elim
theorem ql.Nk {φ:Nat→Value} {σ:AState} {tmps:Array Value} {D:Nat} {ds:List Deferred} {w:World} (S:ql C φ σ {tmps,defers:=⟨.collected D,#[]⟩::ds} w):
 w.heap[D]? =some (.deferred (some []))∧ql C φ σ {tmps,defers:=ds} (w.putObj D (.deferred none)):=by
 obtain ⟨hnd,hall,hrd⟩:=S.defers
 have hmk:MZ (⟨.collected D,#[]⟩:Deferred)=true:=rfl
 simp only[eL,hmk,if_true,eD,dG,if_false] at hnd hrd
 obtain ⟨D',hD,h1,h2,h3⟩:=hall _ (eB) rfl
 simp only[Deferred.mk.injEq,Target.collected.injEq,and_true] at hD
 subst hD
 refine ⟨h1,?_⟩
 have x8: ∀b,b≠D→(w.putObj D (.deferred none)).heap[b]? =w.heap[b]? :=fun b hb=>World.putObj_heap_other hb
 have hcell: ∀b o,(w.putObj D (.deferred none)).cell? ⟨b,o,none⟩=w.cell? ⟨b,o,none⟩:=by
  intro b o
  by_cases e:b=D
  ·subst e
   simp only[World.cell?,h1,World.putObj_heap_same (cW.1 h1).1]
  ·simp only[World.cell?,x8 b e]
 have le:(C.env φ σ.heap w).Le σ.heap.length (C.env φ σ.heap (w.putObj D (.deferred none))):=
  Ctx.zY (cZ _) (fun _ _=>⟨rfl,rfl⟩) (fun b o u hm hc=>⟨hm,by rw[hcell];exact hc⟩)
 have Az:uT C φ σ.heap (w.putObj D (.deferred none)) σ.df ds:=by
  rw[List.nodup_cons] at hnd
  refine ⟨hnd.2,fun d hd hm=> ?_,hrd.mono le⟩
  obtain ⟨D',e,g1,g2,g3⟩:=hall d (List.mem_cons_of_mem _ hd) hm
  refine ⟨D',e,?_,g2,g3⟩
  rw[x8 D' (fun e'=>hnd.1 (dU.2 ⟨by subst e';rw[←e];exact hd,rfl⟩))];exact g1
 refine {slots:=nj.mono le _ _ (nj.nb _ _ S.slots) S.slots,defers:=Az,objs:= ?_,apart:=S.apart,vE:=S.vE,size:=by rw[World.putObj_size];exact S.size,old:=fun b o hb hm=>by rw[hcell];exact S.old b o hb hm,qM:= ?_,Be:=S.Be,wZ:= ?_,rest:=S.rest,low:=S.low,names:=S.names}
 ·intro l x hx
  exact qQ.mono (S.objs l x hx) le (fun b hb=>x8 b (fun e=>by subst e;exact h3 l x hx hb))
 ·intro b hb hm
  rw[x8 b (by omega)];exact S.qM b hb hm
 ·intro x hx
  rw[←S.wZ x hx]
  by_cases e:x.block=D
  ·simp only[World.frozen?]
   rw[e,h1,World.putObj_heap_same (cW.1 h1).1]
  ·simp only[World.frozen?]
   rw[x8 x.block e]
theorem ql.marks {fn:Func} {R:Ending→World→Prop} {u:FrameMode} {φ:Nat→Value} {σ:AState} {tmps tm:Array Value} (hu:u≠ .run) (hdf:σ.df=[]): ∀ (ds:List Deferred) (w:World),ql C φ σ {tmps,defers:=ds} w→
 (∀w',ql C φ σ {tmps,defers:=[]} w'→LeavesIn dZ 0 C.P fn tm R [] u w')→LeavesInM dZ 0 C.P fn tm R ds u w
 |[],w,S,h=>h w S
 |d::ds,w,S,h=>by
  have hm:MZ d=true:=by
   have:=S.defers.2.2
   rw[hdf] at this
   have Zp:(d::ds).filter (fun d=> !MZ d)=[]:=this
   rw[List.filter_eq_nil_iff] at Zp
   simpa using Zp d (eB)
  obtain ⟨D,hD,_⟩:=S.defers.2.1 d (eB) hm
  subst hD
  obtain ⟨h1,S'⟩:=S.Nk
  exact ⟨hu,.inl ⟨D,_,rfl,run_takeDeferred h1,ql.marks hu hdf ds _ S' h⟩⟩
end sound
def Rg (P:Program) (σ:AState):ResultVar→Option AV
 | .tmp t=>some (σ.slots.getD t .any)
 | .cell d t=>match so P t,σ.slots.getD d .any with
   |some (g,n),.ptr l off=>match σ.heap[l]? with
    |some (.cells cs)=>qF g n (cs.drop off)
    |_=>none
   |_,_=>none
def zO (P:Program) (σ:AState):List ResultVar→Option (List AV)
 |[]=>some []
 |r::rs=>match Rg P σ r,zO P σ rs with
  |some x,some xs=>some (x::xs)
  |_,_=>none
def F9 (P:Program) (σ:AState) (rs:List ResultVar):Option AV:=
 match zO P σ rs with
 |some [x]=>some x
 |some xs=>some (.tup xs)
 |none=>none
section results
variable {C:Ctx} {φ:Nat→Value} {σ:AState} {a:Act} {w:World}
theorem Vy (S:ql C φ σ a w) {r:ResultVar} {x:AV} (h:Rg C.P σ r=some x):
 ∃v,(match r with| .tmp t=>pure (a.tmps.getD t undef)| .cell d t=>(do loadVar t (←asAddr (a.tmps.getD d undef))):Sem Value).run C.P w= .ok v w∧rE (C.env φ σ.heap w) x v:=by
 cases r with
 |tmp t=>
  simp only[Rg,cH] at h
  subst h
  exact ⟨_,rfl,S.ev (.tmp t)⟩
 |cell d t=>
  simp only[Rg] at h
  have hd:=S.ev (.tmp d)
  simp only[AState.ev] at hd
  split at h
  ·rename_i g n l off ht hp
   rw[hp] at hd
   split at h
   ·rename_i cs hl
    obtain ⟨u,hu,ru⟩:=WR S ht hl h hd
    obtain ⟨_,b,_,hv⟩:=hd
    refine ⟨u,?_,ru⟩
    have hv':a.tmps.getD d undef= .pointer (some ⟨b,off,none⟩):=hv
    rw[show a.eval (.tmp d)=a.tmps.getD d undef from rfl,hv'] at hu
    simp only[hv',asAddr,Sem.run_bind,Sem.run_pure,Result.andThen_ok]
    simpa [Instr.loadAt,Instr.sureAddr] using hu
   ·cases h
  ·cases h
theorem L5 (S:ql C φ σ a w): ∀ {rs:List ResultVar} {xs:List AV},zO C.P σ rs=some xs→
 ∃vs:List Value,(rs.mapM fun| .tmp t=>pure (a.tmps.getD t undef)| .cell d t=>(do loadVar t (←asAddr (a.tmps.getD d undef))):Sem (List Value)).run C.P w= .ok vs w∧nj (C.env φ σ.heap w) xs vs
 |[],_,h=>by simp only[zO,cH] at h;subst h;exact ⟨[],rfl,rfl⟩
 |r::rs,xs,h=>by
  simp only[zO] at h
  split at h
  ·rename_i x ys h1 h2
   cases h
   obtain ⟨v,hv,rv⟩:=Vy S h1
   obtain ⟨vs,hvs,rvs⟩:=L5 S h2
   refine ⟨v::vs,?_,v,vs,rfl,rv,rvs⟩
   rw[List.mapM_cons]
   simp only[Sem.run_bind,hv,hvs,Result.andThen_ok,Sem.run_pure]
  ·cases h
theorem HD (S:ql C φ σ a w) {fn:Func} {x:AV} (h:F9 C.P σ fn.results.toList=some x): ∃v,(results fn a.tmps).run C.P w= .ok v w∧rE (C.env φ σ.heap w) x v:=by
 unfold F9 at h
 have key: ∀xs,zO C.P σ fn.results.toList=some xs→ ∃vs:List Value,(results fn a.tmps).run C.P w= .ok (if hh:vs.toArray.size=1 then vs.toArray[0] else .tuple vs.toArray) w∧nj (C.env φ σ.heap w) xs vs:=by
  intro xs hx
  obtain ⟨vs,hvs,rvs⟩:=L5 S hx
  refine ⟨vs,?_,rvs⟩
  unfold results
  rw[Array.mapM_eq_mapM_toList]
  simp only[Sem.run_bind,Sem.run_map,Sem.run_pure]
  generalize hq:Sem.run C.P (List.mapM _ fn.results.toList) w=q
  have hq':q= .ok vs w:=by rw[←hq];exact hvs
  subst hq'
  simp
 split at h
 ·rename_i y hy
  cases h
  obtain ⟨vs,hv,u,us,rfl,r1,r2⟩:=key _ hy
  simp only[nj] at r2
  subst r2
  exact ⟨_,hv,by simpa using r1⟩
 ·rename_i xs hne hx
  cases h
  obtain ⟨vs,hv,rl⟩:=key _ hx
  refine ⟨_,hv,?_⟩
  have hlen:=rl.length
  have hn1: ¬ vs.toArray.size=1:=by
   intro h1
   have h2:xs.length=1:=by simp at h1;omega
   match xs,h2 with
   |[y],_=>exact hne y rfl
  rw[dif_neg hn1]
  exact ⟨vs.toArray,rfl,rl⟩
 ·cases h
end results
theorem Nl {P:Program} {f:FuncId} {args args':List AV} {V:AV→Prop} (h:xY P f args' V) (hs:tD args args') (hn:nbL 0 args):xY P f args V:=by
 obtain ⟨he,_,hc⟩:=h
 exact ⟨he,hn,fun C φ w hP h0 hN hM vs hr=>hc C φ w hP h0 hN hM vs (hs _ _ hr)⟩
def endV (V:AV→Prop) (H:List AObj):Option AV→Prop
 |some x=>(Pq 0 H x).nb 0∧ ∃r,Sub (Pq 0 H x) r∧V r
 |none=>False
def retPost (P:Program) (rs:List ResultVar) (V:AV→Prop):qG→AState→Prop
 | .normal,σ=>σ.df=[]∧endV V σ.heap (F9 P σ rs)
 | .ret,σ=>σ.df=[]∧endV V σ.heap (F9 P σ rs)
 |_,_=>False
theorem W8 {P:Program} {f:FuncId} {fn:Func} {c:Code} {args:List AV} {V:AV→Prop} (hf:P.funcs[f]? =some fn) (hb:fn.body=some c) (hne:(fn.name != "runtime.NumGoroutine")=true) (hnb:nbL 0 args)
 (h:QB P c (retPost P fn.results.toList V) {slots:=args++eR (fn.ntmps-args.length) .any,heap:=[]}):xY P f args V:=by
 refine ⟨?_,hnb,fun C φ w hP h0 hN hM vs hr=> ?_⟩
 ·unfold enters;rw[hf];simp only[hb,Option.isSome_some,Bool.true_and];exact hne
 ·subst hP
  refine (callsIn_wide (n:=0)).1 (callsIn_of_wp_marks hf hb trivial ?_)
  have hsz:vs.size=args.length:=by have:=hr.length;simpa using this
  have S:ql C φ {slots:=args++eR (fn.ntmps-args.length) .any,heap:=[]} {tmps:=vs++dx (fn.ntmps-vs.size) undef,defers:=[]} w:=by
   refine {slots:= ?_,defers:=uT.nil,objs:=by simp,apart:=by simp,vE:=by simp,size:=by rw[h0];exact cZ _,old:=fun b o _ _=>by rw[h0],qM:=fun b _ _=>by rw[h0],Be:=by simp,wZ:=fun x _=>by rw[h0],rest:=by rw[h0];exact ⟨rfl,rfl⟩,low:=⟨hN,cZ _⟩,names:=fun l hl=>by rw[hN] at hl;exact absurd hl (dg _)}
   simp only[eX,Array.toList_replicate]
   refine hr.append ?_
   rw[hsz]
   have:=nj.Cr (E:=C.env φ [] w) (eR (fn.ntmps-args.length) undef)
   simpa using this
  refine wpIn_mono (yw (ro:=none) c _ φ _ _ w (.inl rfl) h S) ?_
  intro e a' w' hq
  have fin: ∀φ' σ',ql C φ' σ' a' w'→σ'.df=[]∧endV V σ'.heap (F9 C.P σ' fn.results.toList)→
   LeavesInM dZ 0 C.P fn a'.tmps (fun e w'=> ∃r v φ',V r∧e= .returned v∧rE (C.env φ' [] w') r v∧w.heap.size≤w'.heap.size∧(∀b,b<w.heap.size→w'.heap[b]? =w.heap[b]?)∧
    (∀x,x.block<w.heap.size→w'.frozen? x=w.frozen? x)∧w'.output=w.output∧w'.os=w.os) a'.defers .returning w':=by
   intro φ' σ' S' ⟨hdf,hend⟩
   refine ql.marks (by simp) hdf _ _ S' (fun w' S'=> ?_)
   cases hx:F9 C.P σ' fn.results.toList with
   |none=>rw[hx] at hend;exact hend.elim
   |some x=>
   rw[hx] at hend
   obtain ⟨hn,r0,hsub,hV⟩:=hend
   obtain ⟨v,hv,rv⟩:=HD S' hx
   refine ⟨v,hv,_,v,φ',hV,rfl,hsub _ _ (by have:=Of S' (S'.drops (by rw[←S'.low.1];exact hN)) x v;rw[←S'.low.1,hN] at this;exact this hn rv),?_,?_,?_,?_⟩
   ·rw[←h0];exact S'.size
   ·intro b hb;rw[←h0];exact S'.qM b (by rw[h0];exact hb) (fun o=>hM b o)
   ·intro y hy;rw[←h0];exact S'.wZ y (by rw[h0];exact hy)
   ·rw[←h0];exact S'.rest
  cases e with
  |normal=>obtain ⟨φ',σ',S',hq⟩:=hq;exact fin φ' σ' S' hq
  |ret=>obtain ⟨φ',σ',S',hq⟩:=hq;exact fin φ' σ' S' hq
  |exit id=>obtain ⟨_,_,_,hq⟩:=hq;exact hq.elim
  |goto l=>obtain ⟨_,_,_,hq⟩:=hq;exact hq.elim
  |panic chain=>obtain ⟨_,_,_,_,_,hq,_⟩:=hq;exact hq.elim
  |outgrown=>exact hq.elim
end Go.Abs
namespace Go.Abs
section co
variable {H:List AObj} {n:Nat}
theorem Uz.sub {x y:AV} (h:Sub x y) (hn:y.nb n):Uz H n x y:= .inl ⟨h,hn⟩
theorem Co.any {x:AV}:Co H n x .any:= .inl (.inl ⟨Sub.any _,trivial⟩)
theorem Co.same {x:AV} (h:x.nb n):Co H n x x:= .inl (.inl ⟨Sub.refl _,h⟩)
theorem Co.sub {x y:AV} (h:Sub x y) (hn:y.nb n):Co H n x y:= .inl (.inl ⟨h,hn⟩)
theorem AE.nil:AE H n [] []:=rfl
theorem AE.cons {x y:AV} {xs ys:List AV} (h:Co H n x y) (hs:AE H n xs ys):AE H n (x::xs) (y::ys):=⟨y,ys,rfl,h,hs⟩
theorem AE.any {x:AV} {xs ys:List AV} (hs:AE H n xs ys):AE H n (x::xs) (.any::ys):=⟨.any,ys,rfl,Co.any,hs⟩
theorem Lr.nil {xs:List AObj}:Lr H n xs []:=by cases xs<;>trivial
theorem Lr.same {x:AObj} {xs ys:List AObj} (h:objNb n x) (hs:Lr H n xs ys):Lr H n (x::xs) (x::ys):=⟨.inr (.inl ⟨rfl,h⟩),hs⟩
theorem Lr.cells {cs ds:List AV} {xs ys:List AObj} (h:AE H n cs ds) (hs:Lr H n xs ys):Lr H n (.cells cs::xs) (.cells ds::ys):=⟨.inr (.inr (.inl ⟨cs,ds,rfl,rfl,h⟩)),hs⟩
theorem Lr.dead {x:AObj} {xs ys:List AObj} (hs:Lr H n xs ys):Lr H n (x::xs) (.dead::ys):=⟨.inl rfl,hs⟩
theorem AE.same {xs:List AV} (h:nbL n xs):AE H n xs xs:=by
 induction xs with
 |nil=>rfl
 |cons x xs ih=>exact AE.cons (Co.same h.1) (ih h.2)
end co
theorem Nn {P:Program} {σ:AState} {f:FuncId} {args args':List AV} {X:AV} {n:Nat} (h:xY P f args' (fun r=>r=X)) (hs:AE σ.heap n args args'):AZ P f args σ (fun o H=>o= .ret X∧H=σ.heap):=by
 obtain ⟨he,hc⟩:=JB (σ:=σ) (K:=fun o H=>o= .ret X∧H=σ.heap) h (fun r hr=>⟨by rw[hr],rfl⟩)
 exact ⟨he,fun C φ a w hP S vs hr=>hc C φ a w hP S vs (AE.repS S hs hr)⟩
end Go.Abs
namespace Go.Abs
def stP:Option Code→LoopState
 |none=> .ready
 |some _=> .done
theorem Vz (c:Option Code):stP c≠ .busy:=by cases c<;>simp [stP]
section
variable {C:Ctx} {φ:Nat→Value} {σ:AState} {a:Act} {w:World}
theorem ql.nameLoop (S:ql C φ σ a w) (k:xR) (rec:Loop) {slots:List AV} (hs:nj (C.env φ σ.heap w) slots rec.tmps.toList)
 (Ih:rec.params=k.ps∧rec.assign=k.assign∧rec.body=k.body∧rec.state= .ready∧rec.pending=none∧rec.defers=w.heap.size):
 ql C (fun l=>if l=σ.heap.length then .func (.yield (w.heap.size+1)) #[] #[] else φ l) {σ with heap:=σ.heap++[.loop k slots .ready 0]} a ((w.alloc (.deferred (some []))).alloc (.loop rec)):=by
 let φ':Nat→Value:=fun l=>if l=σ.heap.length then .func (.yield (w.heap.size+1)) #[] #[] else φ l
 let w':=(w.alloc (.deferred (some []))).alloc (.loop rec)
 have hφ: ∀l,l<σ.heap.length→φ' l=φ l:=fun l hl=>by simp only[φ'];rw[if_neg (by omega)]
 have hφn:φ' σ.heap.length= .func (.yield (w.heap.size+1)) #[] #[]:=by simp [φ']
 have hsz:w'.heap.size=w.heap.size+2:=by
  show (World.more (World.more w _) _).heap.size=_
  rw[Gr,Gr]
 have hold: ∀b,b<w.heap.size→w'.heap[b]? =w.heap[b]? :=by
  intro b hb
  show (World.more (World.more w _) _).heap[b]? =_
  rw[wG _ _ (by rw[Gr];omega),wG _ _ hb]
 have hD:w'.heap[w.heap.size]? =some (.deferred (some [])):=by
  show (World.more (World.more w _) _).heap[_]? =_
  rw[wG _ _ (by simp [World.more]),Cs]
 have hL:w'.heap[w.heap.size+1]? =some (.loop rec):=by
  have:=Cs (World.more w (.deferred (some []))) (.loop rec)
  rw[Gr] at this;exact this
 have qb: ∀ (l:Nat) (x:AObj),(σ.heap++[.loop k slots .ready 0])[l]? =some x→(l<σ.heap.length∧σ.heap[l]? =some x)∨(l=σ.heap.length∧x= .loop k slots .ready 0):=by
  intro l x hx
  by_cases hl:l<σ.heap.length
  ·rw[cO hl] at hx;exact .inl ⟨hl,hx⟩
  ·rw[c9 (by omega)] at hx
   have hz:l-σ.heap.length=0:=by
    by_cases e:l-σ.heap.length=0
    ·exact e
    ·rw[List.getElem?_eq_none (by simp;omega)] at hx;cases hx
   rw[hz] at hx;simp at hx
   exact .inr ⟨by omega,hx.symm⟩
 have hcell: ∀b o,b<w.heap.size→w'.cell? ⟨b,o,none⟩=w.cell? ⟨b,o,none⟩:=by
  intro b o hb;simp only[World.cell?,hold b hb]
 have hnb: ∀b,(AObj.loop k slots .ready 0).block (φ' σ.heap.length) b→w.heap.size≤b:=by
  intro b hb
  rw[hφn] at hb
  rcases hb with rfl|hb<;>omega
 have BZ: ∀b o,Cg φ' (σ.heap++[.loop k slots .ready 0]) b o→w.heap.size≤b∨Cg φ σ.heap b o:=by
  rintro b o ⟨l,x,hx,hm⟩
  rcases qb l x hx with ⟨hl,hx⟩|⟨rfl,rfl⟩
  ·rw[hφ l hl] at hm;exact .inr ⟨l,x,hx,hm⟩
  ·exact .inl (hnb b (AObj.qU hm))
 have le:(C.env φ σ.heap w).Le σ.heap.length (C.env φ' (σ.heap++[.loop k slots .ready 0]) w'):=by
  refine Ctx.zY (by simp) (fun l hl=>⟨hφ l hl,by rw[cO hl]⟩) (fun b i u hm hc=> ?_)
  have hb:=CG hc
  refine ⟨fun h=> ?_,by rw[hcell b i hb];exact hc⟩
  rcases h with h|h
  ·rcases BZ b i h with e|h
   ·omega
   ·exact hm (.inl h)
  ·exact hm (.inr h)
 have Az:uT C φ' (σ.heap++[.loop k slots .ready 0]) w' σ.df a.defers:=by
  refine S.defers.step le (fun b hb _=>hold b hb) (fun l x b hx hb=> ?_)
  rcases qb l x hx with ⟨hl,hx⟩|⟨rfl,rfl⟩
  ·rw[hφ l hl] at hb;exact .inl ⟨l,x,hx,hb⟩
  ·exact .inr (hnb b hb)
 refine {slots:=nj.mono le _ _ (nj.nb _ _ S.slots) S.slots,defers:=Az,objs:= ?_,apart:= ?_,vE:= ?_,size:=by show _≤w'.heap.size;have:=S.size;omega,old:= ?_,qM:= ?_,Be:= ?_,wZ:= ?_,rest:=S.rest,low:=⟨S.low.1,by have:=S.low.2;simp;omega⟩,names:= ?_}
 ·intro l x hx
  show qQ _ x (φ' l)
  rcases qb l x hx with ⟨hl,hx⟩|⟨rfl,rfl⟩
  ·have r0:=S.objs l x hx
   rw[hφ l hl]
   exact qQ.mono r0 le (fun b hb=>hold b (r0.tB hb))
  ·rw[hφn]
   exact ⟨w.heap.size,rec,rfl,hL,hD,Ih,nj.mono le _ _ (nj.nb _ _ hs) hs⟩
 ·intro l l' x x' b hx hx' hb hb'
  have hb:x.block (φ' l) b:=hb
  have hb':x'.block (φ' l') b:=hb'
  rcases qb l x hx with ⟨hl,hx⟩|⟨rfl,rfl⟩<;>rcases qb l' x' hx' with ⟨hl',hx'⟩|⟨rfl,rfl⟩
  ·rw[hφ l hl] at hb
   rw[hφ l' hl'] at hb'
   exact S.apart l l' x x' b hx hx' hb hb'
  ·rw[hφ l hl] at hb
   have h1:=(S.objs l x hx).tB hb
   have h2:=hnb b hb'
   simp only[Ctx.env] at h1;omega
  ·rw[hφ l' hl'] at hb'
   have h1:=(S.objs l' x' hx').tB hb'
   have h2:=hnb b hb
   simp only[Ctx.env] at h1;omega
  ·rfl
 ·intro l x b o hx hb
  have hb:x.block (φ' l) b:=hb
  rcases qb l x hx with ⟨hl,hx⟩|⟨rfl,rfl⟩
  ·rw[hφ l hl] at hb
   exact S.vE l x b o hx hb
  ·intro hA
   have h1:=C.hA _ _ hA
   have h2:=hnb b hb
   have:=S.size;omega
 ·intro b i hb hm;rw[hcell b i (cX hb S.size)];exact S.old b i hb hm
 ·intro b hb hm;rw[hold b (cX hb S.size)];exact S.qM b hb hm
 ·intro l x b o hx hm hb
  have hm:x.muts (φ' l) b o:=hm
  rcases qb l x hx with ⟨hl,hx⟩|⟨rfl,rfl⟩
  ·rw[hφ l hl] at hm
   exact S.Be l x b o hx hm hb
  ·have h2:=hnb b (AObj.qU hm)
   have:=S.size;omega
 ·intro x hx
  have h1:=zf (World.more w (.deferred (some []))) (.loop rec) (by intro c t lo hi h;cases h) x
  have h2:=zf w (.deferred (some [])) (by intro c t lo hi h;cases h) x
  exact (h1.trans h2).trans (S.wZ x hx)
 ·intro l hl
  have hlt:l<σ.heap.length:=by have:=S.low;omega
  have:=S.names l hl
  rw[cO hlt]
  show (φ' l=_∧_)∨_
  rw[hφ l hlt];exact this
theorem ql.VA (S:ql C φ σ a w) {l D:Nat} {k:xR} {slots:List AV} {st st':LoopState} {uW Fl:Int} {rec:Loop} (hl:σ.heap[l]? =some (.loop k slots st uW)) (hφ:φ l= .func (.yield (D+1)) #[] #[])
 (hw:w.heap[D+1]? =some (.loop rec)):ql C φ {σ with heap:=σ.heap.set l (.loop k slots st' Fl)} a (w.putObj (D+1) (.loop {rec with state:=st',pending:=sQ k.js Fl})):=by
 have hlt:l<σ.heap.length:=(cM.1 hl).1
 have Q0:=(cW.1 hw).1
 have qb: ∀ (j:Nat) (x:AObj),(σ.heap.set l (.loop k slots st' Fl))[j]? =some x→(j=l∧x= .loop k slots st' Fl)∨(j≠l∧σ.heap[j]? =some x):=by
  intro j x hx
  by_cases e:j=l
  ·subst e;rw[dc hlt] at hx;cases hx;exact .inl ⟨rfl,rfl⟩
  ·rw[cY (fun h=>e h.symm)] at hx;exact .inr ⟨e,hx⟩
 have hbb:(AObj.loop k slots st uW).block (φ l) (D+1):=by rw[hφ];exact .inl rfl
 have hmb: ∀o,(AObj.loop k slots st uW).muts (φ l) (D+1) o:=by intro o;rw[hφ];exact .inl rfl
 have x8: ∀b,b≠D+1→(w.putObj (D+1) (.loop {rec with state:=st',pending:=sQ k.js Fl})).heap[b]? =w.heap[b]? :=fun b hb=>World.putObj_heap_other hb
 have hcell: ∀b o,(w.putObj (D+1) (.loop {rec with state:=st',pending:=sQ k.js Fl})).cell? ⟨b,o,none⟩=w.cell? ⟨b,o,none⟩:=by
  intro b o
  by_cases e:b=D+1
  ·subst e;simp only[World.cell?,hw,World.putObj_heap_same Q0]
  ·simp only[World.cell?,x8 b e]
 have By: ∀b,(AObj.loop k slots st' Fl).block (φ l) b→(AObj.loop k slots st uW).block (φ l) b:=by intro b hb;rw[hφ] at hb ⊢;exact hb
 have WQ: ∀b o,(AObj.loop k slots st' Fl).muts (φ l) b o→(AObj.loop k slots st uW).muts (φ l) b o:=by intro b o hb;rw[hφ] at hb ⊢;exact hb
 have BZ: ∀b o,Cg φ (σ.heap.set l (.loop k slots st' Fl)) b o→Cg φ σ.heap b o:=by
  rintro b o ⟨j,x,hx,hm⟩
  rcases qb j x hx with ⟨rfl,rfl⟩|⟨_,hx⟩
  ·exact ⟨j,_,hl,WQ b o hm⟩
  ·exact ⟨j,x,hx,hm⟩
 have hlen: ∀j:Nat,oW (σ.heap.set l (.loop k slots st' Fl))[j]? =oW σ.heap[j]? :=by
  intro j
  by_cases e:j=l
  ·subst e;rw[dc hlt,hl];rfl
  ·rw[cY (fun h=>e h.symm)]
 have le:(C.env φ σ.heap w).Le σ.heap.length (C.env φ (σ.heap.set l (.loop k slots st' Fl)) (w.putObj (D+1) (.loop {rec with state:=st',pending:=sQ k.js Fl}))):=
  Ctx.zY (by simp) (fun j _=>⟨rfl,hlen j⟩) (fun b o u hm hc=>⟨fun h=>hm (h.imp (BZ b o) id),by rw[hcell];exact hc⟩)
 have Az:uT C φ (σ.heap.set l (.loop k slots st' Fl)) (w.putObj (D+1) (.loop {rec with state:=st',pending:=sQ k.js Fl})) σ.df a.defers:=by
  refine S.defers.step le (fun b _ hno=>x8 b (fun e=>by subst e;exact hno l _ hl hbb)) (fun j x b hx hb=> ?_)
  rcases qb j x hx with ⟨rfl,rfl⟩|⟨_,hx⟩
  ·exact .inl ⟨j,_,hl,By b hb⟩
  ·exact .inl ⟨j,x,hx,hb⟩
 refine {slots:=nj.mono le _ _ (nj.nb _ _ S.slots) S.slots,defers:=Az,objs:= ?_,apart:= ?_,vE:= ?_,size:=by rw[World.putObj_size];exact S.size,old:=fun b o hb hm=>by rw[hcell];exact S.old b o hb hm,qM:= ?_,Be:= ?_,wZ:= ?_,rest:=S.rest,low:=⟨S.low.1,by simpa using S.low.2⟩,names:= ?_}
 ·intro j x hx
  rcases qb j x hx with ⟨rfl,rfl⟩|⟨hne,hx⟩
  ·obtain ⟨D',KF,e1,g1,g2,g3,rl⟩:=S.objs j _ hl
   rw[hφ] at e1
   simp only[Value.func.injEq,Fn.yield.injEq,dX,and_true] at e1
   subst e1
   have hwr:KF=rec:=by
    have g1:w.heap[D+1]? =some (.loop KF):=g1
    rw[hw] at g1;cases g1;rfl
   subst hwr
   refine ⟨D,_,hφ,World.putObj_heap_same Q0,?_,⟨g3.1,g3.2.1,g3.2.2.1,rfl,rfl,g3.2.2.2.2.2⟩,nj.mono le _ _ (nj.nb _ _ rl) rl⟩
   show (w.putObj (D+1) _).heap[D]? =_
   rw[x8 D (by omega)];exact g2
  ·exact qQ.mono (S.objs j x hx) le (fun b hb=>x8 b (fun e=>by subst e;exact hne (S.apart j l x _ (D+1) hx hl hb hbb)))
 ·intro j j' x x' b hx hx' hb hb'
  rcases qb j x hx with ⟨rfl,rfl⟩|⟨hne,hx1⟩<;>rcases qb j' x' hx' with ⟨e2,rfl⟩|⟨Za,F7⟩
  ·exact e2.symm
  ·exact S.apart j j' _ x' b hl F7 (By b hb) hb'
  ·rw[e2] at hb' ⊢;exact S.apart j l x _ b hx1 hl hb (By b hb')
  ·exact S.apart j j' x x' b hx1 F7 hb hb'
 ·intro j x b o hx hb
  rcases qb j x hx with ⟨rfl,rfl⟩|⟨_,hx⟩
  ·exact S.vE j _ b o hl (By b hb)
  ·exact S.vE j x b o hx hb
 ·intro b hb hm
  rw[x8 b (fun e=>by subst e;exact hm 0 (S.Be l _ (D+1) 0 hl (hmb 0) hb))]
  exact S.qM b hb hm
 ·intro j x b o hx hm hb
  rcases qb j x hx with ⟨rfl,rfl⟩|⟨_,hx⟩
  ·exact S.Be j _ b o hl (WQ b o hm) hb
  ·exact S.Be j x b o hx hm hb
 ·intro x hx
  rw[←S.wZ x hx]
  by_cases e:x.block=D+1
  ·simp only[World.frozen?]
   rw[e,hw,World.putObj_heap_same Q0]
  ·simp only[World.frozen?]
   rw[x8 x.block e]
 ·intro j hj
  have:=S.names j hj
  rw[hlen j];exact this
theorem ql.endLoop (S:ql C φ σ a w) {l D:Nat} {k:xR} {slots:List AV} {st:LoopState} {uW:Int} (hl:σ.heap[l]? =some (.loop k slots st uW)) (hφ:φ l= .func (.yield (D+1)) #[] #[]) (hD:C.w0.heap.size≤D):
 ql C φ {σ with heap:=σ.heap.set l .dead} {a with defers:=⟨.collected D,#[]⟩::a.defers} w:=by
 have hlt:l<σ.heap.length:=(cM.1 hl).1
 have Dt:C.N0≤l∨l<C.N0:=by omega
 have hmutw: ∀b o,Cg φ (σ.heap.set l .dead) b o→Cg φ σ.heap b o:=by
  rintro b o ⟨j,x,hx,hm⟩
  by_cases e:j=l
  ·subst e;rw[dc hlt] at hx;cases hx;exact absurd hm (by simp [AObj.muts])
  ·rw[cY (fun h=>e h.symm)] at hx;exact ⟨j,x,hx,hm⟩
 have qb: ∀ (j:Nat) (x:AObj),(σ.heap.set l .dead)[j]? =some x→(j=l∧x= .dead)∨(j≠l∧σ.heap[j]? =some x):=by
  intro j x hx
  by_cases e:j=l
  ·subst e;rw[dc hlt] at hx;cases hx;exact .inl ⟨rfl,rfl⟩
  ·rw[cY (fun h=>e h.symm)] at hx;exact .inr ⟨e,hx⟩
 have hlen: ∀j:Nat,oW (σ.heap.set l .dead)[j]? =oW σ.heap[j]? :=by
  intro j
  by_cases e:j=l
  ·subst e;rw[dc hlt,hl];rfl
  ·rw[cY (fun h=>e h.symm)]
 have le:(C.env φ σ.heap w).Le σ.heap.length (C.env φ (σ.heap.set l .dead) w):=
  Ctx.zY (by simp) (fun j _=>⟨rfl,hlen j⟩) (fun b o u hm hc=>⟨fun h=>hm (h.imp (hmutw b o) id),hc⟩)
 have hbD:(AObj.loop k slots st uW).block (φ l) D:=by rw[hφ];exact .inr rfl
 have Az:uT C φ (σ.heap.set l .dead) w σ.df (⟨.collected D,#[]⟩::a.defers):=by
  obtain ⟨hnd,hall,hrd⟩:=S.defers
  have hmk:MZ (⟨.collected D,#[]⟩:Deferred)=true:=rfl
  refine ⟨?_,fun d hd hm=> ?_,?_⟩
  ·simp only[eL,hmk,if_true]
   refine List.nodup_cons.2 ⟨fun hm=> ?_,hnd⟩
   obtain ⟨D',e,_,_,h4⟩:=hall _ (dU.1 hm).1 rfl
   simp only[Deferred.mk.injEq,Target.collected.injEq,and_true] at e
   subst e
   exact h4 l _ hl hbD
  ·rcases cU.1 hd with rfl|hd
   ·refine ⟨D,rfl,?_,hD,fun j x hx hb=> ?_⟩
    ·obtain ⟨D',KF,e1,g1,g2,_⟩:=S.objs l _ hl
     rw[hφ] at e1
     simp only[Value.func.injEq,Fn.yield.injEq,dX,and_true] at e1
     subst e1;exact g2
    ·rcases qb j x hx with ⟨rfl,rfl⟩|⟨hne,hx⟩
     ·simp [AObj.block] at hb
     ·exact hne (S.apart j l x _ D hx hl hb hbD)
   ·obtain ⟨D',e,h2,h3,h4⟩:=hall d hd hm
    refine ⟨D',e,h2,h3,fun j x hx hb=> ?_⟩
    rcases qb j x hx with ⟨rfl,rfl⟩|⟨hne,hx⟩
    ·simp [AObj.block] at hb
    ·exact h4 j x hx hb
  ·simp only[eL,hmk,eD,dG,if_false]
   exact hrd.mono le
 refine {slots:=nj.mono le _ _ (nj.nb _ _ S.slots) S.slots,defers:=Az,objs:= ?_,apart:= ?_,vE:= ?_,size:=S.size,old:=S.old,qM:=S.qM,Be:= ?_,wZ:=S.wZ,rest:=S.rest,low:=⟨S.low.1,by simpa using S.low.2⟩,names:= ?_}
 ·intro j x hx
  rcases qb j x hx with ⟨rfl,rfl⟩|⟨_,hx⟩
  ·trivial
  ·exact qQ.mono (S.objs j x hx) le (fun _ _=>rfl)
 ·intro j j' x x' b hx hx' hb hb'
  rcases qb j x hx with ⟨rfl,rfl⟩|⟨_,hx⟩
  ·simp [AObj.block] at hb
  ·rcases qb j' x' hx' with ⟨rfl,rfl⟩|⟨_,hx'⟩
   ·simp [AObj.block] at hb'
   ·exact S.apart j j' x x' b hx hx' hb hb'
 ·intro j x b o hx hb
  rcases qb j x hx with ⟨rfl,rfl⟩|⟨_,hx⟩
  ·simp [AObj.block] at hb
  ·exact S.vE j x b o hx hb
 ·intro j x b o hx hm hb
  rcases qb j x hx with ⟨rfl,rfl⟩|⟨_,hx⟩
  ·simp [AObj.muts] at hm
  ·exact S.Be j x b o hx hm hb
 ·intro j hj
  have:=S.names j hj
  rw[hlen j];exact this
def jumpQ (Q:qG→AState→Prop) (σ:AState):Option Code→Prop
 |none=>Q .normal σ
 |some .ret=>Q .ret σ
 |some (.exit id)=>Q (.exit id) σ
 |_=>False
theorem W9 {P:Program} {g:Operand} {ps:Array Tmp} {as body:Code} {js:List (Int×Code)} {Q:qG→AState→Prop} {σ:AState} {f:FuncId} {first cap:List AV} (hg:σ.ev g= .func (.func f) first cap)
 (yC:AZ P f (first++[.map σ.heap.length]++cap) {σ with slots:=σ.slots++[.map σ.heap.length],heap:=σ.heap++[.loop ⟨ps,as,body,js⟩ σ.slots .ready 0]}
   (fun o H'=> ∃r k s uW,o= .ret r∧H'[σ.heap.length]? =some (.loop k s (stP (sQ k.js uW)) uW)∧jumpQ Q {σ with heap:=H'.set σ.heap.length .dead} (sQ k.js uW))):RangeA P g ps as body Q σ:=by
 intro C φ a w hP S
 subst hP
 refine wpIn_rangeFunc ?_
 intro fn _
 have hx:=S.ev g
 rw[hg] at hx
 obtain ⟨f',c',hx,rf,rc⟩:=hx
 let lp:Loop:={state:= .ready,pending:=none,fn,tmps:=a.tmps,params:=ps,assign:=as,body,defers:=w.heap.size}
 let w1:=(w.alloc (.deferred (some []))).alloc (.loop lp)
 let Y:Value:= .func (.yield (w.heap.size+1)) #[] #[]
 have S1:=S.nameLoop ⟨ps,as,body,js⟩ lp S.slots ⟨rfl,rfl,rfl,rfl,rfl,rfl⟩
 have rY:rE (C.env (fun l=>if l=σ.heap.length then Y else φ l) (σ.heap++[.loop ⟨ps,as,body,js⟩ σ.slots .ready 0]) w1) (.map σ.heap.length) Y:=by
  refine ⟨by simp [Ctx.env],by simp [Ctx.env,Y],w.heap.size+1,?_⟩
  simp [Ctx.env,Y,hdl]
 have S2:ql C (fun l=>if l=σ.heap.length then Y else φ l) {σ with slots:=σ.slots++[.map σ.heap.length],heap:=σ.heap++[.loop ⟨ps,as,body,js⟩ σ.slots .ready 0]} {a with tmps:=a.tmps.push Y} w1:=by
  refine {S1 with slots:= ?_,defers:=S1.defers}
  simp only[eH]
  exact S1.slots.append ⟨Y,[],rfl,rY,rfl⟩
 have hle:(C.env φ σ.heap w).Le σ.heap.length (C.env (fun l=>if l=σ.heap.length then Y else φ l) (σ.heap++[.loop ⟨ps,as,body,js⟩ σ.slots .ready 0]) w1):=by
  refine Ctx.zY (by simp) (fun l hl=>⟨by rw[if_neg (by omega)],by rw[cO hl]⟩) (fun b i u hm hc=> ?_)
  have hb:=CG hc
  have hold:w1.heap[b]? =w.heap[b]? :=by
   show (World.more (World.more w _) _).heap[b]? =_
   rw[wG _ _ (by simp [World.more];omega),wG _ _ hb]
  refine ⟨fun h=> ?_,by simp only[World.cell?,hold];exact hc⟩
  rcases h with ⟨l,x,hx,hm'⟩|h
  ·by_cases hl:l<σ.heap.length
   ·rw[cO hl] at hx
    have hm':x.muts (if l=σ.heap.length then Y else φ l) b i:=hm'
    rw[if_neg (by omega)] at hm'
    exact hm (.inl ⟨l,x,hx,hm'⟩)
   ·have hl':l=σ.heap.length:=by
     have:=(cM.1 hx).1
     simp at this;omega
    subst hl'
    simp at hx;subst hx
    have hm':(AObj.loop ⟨ps,as,body,js⟩ σ.slots .ready 0).muts (if σ.heap.length=σ.heap.length then Y else φ σ.heap.length) b i:=hm'
    rw[if_pos rfl] at hm'
    rcases hm' with rfl|h<;>omega
  ·exact hm (.inr h)
 have hargs:nj (C.env (fun l=>if l=σ.heap.length then Y else φ l) (σ.heap++[.loop ⟨ps,as,body,js⟩ σ.slots .ready 0]) w1) (first++[.map σ.heap.length]++cap) (f'++ #[Y]++c').toList:=by
  have hY:nj (C.env (fun l=>if l=σ.heap.length then Y else φ l) (σ.heap++[.loop ⟨ps,as,body,js⟩ σ.slots .ready 0]) w1) [.map σ.heap.length] [Y]:=⟨Y,[],rfl,rY,rfl⟩
  simp only[eX]
  exact ((nj.mono hle _ _ (nj.nb _ _ rf) rf).append hY).append (nj.mono hle _ _ (nj.nb _ _ rc) rc)
 obtain ⟨he,hc⟩:=yC
 have hbody: ∃fnc,C.P.funcs[f]? =some fnc∧fnc.name≠ "runtime.NumGoroutine" ∧fnc.body≠none:=by
  unfold enters at he
  split at he
  ·rename_i fnc hf
   simp only[cJ,bne_iff_ne,ne_eq] at he
   exact ⟨fnc,hf,he.2,fun hb=>by simp [hb] at he⟩
  ·cases he
 obtain ⟨fnc,hf,hname,hnone⟩:=hbody
 refine ⟨w.heap.size+1,[⟨.collected w.heap.size,#[]⟩],w1,{target:= .fn (.func f) c',args:=f'++ #[Y]},w1,f,f'++ #[Y]++c',w1,?_,?_,fun _ _=>trivial,?_,fun h=>by simp [Dw,dZ] at h,?_⟩
 ·exact run_enterLoop_outer _ _ _ _ _
 ·have Aw:a.eval g= .func (.func f) f' c':=hx
  have hY2:a.eval (.const Y)=Y:=rfl
  simp [resolve,Aw,Deferred.ofValue]
  rfl
 ·simp [invoke,callFunc,hf,hname,hnone]
 ·refine Fk.2 ((hc C _ _ w1 rfl S2 _ hargs).mono ?_)
  rintro e w' ⟨o,φ2,H',⟨r,k,s,uW,rfl,hH,hj⟩,S3,uX⟩
  cases e with
  |panicked chain=>exact uX.elim
  |outgrown=>exact uX.elim
  |returned v=>
   have L6:φ2 σ.heap.length=Y:=by
    have LM:=S3.slots
    have hlen:a.tmps.toList.length=σ.slots.length:=S.slots.length
    have:=LM.drop σ.slots.length
    simp only[eH] at this
    rw[eu rfl,eu hlen] at this
    obtain ⟨u,us,he2,r1,_⟩:=this
    simp only[dO] at he2
    obtain ⟨rfl,_⟩:=he2
    exact r1.2.1.symm
   have S4:ql C φ2 {σ with heap:=H'} a w':=by
    have LM:=S3.slots
    have hlen:a.tmps.toList.length=σ.slots.length:=S.slots.length
    have:=LM.take σ.slots.length
    simp only[eH] at this
    rw[ep rfl,ep hlen] at this
    exact {S3 with slots:=this,defers:=S3.defers}
   obtain ⟨D,KF,e1,g1,g2,g3,_⟩:=S4.objs _ _ hH
   rw[L6] at e1
   simp only[Y,Value.func.injEq,Fn.yield.injEq,dX,and_true] at e1
   subst e1
   have g1:w'.heap[w.heap.size+1]? =some (.loop KF):=g1
   have hend:=run_endLoop (P:=C.P) g1 (by rw[g3.2.2.2.1];exact Vz _)
   rw[g3.2.2.2.2.1] at hend
   refine ⟨sQ k.js uW,_,hend,?_⟩
   have S5:ql C φ2 {σ with heap:=H'.set σ.heap.length .dead} {a with defers:=⟨.collected w.heap.size,#[]⟩::a.defers} (w'.putObj (w.heap.size+1) (.loop {KF with state:= .exhausted,pending:=sQ k.js uW})):=by
    have h5:=S4.VA (st':= .exhausted) (Fl:=uW) hH L6 g1
    have h6:=h5.endLoop (l:=σ.heap.length) (D:=w.heap.size) (k:=k) (slots:=s) (st:= .exhausted) (uW:=uW) (by
     show (H'.set σ.heap.length _)[σ.heap.length]? =_
     rw[dc (cM.1 hH).1]) L6 S.size
    have e1:({σ with heap:=(H'.set σ.heap.length (.loop k s .exhausted uW)).set σ.heap.length .dead}:AState)={σ with heap:=H'.set σ.heap.length .dead}:=by
     rw[List.set_set]
    exact e1 ▸ h6
   generalize sQ k.js uW=pc at*
   cases pc with
   |none=>exact ⟨φ2,_,S5,hj⟩
   |some c=>
    cases c with
    |ret=>exact wpIn_ret ⟨φ2,_,S5,hj⟩
    |exit id=>exact wpIn_exit ⟨φ2,_,S5,hj⟩
    |_=>exact hj.elim
end
end Go.Abs
namespace Go.Abs
inductive CO where
 |ret (e:wL)
 |pan (x:AV) (H:List AObj)
structure Mach (R:Type) where
 P:Program
 body:Code
 cl:FuncId→List AV→List AObj→Option (AV×List AObj)
 cd:FuncId→List AV→Option AV
 qR:List Nat→AState→Option AState
 cut:List Nat→AState→Option AState
 n:Nat
 out:AState→Option R
 cy:Nat→List AV→List AObj→Option (AV×List AObj):=fun _ _ _=>none
 pS:qG→AState→Option R:=fun _ _=>none
 js:List Nat→List (Int×Code):=fun _=>[]
 B0:FuncId→Bool:=fun _=>false
 ce:FuncId→List AV→List AObj→Option wL:=fun _ _ _=>none
 q6:FuncId→Bool:=fun _=>false
 cp:FuncId→List AV→List AObj→Option (wM×List AObj):=fun _ _ _=>none
 B1:FuncId→Bool:=fun _=>false
 co:FuncId→List AV→List AObj→Option CO:=fun _ _ _=>none
 xT:AV→AState→Option R:=fun _ _=>none
noncomputable def pcond {R:Type} (p:Prop) (x:Option R):Option R:= @ite _ p (Classical.propDecidable p) x none
theorem pU {R:Type} {p:Prop} {x:Option R} {r:R}:pcond p x=some r↔p∧x=some r:=by
 unfold pcond
 split
 ·rename_i h;simp [h]
 ·rename_i h;simp [h]
theorem Zq {R:Type} {x:Option R}:pcond True x=x:=by simp [pcond]
theorem I6 {R:Type} {p q:Prop} {x:Option R}:pcond (p∧q) x=pcond p (pcond q x):=by
 unfold pcond
 by_cases hp:p<;>by_cases hq:q<;>simp [hp,hq]
theorem Ol {R:Type} {p:Prop} [Decidable p] {x:Option R}:pcond p x=bif decide p then x else none:=by
 unfold pcond
 by_cases hp:p<;>simp [hp]
def Rh (x:Operand) (b:Bool) (σ:AState):AState:=
 match x with
 | .tmp t=>{σ with slots:=σ.slots.set t (.bool b)}
 |_=>σ
theorem setB_eq {x:Operand} {b:Bool} {σ:AState} (h:σ.ev x= .bool b):Rh x b σ=σ:=by
 cases x with
 |tmp t=>
  simp only[AState.ev,List.getD] at h
  cases hg:σ.slots[t]? with
  |none=>rw[hg] at h;simp at h
  |some v=>
   rw[hg] at h
   simp only[eg] at h
   subst h
   obtain ⟨hlt,he⟩:=cM.1 hg
   simp only[Rh]
   rw[←he,eS]
 |_=>rfl
def uH (ops:Array Oper) (o:Oper) (b:Bool) (σ:AState):AState:=
 match o.guard with
 |none=>σ
 |some (j,want)=>match (ops[j]?).bind (·.dst) with
  |some d=>match σ.slots[d]? with
   |some (.bool _)=>{σ with slots:=σ.slots.set d (.bool (b==want))}
   |_=>σ
  |none=>σ
theorem VB {ops:Array Oper} {o:Oper} {b:Bool} {σ:AState} (h:sH ops o σ=some b):uH ops o b σ=σ:=by
 unfold sH at h
 unfold uH
 split
 ·rfl
 ·rename_i j want hg
  simp only[hg] at h
  split
  ·rename_i d hd
   simp only[hd] at h
   split
   ·rename_i c hc
    simp only[hc,cH] at h
    have:(b==want)=c:=by subst h;cases c<;>cases want<;>rfl
    rw[this]
    obtain ⟨hlt,he⟩:=cM.1 hc
    rw[←he,eS]
   ·rfl
  ·rfl
section
variable {R:Type}
noncomputable def vO (M:Mach R) (ops:Array Oper):List Oper→AState→Option (qG×AState)
 |[],σ=>some (.normal,σ)
 |o::rest,σ=>match sH ops o σ with
  |none=>none
  |some b=>bif b then (match qn (uH ops o true σ) o.op with
    |some (f,args)=>bif M.q6 f then (match M.cp f args (uH ops o true σ).heap with
      |some (.ret r,H')=>vO M ops rest (AState.put {uH ops o true σ with heap:=H'} o.dst r)
      |some (.panic x,H')=>some (.panic x,{uH ops o true σ with heap:=H'})
      |none=>none)
     else match M.cl f args (uH ops o true σ).heap with
     |some (r,H')=>vO M ops rest (AState.put {uH ops o true σ with heap:=H'} o.dst r)
     |none=>none
    |none=>match yieldOf (uH ops o true σ) o.op with
     |some (l,args)=>match M.cy l args (uH ops o true σ).heap with
      |some (r,H')=>vO M ops rest (AState.put {uH ops o true σ with heap:=H'} o.dst r)
      |none=>none
     |none=>match n6 M.P (uH ops o true σ) o.op with
      |some e=>pcond e.pre (vO M ops rest ((uH ops o true σ).app o.dst e))
      |none=>match AB (uH ops o true σ) o.op with
       |some p=>vO M ops rest ((uH ops o true σ).dfr p o.dst)
       |none=>match F8 (uH ops o true σ) o.op with
        |some x=>some (.panic x,uH ops o true σ)
        |none=>none)
   else vO M ops rest ((uH ops o false σ).put o.dst (.raw undef))
noncomputable def Dy (M:Mach R) (ops:Array Oper):List Oper→Nat→List Tr→AState→Option (qG×AState)
 |[],_,_,σ=>some (.normal,σ)
 |o::rest,j,tr,σ=>match sH ops o σ with
  |none=>none
  |some b=>bif b then (match qn (uH ops o true σ) o.op with
    |some (f,args)=>bif M.B1 f then (match M.co f args (uH ops o true σ).heap with
      |some (.ret e)=>pcond (e.pre∧Bn ops tr j e) (Dy M ops rest (j+1) (CY tr j (uH ops o true σ).heap.length e) ((uH ops o true σ).app o.dst e))
      |some (.pan x H')=>pcond (FV tr=true∧HC M.P ops j rest (j+1) ((uH ops o true σ).put o.dst (.raw undef))) (some (.panic x,{uH ops o true σ with slots:=MJ ops (uH ops o true σ).slots,heap:=H'}))
      |none=>none)
     else bif M.B0 f then (match M.ce f args (uH ops o true σ).heap with
      |some e=>pcond (e.pre∧Bn ops tr j e) (Dy M ops rest (j+1) (CY tr j (uH ops o true σ).heap.length e) ((uH ops o true σ).app o.dst e))
      |none=>none)
     else match M.cd f args with
     |some r=>Dy M ops rest (j+1) tr ((uH ops o true σ).put o.dst r)
     |none=>none
    |none=>match n6 M.P (uH ops o true σ) o.op with
     |some e=>pcond (e.pre∧Bn ops tr j e) (Dy M ops rest (j+1) (CY tr j (uH ops o true σ).heap.length e) ((uH ops o true σ).app o.dst e))
     |none=>none)
   else Dy M ops rest (j+1) tr ((uH ops o false σ).put o.dst (.raw undef))
def lqN (qR:AState→Option AState) (body:AState→Option (qG×AState)):Nat→AState→Option (qG×AState)
 |0,_=>none
 |m+1,σ=>match body σ with
  |some (.normal,σ')=>(qR σ').bind (lqN qR body m)
  |r=>r
def Xa (σ:AState):Option Code→Option (qG×AState)
 |none=>some (.normal,σ)
 |some .ret=>some (.ret,σ)
 |some (.exit id)=>some (.exit id,σ)
 |_=>none
noncomputable def endX (σ:AState) (H':List AObj):Option AObj→Option (qG×AState)
 |some (.loop lk _ st uW)=>pcond (st=stP (sQ lk.js uW)) (Xa {σ with heap:=H'.set σ.heap.length .dead} (sQ lk.js uW))
 |_=>none
noncomputable def rngX (M:Mach R) (lk:xR) (σ:AState):AV→Option (qG×AState)
 | .func (.func f) first cap=>match M.cl f (first++[.map σ.heap.length]++cap) (σ.heap++[.loop lk σ.slots .ready 0]) with
   |some (_,H')=>endX σ H' H'[σ.heap.length]?
   |none=>none
 |_=>none
noncomputable def exec (M:Mach R):Code→List Nat→AState→Option (qG×AState)
 | .skip,_,σ=>some (.normal,σ)
 | .region _ ops false,_,σ=>vO M ops ops.toList σ
 | .region _ ops true,_,σ=>pcond (M.P.follows .mixedOrders=true∧CW ops=true) (Dy M ops ops.toList 0 [] σ)
 | .seq x y,p,σ=>match exec M x (0::p) σ with
   |some (.normal,σ')=>(M.cut (1::p) σ').bind (exec M y (1::p))
   |r=>r
 | .cond c x y,p,σ=>match σ.ev c with
   | .bool b=>bif b then exec M x (0::p) (Rh c true σ) else exec M y (1::p) (Rh c false σ)
   |_=>none
 | .block id x,p,σ=>match exec M x (0::p) σ with
   |some (.exit id',σ')=>if id'=id then some (.normal,σ') else some (.exit id',σ')
   |r=>r
 | .loop x,p,σ=>(M.qR p σ).bind (lqN (M.qR p) (exec M x (0::p)) M.n)
 | .exit id,_,σ=>some (.exit id,σ)
 | .scope x,p,σ=>exec M x (0::p) σ
 | .label _,_,σ=>some (.normal,σ)
 | .ret,_,σ=>some (.ret,σ)
 | .goto _,_,_=>none
 | .rangeFunc g ps as body,p,σ=>rngX M ⟨ps,as,body,M.js p⟩ σ (σ.ev g)
 | .refuse _,_,_=>none
structure Good (M:Mach R):Prop where
 cl: ∀f args σ r H',M.cl f args σ.heap=some (r,H')→AZ M.P f args σ (fun o Du=>o= .ret r∧Du=H')
 cd: ∀f args r,M.cd f args=some r→xY M.P f args (fun v=>v=r)
 qR: ∀p σ σ',M.qR p σ=some σ'→FN σ σ'
 cut: ∀p σ σ',M.cut p σ=some σ'→FN σ σ'
 cy: ∀l args σ r H',M.cy l args σ.heap=some (r,H')→Gx M.P l args σ (fun o Du=>o= .ret r∧Du=H')
 ce: ∀f args σ e,M.ce f args σ.heap=some e→Ek M.P f args σ e
 cp: ∀f args σ o H',M.cp f args σ.heap=some (o,H')→AZ M.P f args σ (fun o' Du=>o'=o∧Du=H')
 co: ∀f args σ,(∀e,M.co f args σ.heap=some (.ret e)→Ek M.P f args σ e)∧ ∀x H',M.co f args σ.heap=some (.pan x H')→W4 M.P f args σ.heap x H'
theorem pz {P:Program}: ∀ (f:FuncId) (args:List AV) (σ:AState) (o:wM) (H':List AObj),(fun _ _ _=>none:FuncId→List AV→List AObj→Option (wM×List AObj)) f args σ.heap=some (o,H')→AZ P f args σ (fun o' Du=>o'=o∧Du=H'):=by
 intro f args σ o H' h;cases h
theorem oX {P:Program}: ∀ (f:FuncId) (args:List AV) (σ:AState),(∀e,(fun _ _ _=>none:FuncId→List AV→List AObj→Option CO) f args σ.heap=some (.ret e)→Ek P f args σ e)∧ ∀x H',(fun _ _ _=>none:FuncId→List AV→List AObj→Option CO) f args σ.heap=some (.pan x H')→W4 P f args σ.heap x H':=by
 intro f args σ
 exact ⟨fun e h=>(by cases h),fun x H' h=>(by cases h)⟩
theorem AZ.mono {P:Program} {f:FuncId} {args:List AV} {σ:AState} {K K':wM→List AObj→Prop} (h:AZ P f args σ K) (hk: ∀o H,K o H→K' o H):AZ P f args σ K':=by
 obtain ⟨he,hc⟩:=h
 refine ⟨he,fun C φ a w hP S vs hr=>(hc C φ a w hP S vs hr).mono ?_⟩
 rintro e w' ⟨o,φ',H',h1,h2⟩
 exact ⟨o,φ',H',hk _ _ h1,h2⟩
theorem Gx.mono {P:Program} {l:Nat} {args:List AV} {σ:AState} {K K':wM→List AObj→Prop} (h:Gx P l args σ K) (hk: ∀o H,K o H→K' o H):Gx P l args σ K':=by
 obtain ⟨he,hc⟩:=h
 refine ⟨he,fun C φ a w hP S vs hr D rec h1 h2=>(hc C φ a w hP S vs hr D rec h1 h2).mono ?_⟩
 rintro e w' ⟨o,φ',H',h1,h2⟩
 exact ⟨o,φ',H',hk _ _ h1,h2⟩
theorem oS {P:Program}: ∀ (l:Nat) (args:List AV) (σ:AState) (r:AV) (H':List AObj),(fun _ _ _=>none:Nat→List AV→List AObj→Option (AV×List AObj)) l args σ.heap=some (r,H')→Gx P l args σ (fun o Du=>o= .ret r∧Du=H'):=by
 intro l args σ r H' h;cases h
theorem zC {M:Mach R} (G:Good M) {ops:Array Oper} {Q:qG→AState→Prop}: ∀ (rest:List Oper) (σ σ':AState) (e:qG),vO M ops rest σ=some (e,σ')→Q e σ'→Ig M.P ops rest Q σ
 |[],σ,σ',e,h,hq=>by simp only[vO,cH,cK] at h;obtain ⟨rfl,rfl⟩:=h;exact hq
 |o::rest,σ,σ',en,h,hq=>by
  simp only[vO] at h
  simp only[Ig]
  cases hw:sH ops o σ with
  |none=>simp only[hw] at h;cases h
  |some b=>
   simp only[hw] at h
   have hg:=VB hw
   cases b with
   |false=>
    refine ⟨fun h=>(by cases h),fun _=> ?_⟩
    simp only[cond_false,hg] at h
    exact zC G rest _ σ' _ h hq
   |true=>
    refine ⟨fun _=> ?_,fun h=>by cases h⟩
    simp only[cond_true,hg] at h
    cases hc:qn σ o.op with
    |some p=>
     obtain ⟨f,args⟩:=p
     simp only[hc] at h ⊢
     cases hi:M.q6 f with
     |true=>
      simp only[hi,cond_true] at h
      cases ha:M.cp f args σ.heap with
      |none=>simp only[ha] at h;cases h
      |some q=>
       obtain ⟨r,H'⟩:=q
       refine (G.cp f args σ r H' ha).mono ?_
       cases r with
       |ret r=>
        simp only[ha] at h
        rintro o' Du ⟨rfl,rfl⟩
        exact zC G rest _ σ' _ h hq
       |panic x=>
        simp only[ha,cH,cK] at h
        obtain ⟨rfl,rfl⟩:=h
        rintro o' Du ⟨rfl,rfl⟩
        exact hq
     |false=>
      simp only[hi,cond_false] at h
      cases ha:M.cl f args σ.heap with
      |none=>simp only[ha] at h;cases h
      |some q=>
       obtain ⟨r,H'⟩:=q
       simp only[ha] at h
       refine (G.cl f args σ r H' ha).mono ?_
       rintro o' Du ⟨rfl,rfl⟩
       exact zC G rest _ σ' _ h hq
    |none=>
     simp only[hc] at h ⊢
     cases hy:yieldOf σ o.op with
     |some p=>
      obtain ⟨l,args⟩:=p
      simp only[hy] at h ⊢
      cases ha:M.cy l args σ.heap with
      |none=>simp only[ha] at h;cases h
      |some q=>
       obtain ⟨r,H'⟩:=q
       simp only[ha] at h
       refine (G.cy l args σ r H' ha).mono ?_
       rintro o' Du ⟨rfl,rfl⟩
       exact zC G rest _ σ' _ h hq
     |none=>
      simp only[hy] at h ⊢
      cases he:n6 M.P σ o.op with
      |none=>
       simp only[he] at h ⊢
       cases hd:AB σ o.op with
       |some p=>
        simp only[hd] at h ⊢
        exact zC G rest _ σ' _ h hq
       |none=>
        simp only[hd] at h ⊢
        cases hp:F8 σ o.op with
        |some x=>
         simp only[hp,cH,cK] at h ⊢
         obtain ⟨rfl,rfl⟩:=h
         exact hq
        |none=>simp only[hp] at h;cases h
      |some e=>
       simp only[he] at h
       rw[pU] at h
       exact ⟨h.1,zC G rest _ σ' _ h.2 hq⟩
theorem Dh {M:Mach R} (G:Good M) {ops:Array Oper} {Q:qG→AState→Prop}: ∀ (rest:List Oper) (j:Nat) (tr:List Tr) (σ σ':AState) (e:qG),Dy M ops rest j tr σ=some (e,σ')→Q e σ'→Ni M.P ops Q rest j tr σ
 |[],_,_,σ,σ',e,h,hq=>by simp only[Dy,cH,cK] at h;obtain ⟨rfl,rfl⟩:=h;exact hq
 |o::rest,j,tr,σ,σ',en,h,hq=>by
  simp only[Dy] at h
  simp only[Ni]
  cases hw:sH ops o σ with
  |none=>simp only[hw] at h;cases h
  |some b=>
   simp only[hw] at h
   have hg:=VB hw
   cases b with
   |false=>
    refine ⟨fun h=>(by cases h),fun _=> ?_⟩
    simp only[cond_false,hg] at h
    exact Dh G rest _ _ _ σ' _ h hq
   |true=>
    refine ⟨fun _=> ?_,fun h=>(by cases h)⟩
    simp only[cond_true,hg] at h
    cases hc:qn σ o.op with
    |some p=>
     obtain ⟨f,args⟩:=p
     simp only[hc] at h ⊢
     cases hic:M.B1 f with
     |true=>
      simp only[hic,cond_true] at h
      cases ha:M.co f args σ.heap with
      |none=>simp only[ha] at h;cases h
      |some q=>
       cases q with
       |ret e=>
        simp only[ha] at h
        rw[pU] at h
        exact .inr (.inl ⟨e,(G.co f args σ).1 e ha,h.1.2,Dh G rest _ _ _ σ' _ h.2 hq⟩)
       |pan x H'=>
        simp only[ha] at h
        rw[pU] at h
        obtain ⟨⟨h1,h2⟩,h⟩:=h
        simp only[cH,cK] at h
        obtain ⟨rfl,rfl⟩:=h
        exact .inr (.inr ⟨x,H',(G.co f args σ).2 x H' ha,h1,h2,hq⟩)
     |false=>
     simp only[hic,cond_false] at h
     cases hi:M.B0 f with
     |true=>
      simp only[hi,cond_true] at h
      cases ha:M.ce f args σ.heap with
      |none=>simp only[ha] at h;cases h
      |some e=>
       simp only[ha] at h
       rw[pU] at h
       exact .inr (.inl ⟨e,G.ce f args σ e ha,h.1.2,Dh G rest _ _ _ σ' _ h.2 hq⟩)
     |false=>
     simp only[hi,cond_false] at h
     cases ha:M.cd f args with
     |none=>simp only[ha] at h;cases h
     |some r=>
      simp only[ha] at h
      exact .inl ⟨r,G.cd f args r ha,Dh G rest _ _ _ σ' _ h hq⟩
    |none=>
     simp only[hc] at h ⊢
     cases he:n6 M.P σ o.op with
     |none=>simp only[he] at h;cases h
     |some e=>
      simp only[he] at h
      rw[pU] at h
      exact ⟨h.1.1,h.1.2,Dh G rest _ _ _ σ' _ h.2 hq⟩
theorem Ri {qR:AState→Option AState} {body:AState→Option (qG×AState)} (hb: ∀σ l σ',body σ≠some (.goto l,σ')): ∀ (m:Nat) (σ:AState) (l:Nat) (σ':AState),lqN qR body m σ≠some (.goto l,σ')
 |0,_,_,_=>by simp [lqN]
 |m+1,σ,l,σ'=>by
  intro h
  simp only[lqN] at h
  cases hx:body σ with
  |none=>simp only[hx] at h;cases h
  |some r=>
   obtain ⟨e1,σ1⟩:=r
   cases e1 with
   |normal=>
    simp only[hx] at h
    cases hn:qR σ1 with
    |none=>simp only[hn,dz] at h;cases h
    |some σ2=>simp only[hn,dA] at h;exact Ri hb m σ2 l σ' h
   |goto l'=>exact hb _ _ _ hx
   |_=>simp only[hx,cH,cK,reduceCtorEq,false_and] at h
theorem Zr {M:Mach R} {ops:Array Oper}: ∀ (rest:List Oper) (σ:AState) (l:Nat) (σ':AState),vO M ops rest σ≠some (.goto l,σ'):=by
 intro rest
 induction rest with
 |nil=>intro σ l σ' h;simp [vO] at h
 |cons o rest ih=>
  intro σ l σ' h
  simp only[vO] at h
  split at h
  ·cases h
  ·rename_i b _
   cases b with
   |false=>simp only[cond_false] at h;exact ih _ _ _ h
   |true=>
    simp only[cond_true] at h
    split at h
    ·rename_i f args _
     cases hi:M.q6 f with
     |true=>
      simp only[hi,cond_true] at h
      split at h
      ·exact ih _ _ _ h
      ·simp at h
      ·cases h
     |false=>
      simp only[hi,cond_false] at h
      split at h
      ·exact ih _ _ _ h
      ·cases h
    ·split at h
     ·split at h
      ·exact ih _ _ _ h
      ·cases h
     ·split at h
      ·rw[pU] at h;exact ih _ _ _ h.2
      ·split at h
       ·exact ih _ _ _ h
       ·split at h
        ·simp at h
        ·cases h
theorem execD_no {M:Mach R} {ops:Array Oper}: ∀ (rest:List Oper) (j:Nat) (tr:List Tr) (σ:AState) (l:Nat) (σ':AState),Dy M ops rest j tr σ≠some (.goto l,σ'):=by
 intro rest
 induction rest with
 |nil=>intro j tr σ l σ' h;simp [Dy] at h
 |cons o rest ih=>
  intro j tr σ l σ' h
  simp only[Dy] at h
  split at h
  ·cases h
  ·rename_i b _
   cases b with
   |false=>simp only[cond_false] at h;exact ih _ _ _ _ _ h
   |true=>
    simp only[cond_true] at h
    split at h
    ·rename_i f args _
     cases hi:M.B1 f with
     |true=>
      simp only[hi,cond_true] at h
      split at h
      ·rw[pU] at h;exact ih _ _ _ _ _ h.2
      ·rw[pU] at h;simp at h
      ·cases h
     |false=>
      simp only[hi,cond_false] at h
      cases hi2:M.B0 f with
      |true=>
       simp only[hi2,cond_true] at h
       split at h
       ·rw[pU] at h;exact ih _ _ _ _ _ h.2
       ·cases h
      |false=>
       simp only[hi2,cond_false] at h
       split at h
       ·exact ih _ _ _ _ _ h
       ·cases h
    ·split at h
     ·rw[pU] at h;exact ih _ _ _ _ _ h.2
     ·cases h
theorem jumpX_no {σ:AState} {c:Option Code} {l:Nat} {σ':AState}:Xa σ c≠some (.goto l,σ'):=by
 intro h
 unfold Xa at h
 split at h<;>simp at h
theorem rngX_no {M:Mach R} {lk:xR} {σ:AState} {v:AV} {l:Nat} {σ':AState}:rngX M lk σ v≠some (.goto l,σ'):=by
 intro h
 unfold rngX at h
 split at h
 ·split at h
  ·unfold endX at h
   split at h
   ·rw[pU] at h;exact jumpX_no h.2
   ·cases h
  ·cases h
 ·cases h
theorem HE (M:Mach R): ∀ (c:Code) (p:List Nat) (σ:AState) (l:Nat) (σ':AState),exec M c p σ≠some (.goto l,σ')
 | .skip,_,_,_,_=>by simp [exec]
 | .label _,_,_,_,_=>by simp [exec]
 | .ret,_,_,_,_=>by simp [exec]
 | .exit id,_,_,_,_=>by simp [exec]
 | .region _ ops false,_,_,_,_=>by simp only[exec];exact Zr _ _ _ _
 | .region _ ops true,_,_,_,_=>by
   intro h
   simp only[exec] at h
   rw[pU] at h
   exact execD_no _ _ _ _ _ _ h.2
 | .seq x y,p,σ,l,σ'=>by
   intro h
   simp only[exec] at h
   cases hx:exec M x (0::p) σ with
   |none=>simp only[hx] at h;cases h
   |some r=>
    obtain ⟨e1,σ1⟩:=r
    cases e1 with
    |normal=>
     simp only[hx] at h
     cases hc:M.cut (1::p) σ1 with
     |none=>simp only[hc,dz] at h;cases h
     |some σ2=>simp only[hc,dA] at h;exact HE M y _ _ _ _ h
    |goto l'=>exact HE M x _ _ _ _ hx
    |_=>simp only[hx,cH,cK,reduceCtorEq,false_and] at h
 | .cond c x y,p,σ,l,σ'=>by
   intro h
   simp only[exec] at h
   cases hv:σ.ev c with
   |bool b=>
    simp only[hv] at h
    cases b with
    |true=>exact HE M x _ _ _ _ h
    |false=>exact HE M y _ _ _ _ h
   |_=>simp only[hv] at h;cases h
 | .block id x,p,σ,l,σ'=>by
   intro h
   simp only[exec] at h
   cases hx:exec M x (0::p) σ with
   |none=>simp only[hx] at h;cases h
   |some r=>
    obtain ⟨e1,σ1⟩:=r
    cases e1 with
    |exit id'=>
     simp only[hx] at h
     split at h<;>simp at h
    |goto l'=>exact HE M x _ _ _ _ hx
    |_=>simp only[hx,cH,cK,reduceCtorEq,false_and] at h
 | .loop x,p,σ,l,σ'=>by
   intro h
   simp only[exec] at h
   cases hn:M.qR p σ with
   |none=>simp only[hn,dz] at h;cases h
   |some σ1=>
    simp only[hn,dA] at h
    exact Ri (fun _ _ _=>HE M x _ _ _ _) _ _ _ _ h
 | .scope x,p,σ,l,σ'=>by
   intro h
   simp only[exec] at h
   exact HE M x _ _ _ _ h
 | .goto _,_,_,_,_=>by simp [exec]
 | .rangeFunc g ps as body,_,_,_,_=>by simp only[exec];exact rngX_no
 | .refuse _,_,_,_,_=>by simp [exec]
theorem yE {M:Mach R} (G:Good M): ∀ (c:Code) (p:List Nat) (Q:qG→AState→Prop) (σ:AState) (e:qG) (σ':AState),exec M c p σ=some (e,σ')→Q e σ'→QB M.P c Q σ
 | .skip,_,Q,σ,e,σ',h,hq=>by simp only[exec,cH,cK] at h;obtain ⟨rfl,rfl⟩:=h;exact hq
 | .label _,_,Q,σ,e,σ',h,hq=>by simp only[exec,cH,cK] at h;obtain ⟨rfl,rfl⟩:=h;exact hq
 | .ret,_,Q,σ,e,σ',h,hq=>by simp only[exec,cH,cK] at h;obtain ⟨rfl,rfl⟩:=h;exact hq
 | .exit id,_,Q,σ,e,σ',h,hq=>by simp only[exec,cH,cK] at h;obtain ⟨rfl,rfl⟩:=h;exact hq
 | .region _ ops false,_,Q,σ,e,σ',h,hq=>by
   simp only[exec] at h
   exact zC G _ _ _ _ h hq
 | .region _ ops true,_,Q,σ,e,σ',h,hq=>by
   simp only[exec] at h
   rw[pU] at h
   obtain ⟨hp,h⟩:=h
   exact ⟨hp,Dh G _ _ _ _ _ _ h hq⟩
 | .seq x y,p,Q,σ,e,σ',h,hq=>by
   simp only[exec] at h
   cases hx:exec M x (0::p) σ with
   |none=>simp only[hx] at h;cases h
   |some r=>
    obtain ⟨e1,σ1⟩:=r
    refine yE G x (0::p) _ σ e1 σ1 hx ?_
    cases e1 with
    |normal=>
     simp only[hx] at h
     cases hc:M.cut (1::p) σ1 with
     |none=>simp only[hc,dz] at h;cases h
     |some σ2=>
      simp only[hc,dA] at h
      exact ⟨σ2,G.cut _ _ _ hc,yE G y (1::p) Q σ2 e σ' h hq⟩
    |_=>
     simp only[hx,cH,cK] at h
     obtain ⟨rfl,rfl⟩:=h
     exact hq
 | .cond c x y,p,Q,σ,e,σ',h,hq=>by
   simp only[exec] at h
   simp only[QB]
   cases hv:σ.ev c with
   |bool b=>
    simp only[hv] at h ⊢
    cases b with
    |true=>simp only[cond_true,setB_eq hv] at h;exact ⟨fun _=>yE G x (0::p) Q σ e σ' h hq,fun h=>(by cases h)⟩
    |false=>simp only[cond_false,setB_eq hv] at h;exact ⟨fun h=>(by cases h),fun _=>yE G y (1::p) Q σ e σ' h hq⟩
   |_=>simp only[hv] at h;cases h
 | .block id x,p,Q,σ,e,σ',h,hq=>by
   simp only[exec] at h
   cases hx:exec M x (0::p) σ with
   |none=>simp only[hx] at h;cases h
   |some r=>
    obtain ⟨e1,σ1⟩:=r
    refine yE G x (0::p) _ σ e1 σ1 hx ?_
    cases e1 with
    |exit id'=>
     simp only[hx] at h
     simp only[qG.inBlock]
     split at h
     ·rename_i he
      simp only[cH,cK] at h
      obtain ⟨rfl,rfl⟩:=h
      rw[if_pos he];exact hq
     ·rename_i he
      simp only[cH,cK] at h
      obtain ⟨rfl,rfl⟩:=h
      rw[if_neg he];exact hq
    |_=>
     simp only[hx,cH,cK] at h
     obtain ⟨rfl,rfl⟩:=h
     exact hq
 | .loop x,p,Q,σ,e,σ',h,hq=>by
   simp only[exec] at h
   cases hn:M.qR p σ with
   |none=>simp only[hn,dz] at h;cases h
   |some σ1=>
    simp only[hn,dA] at h
    refine ⟨fun m σ2=>lqN (M.qR p) (exec M x (0::p)) m σ2=some (e,σ'),M.n,σ1,G.qR _ _ _ hn,h,?_⟩
    intro m σ2 h2
    cases m with
    |zero=>simp only[lqN] at h2;cases h2
    |succ m=>
     simp only[lqN] at h2
     cases hx:exec M x (0::p) σ2 with
     |none=>simp only[hx] at h2;cases h2
     |some r=>
      obtain ⟨e1,σ3⟩:=r
      refine yE G x (0::p) _ σ2 e1 σ3 hx ?_
      cases e1 with
      |normal=>
       simp only[hx] at h2
       cases hn2:M.qR p σ3 with
       |none=>simp only[hn2,dz] at h2;cases h2
       |some σ4=>
        simp only[hn2,dA] at h2
        exact ⟨m,σ4,Nat.lt_succ_self _,G.qR _ _ _ hn2,h2⟩
      |_=>
       simp only[hx,cH,cK] at h2
       obtain ⟨rfl,rfl⟩:=h2
       exact hq
 | .scope x,p,Q,σ,e,σ',h,hq=>by
   simp only[exec] at h
   refine yE G x (0::p) _ σ e σ' h ?_
   cases e with
   |goto l=>exact absurd h (by
     intro h
     exact HE M x (0::p) σ _ _ h)
   |_=>exact hq
 | .goto _,_,_,_,_,_,h,_=>by simp only[exec] at h;cases h
 | .rangeFunc g ps as body,p,Q,σ,e,σ',h,hq=>by
   simp only[exec] at h
   simp only[QB]
   unfold rngX at h
   split at h
   ·rename_i f first cap hv
    split at h
    ·rename_i r H' hc
     refine W9 hv ((G.cl f _ {σ with slots:=σ.slots++[.map σ.heap.length],heap:=σ.heap++[.loop ⟨ps,as,body,M.js p⟩ σ.slots .ready 0]} r H' hc).mono ?_)
     rintro o' Du ⟨rfl,rfl⟩
     unfold endX at h
     split at h
     ·rename_i k s st uW hH
      rw[pU] at h
      obtain ⟨hst,h⟩:=h
      subst hst
      refine ⟨r,k,s,uW,rfl,hH,?_⟩
      generalize sQ k.js uW=pc at*
      unfold Xa at h
      split at h
      ·simp only[cH,cK] at h;obtain ⟨rfl,rfl⟩:=h;exact hq
      ·simp only[cH,cK] at h;obtain ⟨rfl,rfl⟩:=h;exact hq
      ·simp only[cH,cK] at h;obtain ⟨rfl,rfl⟩:=h;exact hq
      ·cases h
     ·cases h
    ·cases h
   ·cases h
 | .refuse _,_,_,_,_,_,h,_=>by simp only[exec] at h;cases h
end
end Go.Abs
