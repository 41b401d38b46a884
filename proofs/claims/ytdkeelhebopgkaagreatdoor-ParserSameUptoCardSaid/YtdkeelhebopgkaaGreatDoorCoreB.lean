/- A part of the proof: abstract states and the rules for them. -/
import Derived.Test.YtdkeelhebopgkaaGreatDoorCoreA
import Derived.RangeFuncLeaves
set_option linter.all false
open Go.Op renaming operands → cJ
open Option.some renaming injEq → cK,inj → dV
open Bool renaming and_eq_true → cM,or_eq_true → dr,false_eq_true → dK,not_true → eF,or_false → eY
open Prod.mk renaming injEq → cN
open List renaming getElem?_eq_some_iff → cO,mem_append → cP,getElem?_append_left → cQ,mem_singleton → cR,all_eq_true → cT,eq_nil_of_length_eq_zero → cU,mem_cons → cW,getElem?_eq_getElem → cX,getElem?_set_ne → c9,getElem?_append_right → dh,getElem?_set_self → dj,length_erase_of_mem → dw,map_congr_left → dx,isEmpty_iff → dy,range'_succ → dz,map_nil → dD,getElem?_cons_zero → dJ,flatten_cons → dM,not_mem_nil → dN,length_cons → dO,map_cons → dQ,getD_eq_getElem?_getD → dR,mem_filter → dX,pairwise_cons → dZ,range → eg,set_comm → ep,mem_of_mem_erase → ew,take_left' → ey,drop_left' → ez,range_eq_range' → eA,tail_drop → eB,length_append → eD,mem_cons_self → eE,append_assoc → eI,mem_map → eL,filter_cons → eN,tail → eO,pairwise_lt_range → eP,length_singleton → eR,mem_range → eS,replicate → eT,set_getElem_self → eU,erase_cons_head → eV,erase_cons_tail → eW,range' → ff
open Iff renaming rfl → cV
open Array renaming getElem?_eq_some_iff → cY,replicate → dA,getElem?_eq_getElem → dY,toList_push → eJ,mem_append → eK,getD → eX,toList_append → eZ
open Nat renaming lt_of_lt_of_le → cZ,le_refl → dc,not_lt_zero → dm,add_right_cancel_iff → ec,zero_le → eC,ne_of_lt → eM,sub_self → e8,add_mul → e9,one_mul → fc
open Option renaming bind_eq_some_iff → dn,bind_none → dG,bind_some → dH,getD_some → eu
open List.cons renaming injEq → dU
open Go.Oper renaming apart_spec → dW,semAt_eq → eG,uponIn_enter → eH
open Go.Fence renaming wide → eo
namespace Go.Abs
def yP (P:Program) (f:FuncId) (args:List AV) (V:AV→Prop):Prop:=
 enters P f=true∧nbL 0 args∧ ∀ (C:Ctx) (φ:Nat→Value) (w:World),C.P=P→C.w0=w→C.N0=0→(∀b o,¬ C.M0 b o)→ ∀vs:Array Value,k6 (C.env φ [] w) args vs.toList→
  Calls P f vs w fun e w'=> ∃r v φ',V r∧e= .returned v∧nO (C.env φ' [] w') r v∧w.heap.size≤w'.heap.size∧(∀b,b<w.heap.size→w'.heap[b]? =w.heap[b]?)∧
   (∀x,x.block<w.heap.size→w'.frozen? x=w.frozen? x)∧w'.output=w.output∧w'.os=w.os
section grown
variable {C:Ctx} {φ:Nat→Value} {σ:AState} {a:Act} {w w':World}
theorem cell_of_heap (hh: ∀b,b<w.heap.size→w'.heap[b]? =w.heap[b]?) {b o:Nat} (hb:b<w.heap.size):w'.cell? ⟨b,o,none⟩=w.cell? ⟨b,o,none⟩:=by
 simp only[World.cell?,hh b hb]
theorem mA.grown (S:mA C φ σ a w) (hs:w.heap.size≤w'.heap.size) (hh: ∀b,b<w.heap.size→w'.heap[b]? =w.heap[b]?) (hf: ∀x,x.block<w.heap.size→w'.frozen? x=w.frozen? x) (hr:w'.output=w.output∧w'.os=w.os):
 mA C φ σ a w':=by
 have le:(C.env φ σ.heap w).Le σ.heap.length (C.env φ σ.heap w'):=
  Ctx.Bi (dc _) (fun _ _=>⟨rfl,rfl⟩) (fun b o u hm hc=>⟨hm,by rw[cell_of_heap hh (F7 hc)];exact hc⟩)
 refine {slots:=k6.mono le _ _ (k6.nb _ _ S.slots) S.slots,defers:=S.defers.same le hh,objs:= ?_,apart:=S.apart,s6:=S.s6,size:=Nat.le_trans S.size hs,old:= ?_,ni:= ?_,C5:=S.C5,vT:=fun x hx=>by rw[hf x (cZ hx S.size)];exact S.vT x hx,rest:=⟨by rw[hr.1];exact S.rest.1,by rw[hr.2];exact S.rest.2⟩,low:=S.low,names:=S.names}
 ·intro l x hx
  have r:=S.objs l x hx
  exact nk.mono r le (fun b hb=>hh b (r.qc hb))
 ·intro b o hb hm;rw[cell_of_heap hh (cZ hb S.size)];exact S.old b o hb hm
 ·intro b hb hm;rw[hh b (cZ hb S.size)];exact S.ni b hb hm
def mA.callee (S:mA C φ σ a w):Ctx:=
 {P:=C.P,w0:=w,M0:=fun _ _=>False,A:=fun b o=>ET φ σ.heap b o∨C.A b o,
  hA:=by
   rintro b o (⟨l,x,hx,hm⟩|hA)
   ·exact (S.objs l x hx).qc (AObj.nu hm)
   ·exact cZ (C.hA b o hA) S.size
  hk:=fun b o h=>let ⟨v,h1,h2,_⟩:=S.know b o h;⟨v,h1,h2,fun f=>f⟩}
theorem mA.callee_le (S:mA C φ σ a w) (φ':Nat→Value) (w1:World):(C.env φ σ.heap w1).Le 0 (S.callee.env φ' [] w1):=by
 refine ⟨eC _,fun l hl=>absurd hl (dm _),fun b o u hm hc=>⟨?_,hc⟩⟩
 simp only[Ctx.env,mA.callee] at hm ⊢
 rintro (⟨l,x,hx,_⟩|h)
 ·simp at hx
 ·exact hm h
theorem mA.callee_ge (S:mA C φ σ a w) (φ':Nat→Value) (w1:World):(S.callee.env φ' [] w1).Le 0 (C.env φ σ.heap w1):=by
 refine ⟨eC _,fun l hl=>absurd hl (dm _),fun b o u hm hc=>⟨?_,hc⟩⟩
 simp only[Ctx.env,mA.callee] at hm ⊢
 exact fun h=>hm (.inr h)
theorem L2 {P:Program} {f:FuncId} {args:List AV} {V:AV→Prop} {K:ud→List AObj→Prop} (h:yP P f args V) (hK: ∀r,V r→K (.ret r) σ.heap):yO P f args σ K:=by
 obtain ⟨he,hn,hc⟩:=h
 refine ⟨he,fun C φ a w hP S vs hr=> ?_⟩
 refine (hc S.callee φ w hP rfl rfl (fun _ _ h=>h) vs (k6.mono (S.callee_le φ w) _ _ hn hr)).mono ?_
 rintro e w' ⟨r,v,φ',hV,rfl,rep,hs,hh,hf,ho⟩
 refine ⟨.ret r,φ,σ.heap,hK r hV,S.grown hs hh hf ho,?_⟩
 exact nO.mono (S.callee_ge φ' w') _ _ (nO.nb _ _ rep) rep
theorem yP.mono {P:Program} {f:FuncId} {args:List AV} {V V':AV→Prop} (h:yP P f args V) (hv: ∀r,V r→V' r):yP P f args V':=by
 obtain ⟨he,hn,hc⟩:=h
 refine ⟨he,hn,fun C φ w hP h0 hN hM vs hr=>(hc C φ w hP h0 hN hM vs hr).mono ?_⟩
 rintro e w' ⟨r,v,φ',hV,rest⟩
 exact ⟨r,v,φ',hv r hV,rest⟩
end grown
section loc
variable {P:Program} {σ σ':AState}
theorem Nz {c:Call} {x:Operand} (h:x∈c.args):x∈(Op.call c).operands:=by
 simp only[cJ,Call.operands,eK];exact .inr h
theorem R9 {d:Nat} {x:Option Operand} (h: ∀y,x=some y→σ'.ev y=σ.ev y):bound σ' d x=bound σ d x:=by
 cases x with
 |none=>rfl
 |some y=>simp only[bound,h y rfl]
theorem Uw {H H':List AObj}: ∀ {cs ds:List AV} {ns:List Nat},Vv H cs=some (ds,ns)→(∀l∈ns,H'[l]? =H[l]?)→Vv H' cs=some (ds,ns)
 |[],_,_,h,_=>by simp only[Vv] at h ⊢;exact h
 |c::cs,ds,ns,h,hr=>by
  unfold Vv at h ⊢
  split at h
  ·cases ‹_::_=[]›
  ·rename_i l n cs' heq
   simp only[dU] at heq
   obtain ⟨rfl,rfl⟩:=heq
   split at h
   ·rename_i pY sz rows hl
    split at h
    ·rename_i hn
     split at h
     ·rename_i es ms he
      simp only[cK,cN] at h
      obtain ⟨rfl,rfl⟩:=h
      have:=Uw he (fun k hk=>hr k (by simp [hk]))
      simp only[hr l (by simp),hl,hn,if_true,this]
     ·cases h
    ·cases h
   ·cases h
  ·rename_i c' cs' hne heq
   simp only[dU] at heq
   obtain ⟨rfl,rfl⟩:=heq
   split at h
   ·rename_i es ms he
    simp only[cK,cN] at h
    obtain ⟨rfl,rfl⟩:=h
    have:=Uw he hr
    cases c<;>first|(simp only[this];done)|exact (hne _ _ rfl).elim
   ·cases h
theorem vwL_lt {H:List AObj}: ∀ {cs ds:List AV} {ns:List Nat},Vv H cs=some (ds,ns)→ ∀l∈ns,l<H.length
 |[],_,_,h=>by simp only[Vv,cK,cN] at h;obtain ⟨_,rfl⟩:=h;simp
 |c::cs,ds,ns,h=>by
  unfold Vv at h
  split at h
  ·cases ‹_::_=[]›
  ·rename_i l n cs' heq
   simp only[dU] at heq
   obtain ⟨rfl,rfl⟩:=heq
   split at h
   ·rename_i pY sz rows hl
    split at h
    ·split at h
     ·rename_i es ms he
      simp only[cK,cN] at h
      obtain ⟨_,rfl⟩:=h
      intro k hk
      simp only[cW] at hk
      rcases hk with rfl|hk
      ·exact (cO.1 hl).1
      ·exact vwL_lt he k hk
     ·cases h
    ·cases h
   ·cases h
  ·rename_i c' cs' hne heq
   simp only[dU] at heq
   obtain ⟨rfl,rfl⟩:=heq
   split at h
   ·rename_i es ms he
    simp only[cK,cN] at h
    obtain ⟨_,rfl⟩:=h
    exact vwL_lt he
   ·cases h
theorem ldV_local {H H':List AObj} {l:Nat} {v:AV} {e:u7} (h:ldV H l v=some e) (hr: ∀k∈e.rd,H'[k]? =H[k]?):ldV H' l v=some e:=by
 unfold ldV at h ⊢
 split at h
 ·split at h
  ·rename_i ds ns he
   cases h
   rw[Uw he (fun k hk=>hr k (by simp [hk]))]
  ·cases h
 ·exact h
theorem ldV_rd {H:List AObj} {l:Nat} {v:AV} {e:u7} (h:ldV H l v=some e):l∈e.rd∧e.up=[]∧ ∀k∈e.rd,k=l∨k<H.length:=by
 unfold ldV at h
 split at h
 ·split at h
  ·rename_i ds ns he
   cases h
   refine ⟨by simp,rfl,fun k hk=> ?_⟩
   simp only[cW] at hk
   rcases hk with rfl|hk
   ·exact .inl rfl
   ·exact .inr (vwL_lt he k hk)
  ·cases h
 ·cases h
  exact ⟨by simp,rfl,fun k hk=>by simp at hk;exact .inl hk⟩
theorem opEff_local {o:Op} {e:u7} (h:lA P σ o=some e) (Ho: ∀x∈o.operands,σ'.ev x=σ.ev x) (hrd: ∀l∈e.rd,σ'.heap[l]? =σ.heap[l]?) (hnw:e.nw≠[]→σ'.heap.length=σ.heap.length):
 lA P σ' o=some e:=by
 cases o with
 |move x=>simp only[lA] at h ⊢;rw[Ho x (by simp [cJ])];exact h
 |assign x=>simp only[lA] at h ⊢;rw[Ho x (by simp [cJ])];exact h
 |pick c x y=>simp only[lA] at h ⊢;rw[Ho c (by simp [cJ]),Ho x (by simp [cJ]),Ho y (by simp [cJ])];exact h
 |alloc t=>
  simp only[lA] at h ⊢
  split at h
  ·cases h;rw[hnw (by simp)]
  ·cases h
 |box t x=>
  simp only[lA] at h ⊢
  rw[Ho x (by simp [cJ])]
  split at h
  ·cases h;rw[hnw (by simp)]
  ·cases h
 |build t parts=>
  simp only[lA] at h ⊢
  have:(parts.toList.map fun p=>(p.1,σ'.ev p.2))=(parts.toList.map fun p=>(p.1,σ.ev p.2)):=by
   apply dx
   intro p hp
   rw[Ho p.2 (by simp only[cJ,List.mem_toArray,eL];exact ⟨p,hp,rfl⟩)]
  rw[this];exact h
 |buildSlice t len parts=>
  simp only[lA] at h ⊢
  have:(parts.toList.map fun p=>(p.1,σ'.ev p.2))=(parts.toList.map fun p=>(p.1,σ.ev p.2)):=by
   apply dx
   intro p hp
   rw[Ho p.2 (by simp only[cJ,List.mem_toArray,eL];exact ⟨p,hp,rfl⟩)]
  rw[this]
  cases hlit:litF t (Yv (parts.toList.map (·.2))) with
  |false=>rw[hlit] at h;exact h
  |true=>
   rw[hlit] at h
   have hn:σ'.heap.length=σ.heap.length:=hnw (by (repeat' split at h)<;>(first|(cases h;simp)|cases h))
   rw[hn];exact h
 |load t x=>
  simp only[lA] at h ⊢
  rw[Ho x (by simp [cJ])]
  split at h
  ·rename_i g n l off ht hx
   split at h
   ·rename_i cs hl
    split at h
    ·rename_i v hv
     rw[hrd l (ldV_rd h).1,hl];simp only[hv]
     exact ldV_local h hrd
    ·cases h
   ·cases h
  ·exact h
  ·rename_i g n l i m o' sz ht hx
   split at h
   ·rename_i sz' rows hl
    split at h
    ·rename_i hc
     split at h
     ·rename_i r hr
      split at h
      ·rename_i v hv
       cases h
       rw[hrd l (by simp),hl];simp only[hc,and_self,if_true,hr,hv]
      ·cases h
     ·cases h
    ·cases h
   ·cases h
  ·exact h
  ·cases h
 |store t x y=>
  simp only[lA] at h ⊢
  rw[Ho x (by simp [cJ]),Ho y (by simp [cJ])]
  split at h
  ·rename_i g n l off ys ht hx hy
   split at h
   ·rename_i cs hl
    split at h
    ·rename_i hc
     cases h
     rw[hrd l (by simp),hl];simp only[hc,and_self,if_true]
    ·cases h
   ·cases h
  ·rename_i g n l i m o' sz ys ht hx hy
   split at h
   ·rename_i sz' rows hl
    split at h
    ·rename_i hc
     split at h
     ·rename_i r hr
      split at h
      ·rename_i hc2
       cases h
       rw[hrd l (by simp),hl];simp only[hc,hc2,and_self,if_true,hr]
      ·cases h
     ·cases h
    ·cases h
   ·cases h
  ·cases h
 |nilCheck x=>simp only[lA] at h ⊢;rw[Ho x (by simp [cJ])];exact h
 |binOp op t x y ty=>simp only[lA] at h ⊢;rw[Ho x (by simp [cJ]),Ho y (by simp [cJ])];exact h
 |unOp op t x=>simp only[lA] at h ⊢;rw[Ho x (by simp [cJ])];exact h
 |convert s d x=>simp only[lA] at h ⊢;rw[Ho x (by simp [cJ])];exact h
 |makeInterface t x=>simp only[lA] at h ⊢;rw[Ho x (by simp [cJ])];exact h
 |makeFunc fn f c=>
  simp only[lA] at h ⊢
  have e1:f.toList.map σ'.ev=f.toList.map σ.ev:=dx fun x hx=>Ho x (by simp only[cJ,eK];exact .inl (by simpa using hx))
  have e2:c.toList.map σ'.ev=c.toList.map σ.ev:=dx fun x hx=>Ho x (by simp only[cJ,eK];exact .inr (by simpa using hx))
  rw[e1,e2];exact h
 |makeSlice t x y=>
  simp only[lA] at h ⊢
  rw[Ho x (by simp [cJ]),Ho y (by simp [cJ])]
  split at h
  ·split at h
   ·split at h
    ·rename_i hc
     cases h
     rw[if_pos hc,hnw (by simp)]
    ·cases h
   ·cases h
  ·cases h
 |slice t x lo hi mx=>
  simp only[lA] at h ⊢
  have hx:=Ho x (by simp [cJ])
  have h1: ∀d,bound σ' d lo=bound σ d lo:=fun d=>R9 fun y hy=>Ho y (by simp [cJ,hy])
  have h2: ∀d,bound σ' d hi=bound σ d hi:=fun d=>R9 fun y hy=>Ho y (by simp [cJ,hy])
  have h3: ∀d,bound σ' d mx=bound σ d mx:=fun d=>R9 fun y hy=>Ho y (by simp [cJ,hy])
  rw[hx]
  simp only[VY,h1,h2,h3] at h ⊢
  split at h
  ·split at h
   ·cases h
   ·rename_i hmx
    rw[if_neg hmx]
    split at h
    ·exact h
    ·split at h
     ·rename_i hl
      split at h
      ·rename_i VW hb2 hb3
       split at h
       ·rename_i hc
        cases h
        rw[hrd _ (by simp),hl]
        simp only[VW,hb2,hb3]
        rw[if_pos hc]
       ·cases h
      ·cases h
     ·cases h
    ·cases h
  ·exact h
 |fieldAddr t x i=>simp only[lA] at h ⊢;rw[Ho x (by simp [cJ])];exact h
 |field t x i=>simp only[lA] at h ⊢;rw[Ho x (by simp [cJ])];exact h
 |indexAddr t x i=>
  simp only[lA] at h ⊢
  rw[Ho x (by simp [cJ]),Ho i (by simp [cJ])]
  split at h
  ·split at h
   ·exact h
   ·split at h
    ·rename_i hl
     split at h
     ·rename_i hc
      split at h
      ·rename_i hr
       cases h
       rw[hrd _ (by simp),hl]
       simp only[hr]
       rw[if_pos hc]
      ·cases h
     ·cases h
    ·rename_i hl
     split at h
     ·rename_i hc
      cases h
      rw[hrd _ (by simp),hl]
      simp only
      rw[if_pos hc]
     ·cases h
    ·cases h
   ·cases h
  ·exact h
 |index t x i=>simp only[lA] at h ⊢;rw[Ho x (by simp [cJ]),Ho i (by simp [cJ])];exact h
 |extract x i=>simp only[lA] at h ⊢;rw[Ho x (by simp [cJ])];exact h
 |call c=>
  obtain ⟨cl,args,ts⟩:=c
  cases cl with
  |builtin b=>
   simp only[lA] at h ⊢
   have e1:args.toList.map σ'.ev=args.toList.map σ.ev:=dx fun x hx=>Ho x (Nz (by simpa using hx))
   rw[e1]
   revert h
   generalize args.toList.map σ.ev=xs
   generalize ts.toList=tl
   intro h
   unfold Jz at h ⊢
   split at h
   ·rename_i t x
    unfold lenAV at h ⊢
    split at h
    ·exact h
    ·exact h
    ·split at h
     ·rename_i ht
      rw[if_pos ht]
      split at h
      ·rename_i hl
       split at h
       ·rename_i hn
        cases h
        rw[hrd _ (by simp),hl];simp [hn]
       ·cases h
      ·cases h
     ·cases h
    ·cases h
   ·rename_i t u x y
    split at h
    ·rename_i et sz by' ht hu
     split at h
     ·split at h
      ·rename_i hc
       rw[if_pos hc]
       unfold O3 at h ⊢
       split at h
       ·cases h
       ·rename_i rd ys hsrc
        have hsub: ∀l∈rd,l∈e.rd:=by
         split at h
         ·split at h
          ·split at h
           ·cases h;intro l hl;simp [hl]
           ·cases h
          ·cases h
         ·split at h
          ·split at h
           ·cases h;intro l hl;exact hl
           ·cases h;intro l hl;exact hl
          ·cases h
         ·cases h
        have hsrc':Qc σ' sz y=some (rd,ys):=by
         unfold Qc at hsrc ⊢
         split at hsrc
         ·exact hsrc
         ·split at hsrc
          ·rename_i hl
           split at hsrc
           ·rename_i hc
            cases hsrc
            rw[hrd _ (hsub _ (by simp)),hl];simp [hc]
           ·cases hsrc
          ·cases hsrc
         ·exact hsrc
         ·cases hsrc
        rw[hsrc']
        simp only
        split at h
        ·split at h
         ·rename_i hl
          split at h
          ·rename_i ZV
           cases h
           rw[hrd _ (by simp),hl];simp [ZV]
          ·cases h
         ·cases h
        ·split at h
         ·rename_i ZV
          rw[if_pos ZV]
          split at h
          ·rename_i hc2
           cases h
           rw[if_pos hc2,hnw (by simp)]
          ·rename_i hc2
           cases h
           rw[if_neg hc2]
         ·cases h
        ·cases h
      ·cases h
     ·cases h
    ·cases h
   ·exact h
   ·exact h
   ·cases h
  |value f=>cases h
  |invoke r m=>cases h
 |makeMap t r=>
  cases r with
  |some r=>cases h
  |none=>cases h;simp only[lA];rw[hnw (by simp)]
 |typeAssert x u t ok=>
  cases ok with
  |false=>cases h
  |true=>simp only[lA] at h ⊢;rw[Ho x (by simp [cJ])];exact h
 |lookup t x k ok=>
  cases ok with
  |true=>
   simp only[lA] at h ⊢
   rw[Ho x (by simp [cJ]),Ho k (by simp [cJ])]
   split at h
   ·rename_i z l s ht hx' hk'
    unfold WM at h ⊢
    split at h
    ·rename_i es hl
     split at h
     ·rename_i hs
      cases h
      rw[hrd l (by cases yw s es<;>simp [lookV]),hl];simp [hs]
     ·cases h
    ·cases h
   ·cases h
  |false=>
   simp only[lA] at h ⊢
   rw[Ho x (by simp [cJ]),Ho k (by simp [cJ])]
   split at h
   ·rename_i z l s ht hx' hk'
    unfold Us at h ⊢
    split at h
    ·rename_i es hl
     split at h
     ·rename_i hs
      cases h
      rw[hrd l (by simp),hl];simp [hs]
     ·cases h
    ·cases h
   ·cases h
 |range t x=>
  simp only[lA] at h ⊢
  rw[Ho x (by simp [cJ])]
  split at h
  ·cases h;rw[hnw (by simp)]
  ·cases h
 |next x st=>
  cases st with
  |false=>cases h
  |true=>
   simp only[lA] at h ⊢
   rw[Ho x (by simp [cJ])]
   split at h
   ·rename_i l hv
    unfold Ut at h ⊢
    split at h
    ·rename_i s p hl
     split at h
     ·rename_i hp
      cases h
      rw[hrd l (by simp),hl];simp [hp]
     ·rename_i hp
      cases h
      rw[hrd l (by simp),hl];simp [hp]
    ·cases h
   ·cases h
 |mapUpdate t x k y=>
  simp only[lA] at h ⊢
  rw[Ho x (by simp [cJ]),Ho k (by simp [cJ]),Ho y (by simp [cJ])]
  split at h
  ·rename_i z l s ht hx' hk'
   unfold mapUpEff at h ⊢
   split at h
   ·rename_i es hl
    split at h
    ·rename_i hs
     cases h
     rw[hrd l (by simp),hl];simp [hs]
    ·cases h
   ·cases h
  ·cases h
 |insert t x k y=>
  simp only[lA] at h ⊢
  rw[Ho x (by simp [cJ]),Ho k (by simp [cJ]),Ho y (by simp [cJ])]
  split at h
  ·rename_i z l s ht hx' hk'
   unfold mapUpEff at h ⊢
   split at h
   ·rename_i es hl
    split at h
    ·rename_i hs
     cases h
     rw[hrd l (by simp),hl];simp [hs]
    ·cases h
   ·cases h
  ·cases h
 |_=>cases h
end loc
end Go.Abs
namespace Go.Abs
def yW (o:Oper):List Nat:=(o.after.toList.filter (Region.binds .any)).map (·.on)
def reachM:List Oper→List Nat→List Nat
 |[],acc=>acc
 |o::os,acc=>reachM os (acc++[(yW o).foldl (fun s d=>s|||2 ^ d|||acc.getD d 0) 0])
def qd (ops:Array Oper) (i j:Nat):Bool:=((reachM ops.toList []).getD j 0).testBit i
def Cl:Op→Bool
 | .call {callee:= .builtin _,..}=>false
 | .call _=>true
 |_=>false
def Gl (ops:Array Oper):Bool:=
 Region.noSelect ops&&
 (let r:=reachM ops.toList []
  (eg ops.size).all fun j=>match ops[j]? with
   |none=>true
   |some oj=>(yW oj).all (· <j)&&(eg j).all fun i=>match ops[i]? with
    |none=>true
    |some oi=>(r.getD j 0).testBit i||(oi.apart ops oj&& !(Cl oi.op&&Cl oj.op)))
structure Tr where
 j:Nat
 n:Nat
 e:u7
def GB (a b:List Nat):Bool:=a.all fun x=> !b.contains x
def Bj (t:Tr) (e:u7):Bool:=
 GB (t.e.up.map (·.1)) (e.rd++e.up.map (·.1))&&GB (e.up.map (·.1)) t.e.rd&&
 (t.e.nw.isEmpty||(e.nw.isEmpty&&(e.rd++e.up.map (·.1)).all fun l=>decide (l<t.n)))&&
 ((!t.e.whole||(e.up.isEmpty&&e.nw.isEmpty))&&(!e.whole||(t.e.up.isEmpty&&t.e.nw.isEmpty)))
def quiet:Op→Bool
 | .move _| .assign _| .pick _ _ _| .load _ _| .store _ _ _| .binOp _ _ _ _ _| .unOp _ _ _| .fieldAddr _ _ _| .field _ _ _| .indexAddr _ _ _| .index _ _ _| .extract _ _=>true
 |_=>false
def Qg (o:Oper):Bool:=(match o.op with| .alloc _=>true|_=>false)&&o.guard.isNone
def Rk (ops:Array Oper) (i j:Nat):Bool:=
 match ops[i]?,ops[j]? with
 |some oi,some oj=>Qg oi&&Qg oj&&(yW oi).isEmpty&&(yW oj).isEmpty&&decide (i<j)&&
  (eg ops.size).all fun k=>k==i||k==j||(match ops[k]? with
    |none=>true
    |some o=>quiet o.op&&(qd ops i k==qd ops j k))
 |_,_=>false
def YJ (ops:Array Oper) (i j:Nat):Bool:=qd ops i j||Rk ops i j
def Dv (ops:Array Oper) (tr:List Tr) (j:Nat) (e:u7):Bool:=tr.all fun t=>Bj t e||YJ ops t.j j
def DU (P:Program) (f:FuncId) (args:List AV) (σ:AState) (e:u7):Prop:=
 ((∀l∈e.rd,l<σ.heap.length)∧ ∀l∈e.up.map (·.1),l∈e.rd)∧
 ∀σ':AState,(∀l∈e.rd,σ'.heap[l]? =σ.heap[l]?)→(e.nw≠[]→σ'.heap.length=σ.heap.length)→(e.whole=true→σ'.heap=σ.heap)→yO P f args σ' (fun o H'=>o= .ret e.val∧H'=l7 σ'.heap e.up++e.nw)
theorem DU.move {P:Program} {f:FuncId} {args:List AV} {σ σ':AState} {e:u7} (h:DU P f args σ e) (h1: ∀l∈e.rd,σ'.heap[l]? =σ.heap[l]?) (h2:e.nw≠[]→σ'.heap.length=σ.heap.length) (h3:e.whole=true→σ'.heap=σ.heap):DU P f args σ' e:=by
 refine ⟨⟨fun l hl=> ?_,h.1.2⟩,fun σ2 k1 k2 k3=>h.2 σ2 (fun l hl=>(k1 l hl).trans (h1 l hl)) (fun hn=>(k2 hn).trans (h2 hn)) (fun hw=>(k3 hw).trans (h3 hw))⟩
 have hlt:=h.1.1 l hl
 have:=h1 l hl
 rw[cX hlt] at this
 exact (cO.1 this).1
def yc (P:Program) (ops:Array Oper) (o:Oper) (σ:AState) (S:u7→Prop):Prop:=
 (oR ops o σ=some false∧ ∀e,S e↔e={val:= .raw undef})∨
 (oR ops o σ=some true∧mN σ o.op=none∧ ∃e,lA P σ o.op=some e∧e.pre∧ ∀e',S e'↔e'=e)∨
 (oR ops o σ=some true∧ ∃f args V,mN σ o.op=some (f,args)∧yP P f args V∧(∃r,V r)∧ ∀e,S e↔ ∃r,V r∧e={val:=r})∨
 (oR ops o σ=some true∧ ∃f args e,mN σ o.op=some (f,args)∧DU P f args σ e∧ ∀e',S e'↔e'=e)
def V3 (P:Program) (ops:Array Oper) (K:AState→Prop):List Nat→List Tr→AState→Prop
 |[],_,σ=>K σ
 |j::rest,tr,σ=> ∃o S,ops[j]? =some o∧yc P ops o σ S∧ ∀e,S e→Dv ops tr j e=true∧V3 P ops K rest (tr++[⟨j,σ.heap.length,e⟩]) (σ.app o.dst e)
section
variable {P:Program} {ops:Array Oper} {K:AState→Prop}
theorem YK: ∀ {R:List Nat} {tr tr':List Tr} {σ:AState},(∀t∈tr',t∈tr)→V3 P ops K R tr σ→V3 P ops K R tr' σ
 |[],_,_,_,_,h=>h
 |j::rest,tr,tr',σ,hs,⟨o,S,ho,hst,h⟩=>by
  refine ⟨o,S,ho,hst,fun e he=> ?_⟩
  obtain ⟨hc,hr⟩:=h e he
  refine ⟨?_,YK ?_ hr⟩
  ·unfold Dv at*
   rw[cT] at*
   exact fun t ht=>hc t (hs t ht)
  ·intro t ht
   rcases cP.1 ht with ht|ht
   ·exact cP.2 (.inl (hs t ht))
   ·exact cP.2 (.inr ht)
theorem yc.nonempty {o:Oper} {σ:AState} {S:u7→Prop} (h:yc P ops o σ S): ∃e,S e:=by
 rcases h with ⟨_,h⟩|⟨_,_,e,_,_,h⟩|⟨_,f,args,V,_,_,⟨r,hr⟩,h⟩|⟨_,f,args,e,_,_,h⟩
 ·exact ⟨_,(h _).2 rfl⟩
 ·exact ⟨e,(h e).2 rfl⟩
 ·exact ⟨_,(h _).2 ⟨r,hr,rfl⟩⟩
 ·exact ⟨e,(h e).2 rfl⟩
theorem yc.det {o:Oper} {σ:AState} {S:u7→Prop} (h:yc P ops o σ S) (hc:Cl o.op=false): ∃e,∀e',S e'↔e'=e:=by
 rcases h with ⟨_,h⟩|⟨_,_,e,_,_,h⟩|⟨_,f,args,V,h1,_,_,h⟩|⟨_,f,args,e,_,_,h⟩
 ·exact ⟨_,h⟩
 ·exact ⟨e,h⟩
 rotate_left
 ·exact ⟨e,h⟩
 ·exfalso
  unfold mN at h1
  split at h1
  ·rename_i ho;rw[ho] at hc;simp [Cl] at hc
  ·cases h1
theorem yc.eq {o:Oper} {σ:AState} {S S':u7→Prop} (h:yc P ops o σ S) (h':yc P ops o σ S') (hc:Cl o.op=false): ∀e,S e↔S' e:=by
 have nc: ∀ {f args},mN σ o.op≠some (f,args):=by
  intro f args h1
  unfold mN at h1
  split at h1
  ·rename_i ho;rw[ho] at hc;simp [Cl] at hc
  ·cases h1
 rcases h with ⟨hw,h⟩|⟨hw,_,e,he,_,h⟩|⟨_,f,args,V,h1,_⟩|⟨_,f,args,_,h1,_⟩
 ·rcases h' with ⟨_,h'⟩|⟨hw',_⟩|⟨_,f,args,V,h1,_⟩|⟨_,f,args,_,h1,_⟩
  ·intro e;rw[h,h']
  ·rw[hw] at hw';cases hw'
  ·exact absurd h1 nc
  ·exact absurd h1 nc
 ·rcases h' with ⟨hw',_⟩|⟨_,_,e2,he2,_,h'⟩|⟨_,f,args,V,h1,_⟩|⟨_,f,args,_,h1,_⟩
  ·rw[hw] at hw';cases hw'
  ·intro x;rw[h,h'];rw[he] at he2;cases he2;exact cV
  ·exact absurd h1 nc
  ·exact absurd h1 nc
 ·exact absurd h1 nc
 ·exact absurd h1 nc
theorem JV {o:Oper} {σ σ':AState} (h: ∀j b d,o.guard=some (j,b)→(ops[j]?).bind (·.dst)=some d→σ'.slots[d]? =σ.slots[d]?):oR ops o σ'=oR ops o σ:=by
 unfold oR
 split
 ·rfl
 ·rename_i j want hg
  split
  ·rename_i d hd;rw[h j want d hg hd]
  ·rfl
theorem Hr {o:Op} {σ σ':AState} (h: ∀x∈o.operands,σ'.ev x=σ.ev x):mN σ' o=mN σ o:=by
 unfold mN
 split
 ·rename_i f args ts
  have h1:σ'.ev f=σ.ev f:=h f (by simp [cJ,Call.operands])
  have h2:args.toList.map σ'.ev=args.toList.map σ.ev:=dx fun x hx=>h x (Nz (by simpa using hx))
  rw[h1,h2]
 ·rfl
theorem yc.local {o:Oper} {σ σ':AState} {S:u7→Prop} (h:yc P ops o σ S) (Ho: ∀x∈o.op.operands,σ'.ev x=σ.ev x) (hw:oR ops o σ'=oR ops o σ)
 (hh: ∀e,S e→((∀l∈e.rd,σ'.heap[l]? =σ.heap[l]?)∧(e.nw≠[]→σ'.heap.length=σ.heap.length))∧(e.whole=true→σ'.heap=σ.heap)):yc P ops o σ' S:=by
 rcases h with ⟨h1,h⟩|⟨h1,h2,e,he,hp,h⟩|⟨h1,f,args,V,h2,h3,h4,h⟩|⟨h1,f,args,e,h2,h3,h⟩
 ·exact .inl ⟨by rw[hw];exact h1,h⟩
 ·refine .inr (.inl ⟨by rw[hw];exact h1,by rw[Hr Ho];exact h2,e,?_,hp,h⟩)
  obtain ⟨⟨a,b⟩,_⟩:=hh e ((h e).2 rfl)
  exact opEff_local he Ho a b
 ·exact .inr (.inr (.inl ⟨by rw[hw];exact h1,f,args,V,by rw[Hr Ho];exact h2,h3,h4,h⟩))
 ·obtain ⟨⟨a,b⟩,c⟩:=hh e ((h e).2 rfl)
  exact .inr (.inr (.inr ⟨by rw[hw];exact h1,f,args,e,by rw[Hr Ho];exact h2,h3.move a b c,h⟩))
theorem qq: ∀ (ups:List (Nat×AObj)) (H:List AObj),(l7 H ups).length=H.length
 |[],_=>rfl
 |(l,x)::r,H=>by simp [l7,qq r]
theorem V4: ∀ (ups:List (Nat×AObj)) (H:List AObj) (l:Nat),l ∉ ups.map (·.1)→(l7 H ups)[l]? =H[l]?
 |[],_,_,_=>rfl
 |(k,x)::r,H,l,h=>by
  simp only[dQ,cW,not_or] at h
  rw[l7,V4 r _ l h.2,c9 (fun e=>h.1 e.symm)]
theorem V5 {σ:AState} {dst:Option Tmp} {e:u7} {l:Nat} (h1:l ∉ e.up.map (·.1)) (h2:l<σ.heap.length):(σ.app dst e).heap[l]? =σ.heap[l]? :=by
 have:(σ.app dst e).heap=l7 σ.heap e.up++e.nw:=rfl
 rw[this,cQ (by rw[qq];exact h2),V4 _ _ _ h1]
theorem app_ev {σ:AState} {dst:Option Tmp} {e:u7} {x:Operand} (h: ∀d,dst=some d→x≠ .tmp d):(σ.app dst e).ev x=σ.ev x:=by
 cases x with
 |tmp t=>
  cases dst with
  |none=>rfl
  |some d=>
   have hne:d≠t:=fun he=>h d rfl (by rw[he])
   simp only[AState.ev,AState.app,AState.put,List.getD]
   rw[c9 hne]
 |const v=>rfl
 |global g=>rfl
 |func f=>rfl
theorem WQ {σ:AState} {dst:Option Tmp} {e:u7} {t:Nat} (h: ∀d,dst=some d→t≠d):(σ.app dst e).slots[t]? =σ.slots[t]? :=by
 cases dst with
 |none=>rfl
 |some d=>
  simp only[AState.app,AState.put]
  rw[c9 (fun he=>h d rfl he.symm)]
theorem opEff_lt {σ:AState} {o:Op} {e:u7} (h:lA P σ o=some e):(∀l∈e.rd,l<σ.heap.length)∧ ∀l∈e.up.map (·.1),l<σ.heap.length:=by
 have lt: ∀ {l:Nat} {x:AObj},σ.heap[l]? =some x→l<σ.heap.length:=fun h=>(cO.1 h).1
 cases o with
 |load t x=>
  simp only[lA] at h
  split at h
  ·split at h
   ·rename_i hl
    split at h
    ·obtain ⟨_,h2,h3⟩:=ldV_rd h
     refine ⟨fun k hk=> ?_,by rw[h2];simp⟩
     rcases h3 k hk with rfl|hk
     ·exact lt hl
     ·exact hk
    ·cases h
   ·cases h
  ·split at h
   ·cases h;simp
   ·cases h
  ·split at h
   ·rename_i hl
    split at h
    ·split at h
     ·split at h
      ·cases h;simp only[cR,dD,dN,false_imp_iff,implies_true,and_true];rintro l rfl;exact lt hl
      ·cases h
     ·cases h
    ·cases h
   ·cases h
  ·unfold Yx at h
   split at h
   ·split at h
    ·rw[dn] at h
     obtain ⟨m,_,h⟩:=h
     cases h;simp
    ·cases h
   ·cases h
  ·cases h
 |store t x y=>
  simp only[lA] at h
  split at h
  ·split at h
   ·rename_i hl
    split at h
    ·cases h
     constructor
     ·simp only[cR];rintro l rfl;exact lt hl
     ·simp only[dQ,dD,cR];rintro l rfl;exact lt hl
    ·cases h
   ·cases h
  ·split at h
   ·rename_i hl
    split at h
    ·split at h
     ·split at h
      ·cases h
       constructor
       ·simp only[cR];rintro l rfl;exact lt hl
       ·simp only[dQ,dD,cR];rintro l rfl;exact lt hl
      ·cases h
     ·cases h
    ·cases h
   ·cases h
  ·cases h
 |indexAddr t x i=>
  simp only[lA] at h
  split at h
  ·split at h
   ·split at h
    ·split at h
     ·cases h;simp
     ·cases h
    ·cases h
   ·split at h
    ·rename_i hl
     split at h
     ·split at h
      ·cases h;simp only[cR,dD,dN,false_imp_iff,implies_true,and_true];rintro l rfl;exact lt hl
      ·cases h
     ·cases h
    ·rename_i hl
     split at h
     ·cases h;simp only[cR,dD,dN,false_imp_iff,implies_true,and_true];rintro l rfl;exact lt hl
     ·cases h
    ·cases h
   ·cases h
  ·split at h
   ·split at h
    ·split at h
     ·cases h;simp
     ·cases h
    ·split at h
     ·rw[dn] at h
      obtain ⟨ds,_,he⟩:=h
      obtain rfl:=dV he
      simp
     ·cases h
    ·split at h
     ·cases h;simp
     ·cases h
    ·cases h
   ·cases h
 |slice t x lo hi mx=>
  simp only[lA] at h
  split at h
  ·split at h
   ·cases h
   ·unfold VY at h
    split at h
    ·split at h
     ·split at h
      ·cases h;simp
      ·cases h
     ·cases h
    ·split at h
     ·rename_i hl
      split at h
      ·split at h
       ·cases h;simp only[cR,dD,dN,false_imp_iff,implies_true,and_true];rintro l rfl;exact lt hl
       ·cases h
      ·cases h
     ·cases h
    ·cases h
  ·split at h
   ·split at h
    ·split at h
     ·cases h;simp
     ·cases h
    ·cases h
   ·cases h
 |call c=>
  obtain ⟨cl,args,ts⟩:=c
  cases cl with
  |builtin b=>
   simp only[lA] at h
   unfold Jz at h
   split at h
   ·unfold lenAV at h
    split at h
    ·split at h
     ·cases h;simp
     ·cases h
    ·split at h
     ·cases h;simp
     ·cases h
    ·split at h
     ·split at h
      ·rename_i hl
       split at h
       ·cases h;simp only[cR,dD,dN,false_imp_iff,implies_true,and_true];rintro l rfl;exact lt hl
       ·cases h
      ·cases h
     ·cases h
    ·cases h
   ·split at h
    ·split at h
     ·split at h
      ·unfold O3 at h
       split at h
       ·cases h
       ·rename_i rd ys hsrc
        have hrd: ∀l∈rd,l<σ.heap.length:=by
         unfold Qc at hsrc
         split at hsrc
         ·split at hsrc
          ·cases hsrc;simp
          ·cases hsrc
         ·split at hsrc
          ·rename_i hl
           split at hsrc
           ·cases hsrc;simp only[cR];rintro l rfl;exact lt hl
           ·cases hsrc
          ·cases hsrc
         ·cases hsrc;simp
         ·cases hsrc
        split at h
        ·split at h
         ·rename_i hl
          split at h
          ·cases h
           constructor
           ·intro l hl'
            simp only[cW] at hl'
            rcases hl' with rfl|hl'
            ·exact lt hl
            ·exact hrd l hl'
           ·simp only[dQ,dD,cR];rintro l rfl;exact lt hl
          ·cases h
         ·cases h
        ·split at h
         ·split at h<;>cases h<;>exact ⟨hrd,by simp⟩
         ·cases h
        ·cases h
      ·cases h
     ·cases h
    ·cases h
   ·cases h;simp
   ·cases h;simp
   ·cases h
  |value f=>cases h
  |invoke r m=>cases h
 |move x=>cases h;simp
 |assign x=>cases h;simp
 |makeFunc fn f c=>cases h;simp
 |pick c x y=>simp only[lA] at h;split at h<;>cases h;simp
 |alloc t=>simp only[lA] at h;split at h<;>cases h;simp
 |box t x=>simp only[lA] at h;split at h<;>cases h;simp
 |build t parts=>
  simp only[lA] at h
  split at h
  ·split at h<;>cases h;simp
  ·cases h
 |buildSlice t len parts=>
  simp only[lA] at h
  cases hlit:litF t (Yv (parts.toList.map (·.2))) with
  |_=>
  rw[hlit] at h
  split at h
  ·split at h
   ·split at h
    ·split at h<;>cases h;simp
    ·cases h
   ·cases h
  ·cases h
 |nilCheck x=>simp only[lA] at h;split at h<;>cases h<;>simp
 |binOp op t x y ty=>
  simp only[lA] at h
  split at h
  ·cases h;simp
  ·unfold eqEff Vu at h
   split at h
   ·rename_i he
    split at he
    ·split at he<;>cases he;cases h;simp
    ·split at he<;>cases he;cases h;simp
    ·cases he
   unfold WL at h
   split at h
   ·cases h;simp
   ·cases h;simp
   ·split at h<;>cases h;simp
   ·split at h<;>cases h;simp
   ·split at h<;>cases h;simp
   ·split at h<;>cases h;simp
   ·split at h<;>cases h;simp
   ·split at h<;>cases h;simp
   ·cases h
 |unOp op t x=>simp only[lA] at h;split at h<;>cases h<;>simp
 |convert s d x=>
  simp only[lA] at h
  split at h
  ·split at h<;>cases h;simp
  ·split at h
   ·cases h;simp
   ·split at h<;>cases h;simp
   ·cases h
  ·cases h
 |makeInterface t x=>simp only[lA] at h;split at h<;>cases h;simp
 |makeSlice t x y=>
  simp only[lA] at h
  split at h
  ·split at h
   ·split at h<;>cases h;simp
   ·cases h
  ·cases h
 |fieldAddr t x i=>simp only[lA] at h;split at h<;>cases h<;>simp
 |field t x i=>
  simp only[lA] at h
  split at h
  ·split at h
   ·split at h<;>cases h;simp
   ·cases h
  ·cases h
 |index t x i=>
  simp only[lA] at h
  split at h
  ·split at h
   ·split at h<;>cases h;simp
   ·cases h
  ·cases h
 |extract x i=>
  simp only[lA] at h
  split at h
  ·split at h<;>cases h;simp
  ·cases h
 |makeMap t r=>
  cases r with
  |some r=>cases h
  |none=>cases h;simp
 |typeAssert x u t ok=>
  cases ok with
  |false=>cases h
  |true=>
   simp only[lA] at h
   unfold tasEff at h
   split at h
   ·split at h<;>cases h;simp
   ·cases h
 |lookup t x k ok=>
  cases ok with
  |true=>
   simp only[lA] at h
   split at h
   ·unfold WM at h
    split at h
    ·rename_i hl
     split at h
     ·cases h
      have:=lt hl
      unfold lookV
      split<;>simp [this]
     ·cases h
    ·cases h
   ·cases h
  |false=>
   simp only[lA] at h
   split at h
   ·unfold Us at h
    split at h
    ·rename_i hl
     split at h
     ·cases h
      have:=lt hl
      simp [this]
     ·cases h
    ·cases h
   ·cases h
 |range t x=>simp only[lA] at h;split at h<;>cases h;simp
 |next x st=>
  cases st with
  |false=>cases h
  |true=>
   simp only[lA] at h
   split at h
   ·unfold Ut at h
    split at h
    ·rename_i hl
     have:=lt hl
     split at h<;>cases h<;>simp [this]
    ·cases h
   ·cases h
 |mapUpdate t x k y=>
  simp only[lA] at h
  split at h
  ·unfold mapUpEff at h
   split at h
   ·rename_i hl
    split at h
    ·cases h
     have:=lt hl
     simp [this]
    ·cases h
   ·cases h
  ·cases h
 |insert t x k y=>
  simp only[lA] at h
  split at h
  ·unfold mapUpEff at h
   split at h
   ·rename_i hl
    split at h
    ·cases h
     have:=lt hl
     simp [this]
    ·cases h
   ·cases h
  ·cases h
 |_=>cases h
end
end Go.Abs
namespace Go.Abs
section
variable {P:Program} {ops:Array Oper} {K:AState→Prop}
theorem K9: ∀ (ups:List (Nat×AObj)) (H N:List AObj),(∀l∈ups.map (·.1),l<H.length)→l7 (H++N) ups=l7 H ups++N
 |[],_,_,_=>rfl
 |(l,x)::r,H,N,h=>by
  simp only[l7]
  rw[List.set_append_left _ _ (h l (by simp))]
  exact K9 r _ N (fun k hk=>by rw[List.length_set];exact h k (by simp at hk ⊢;exact .inr hk))
theorem V6: ∀ (ups:List (Nat×AObj)) (H:List AObj) (l:Nat) (x:AObj),l ∉ ups.map (·.1)→l7 (H.set l x) ups=(l7 H ups).set l x
 |[],_,_,_,_=>rfl
 |(k,y)::r,H,l,x,h=>by
  simp only[dQ,cW,not_or] at h
  simp only[l7]
  rw[ep _ _ h.1,V6 r _ l x h.2]
theorem U5: ∀ (u v:List (Nat×AObj)) (H:List AObj),(∀l∈u.map (·.1),l ∉ v.map (·.1))→l7 (l7 H u) v=l7 (l7 H v) u
 |[],_,_,_=>rfl
 |(l,x)::r,v,H,h=>by
  simp only[l7]
  rw[U5 r v _ (fun k hk=>h k (by simp at hk ⊢;exact .inr hk)),V6 v H l x (h l (by simp))]
theorem Mi {a b:List Nat} (h:GB a b=true): ∀l∈a,l ∉ b:=by
 unfold GB at h
 rw[cT] at h
 intro l hl hb
 have:=h l hl
 simp [hb] at this
theorem app_comm {σ:AState} {d d':Option Tmp} {e e':u7} {j:Nat} (hd: ∀x,d=some x→d'≠some x) (hi:Bj ⟨j,σ.heap.length,e⟩ e'=true)
 (h1: ∀l∈e.up.map (·.1),l<σ.heap.length) (h2: ∀l∈e'.up.map (·.1),l<(σ.app d e).heap.length):(σ.app d e).app d' e'=(σ.app d' e').app d e:=by
 unfold Bj at hi
 simp only[cM,dr] at hi
 obtain ⟨⟨⟨i1,i2⟩,i3⟩,_⟩:=hi
 have dis: ∀l∈e.up.map (·.1),l ∉ e'.up.map (·.1):=fun l hl hl'=>Mi i1 l hl (cP.2 (.inr hl'))
 have h2': ∀l∈e'.up.map (·.1),l<σ.heap.length:=by
  intro l hl
  rcases i3 with i3|⟨_,i3⟩
  ·have:=h2 l hl
   have hn:e.nw=[]:=by simpa using i3
   simpa [AState.app,hn,qq] using this
  ·rw[cT] at i3
   simpa using i3 l (cP.2 (.inr hl))
 have hslots:((σ.app d e).app d' e').slots=((σ.app d' e').app d e).slots:=by
  cases d with
  |none=>cases d'<;>rfl
  |some x=>cases d' with
   |none=>rfl
   |some y=>
    simp only[AState.app,AState.put]
    exact ep _ _ (fun he=>hd x rfl (by rw[he]))
 have Lv:((σ.app d e).app d' e').heap=((σ.app d' e').app d e).heap:=by
  simp only[AState.app]
  rw[K9 _ _ _ (by rw[qq];exact h2'),K9 _ _ _ (by rw[qq];exact h1),U5 _ _ _ dis]
  rcases i3 with i3|⟨i3,_⟩
  ·have hn:e.nw=[]:=by simpa using i3
   simp [hn]
  ·have hn:e'.nw=[]:=by simpa using i3
   simp [hn]
 have ext: ∀ (s t:AState),s.slots=t.slots→s.heap=t.heap→s.low=t.low→s.df=t.df→s=t:=by
  intro s t h h' h'' h3;cases s;cases t;simp_all
 refine ext _ _ hslots Lv ?_ ?_<;>cases d<;>cases d'<;>rfl
theorem yc.lt {o:Oper} {σ:AState} {S:u7→Prop} (h:yc P ops o σ S) {e:u7} (he:S e):(∀l∈e.rd,l<σ.heap.length)∧ ∀l∈e.up.map (·.1),l<σ.heap.length:=by
 rcases h with ⟨_,h⟩|⟨_,_,e',he',_,h⟩|⟨_,f,args,V,_,_,_,h⟩|⟨_,f,args,e',_,hl,h⟩
 ·rw[(h e).1 he];simp
 ·rw[(h e).1 he];exact opEff_lt he'
 ·obtain ⟨r,_,rfl⟩:=(h e).1 he;simp
 ·rw[(h e).1 he];exact ⟨hl.1.1,fun l hm=>hl.1.1 l (hl.1.2 l hm)⟩
theorem JW {o:Oper} {d:Tmp} (h:d ∉ o.looksAt ops): ∀x∈o.op.operands,x≠ .tmp d:=by
 intro x hx e
 subst e
 apply h
 unfold Oper.looksAt
 refine cP.2 (.inl ?_)
 simp only[List.mem_filterMap]
 exact ⟨.tmp d,by simpa using hx,rfl⟩
theorem NA {o:Oper} {d:Tmp} (h:d ∉ o.looksAt ops) {j:Nat} {b:Bool} {k:Tmp} (hg:o.guard=some (j,b)) (hk:(ops[j]?).bind (·.dst)=some k):k≠d:=by
 intro e
 subst e
 apply h
 unfold Oper.looksAt
 refine cP.2 (.inr ?_)
 simp [hg,hk]
theorem yc.back {oi or':Oper} {σ:AState} {S:u7→Prop} {er:u7} {j:Nat} (h:yc P ops oi (σ.app or'.dst er) S) (hap: ∀d,or'.dst=some d→d ∉ oi.looksAt ops)
 (hi: ∀e,S e→Bj ⟨j,σ.heap.length,er⟩ e=true):yc P ops oi σ S:=by
 refine h.local (fun x hx=> ?_) (JV fun k b d hg hd=> ?_) (fun e he=> ?_)
 ·rw[app_ev];intro d hd;exact JW (hap d hd) x hx
 ·rw[WQ];intro d' hd';exact NA (hap d' hd') hg hd
 ·have hlt:=h.lt he
  have:=hi e he
  unfold Bj at this
  simp only[cM,dr] at this
  obtain ⟨⟨⟨i1,i2⟩,i3⟩,_,i5⟩:=this
  refine ⟨⟨?_,?_⟩,fun hwh=> ?_⟩
  rotate_left 2
  ·rw[hwh] at i5
   simp only[eF,dK,false_or,dy] at i5
   simp [AState.app,i5.1,i5.2,l7]
  ·intro l hl
   have hl2:l<σ.heap.length:=by
    rcases i3 with i3|⟨_,i3⟩
    ·have hn:er.nw=[]:=by simpa using i3
     have:=hlt.1 l hl
     simpa [AState.app,hn,qq] using this
    ·rw[cT] at i3
     simpa using i3 l (cP.2 (.inl hl))
   rw[V5 (fun hu=>Mi i1 l hu (cP.2 (.inl hl))) hl2]
  ·intro hnw
   rcases i3 with i3|⟨i3,_⟩
   ·have hn:er.nw=[]:=by simpa using i3
    simp [AState.app,hn,qq]
   ·exact absurd (by simpa using i3) hnw
theorem yc.fwd {oi or':Oper} {σ:AState} {S:u7→Prop} {ei:u7} {j:Nat} (h:yc P ops or' σ S) (hap: ∀d,oi.dst=some d→d ∉ or'.looksAt ops)
 (hi: ∀e,S e→Bj ⟨j,σ.heap.length,e⟩ ei=true):yc P ops or' (σ.app oi.dst ei) S:=by
 refine h.local (fun x hx=> ?_) (JV fun k b d hg hd=> ?_) (fun e he=> ?_)
 ·rw[app_ev];intro d hd;exact JW (hap d hd) x hx
 ·rw[WQ];intro d' hd';exact NA (hap d' hd') hg hd
 ·have hlt:=h.lt he
  have:=hi e he
  unfold Bj at this
  simp only[cM,dr] at this
  obtain ⟨⟨⟨i1,i2⟩,i3⟩,i4,_⟩:=this
  refine ⟨⟨?_,?_⟩,fun hwh=> ?_⟩
  rotate_left 2
  ·rw[hwh] at i4
   simp only[eF,dK,false_or,dy] at i4
   simp [AState.app,i4.1,i4.2,l7]
  ·intro l hl
   rw[V5 (fun hu=>Mi i2 l hu hl) (hlt.1 l hl)]
  ·intro hnw
   rcases i3 with i3|⟨i3,_⟩
   ·exact absurd (by simpa using i3) hnw
   ·have hn:ei.nw=[]:=by simpa using i3
    simp [AState.app,hn,qq]
theorem GC (h:Gl ops=true):Region.noSelect ops=true∧ ∀ (j:Nat) (oj:Oper),ops[j]? =some oj→(∀d∈yW oj,d<j)∧
 ∀ (i:Nat) (oi:Oper),i<j→ops[i]? =some oi→qd ops i j=false→oi.apart ops oj=true∧ ¬ (Cl oi.op=true∧Cl oj.op=true):=by
 unfold Gl at h
 simp only[cM] at h
 refine ⟨h.1,fun j oj hj=> ?_⟩
 have h2:=h.2
 rw[cT] at h2
 have hjs:j<ops.size:=(cY.1 hj).1
 have h3:=h2 j (by simpa using hjs)
 simp only[hj,cM] at h3
 refine ⟨fun d hd=> ?_,fun i oi hij hi YL=> ?_⟩
 ·have:=h3.1
  rw[cT] at this
  simpa using this d hd
 ·have:=h3.2
  rw[cT] at this
  have:=this i (by simpa using hij)
  simp only[hi,dr] at this
  unfold qd at YL
  rcases this with this|this
  ·rw[YL] at this;cases this
  ·simp only[cM,Bool.not_eq_true',Bool.and_eq_false_iff] at this
   refine ⟨this.1,fun ⟨a,b⟩=> ?_⟩
   rcases this.2 with h|h
   ·rw[h] at a;cases a
   ·rw[h] at b;cases b
theorem indepB_le {j n n':Nat} {e e':u7} (h:n≤n') (hi:Bj ⟨j,n,e⟩ e'=true):Bj ⟨j,n',e⟩ e'=true:=by
 unfold Bj at*
 simp only[cM,dr] at*
 refine ⟨⟨hi.1.1,hi.1.2.imp id fun ⟨a,b⟩=>⟨a,?_⟩⟩,hi.2⟩
 rw[cT] at*
 intro l hl
 have:=b l hl
 simp only[decide_eq_true_eq] at*
 omega
theorem YM: ∀ {R:List Nat} {tr tr':List Tr} {σ:AState},(∀t'∈tr',∃t∈tr,t.j=t'.j∧t.e=t'.e∧t.n≤t'.n)→V3 P ops K R tr σ→V3 P ops K R tr' σ
 |[],_,_,_,_,h=>h
 |j::rest,tr,tr',σ,hs,⟨o,S,ho,hst,h⟩=>by
  refine ⟨o,S,ho,hst,fun e he=> ?_⟩
  obtain ⟨hc,hr⟩:=h e he
  refine ⟨?_,YM ?_ hr⟩
  ·unfold Dv at*
   rw[cT] at*
   intro t' ht'
   obtain ⟨t,ht,h1,h2,h3⟩:=hs t' ht'
   have:=hc t ht
   simp only[dr] at*
   rw[←h1]
   refine this.imp (fun hi=> ?_) id
   obtain ⟨a,b,c⟩:=t
   obtain ⟨a',b',c'⟩:=t'
   simp only at h1 h2 h3
   subst h1 h2
   exact indepB_le h3 hi
  ·intro t' ht'
   rcases cP.1 ht' with ht'|ht'
   ·obtain ⟨t,ht,h⟩:=hs t' ht'
    exact ⟨t,cP.2 (.inl ht),h⟩
   ·exact ⟨t',cP.2 (.inr ht'),rfl,rfl,dc _⟩
theorem ordB_left {i j:Nat} (h:YJ ops i j=false):qd ops i j=false:=by
 unfold YJ at h;simp only[Bool.or_eq_false_iff] at h;exact h.1
theorem pull (hok:Gl ops=true) {i:Nat}: ∀ {R:List Nat} {tr:List Tr} {σ:AState},V3 P ops K R tr σ→i∈R→R.Pairwise (· < ·)→(∀r∈R,r<i→YJ ops r i=false)→
 ∃o S,ops[i]? =some o∧yc P ops o σ S∧ ∀e,S e→Dv ops tr i e=true∧V3 P ops K (R.erase i) tr (σ.app o.dst e)
 |[],_,_,_,hi,_,_=>by simp at hi
 |r::R,tr,σ,⟨or',Sr,hor,hst,h⟩,hi,WI,YL=>by
  by_cases e:r=i
  ·subst e
   refine ⟨or',Sr,hor,hst,fun e he=> ?_⟩
   obtain ⟨hc,hr⟩:=h e he
   refine ⟨hc,?_⟩
   rw[eV]
   exact YK (fun t ht=>cP.2 (.inl ht)) hr
  ·have hiR:i∈R:=by
    simp only[cW] at hi
    rcases hi with h|h
    ·exact absurd h.symm e
    ·exact h
   rw[dZ] at WI
   have hri:r<i:=WI.1 i hiR
   have hor_i:YJ ops r i=false:=YL r (by simp) hri
   have ih: ∀er,Sr er→_:=fun er her=>pull hok (h er her).2 hiR WI.2 (fun q hq hlt=>YL q (by simp [hq]) hlt)
   obtain ⟨er0,her0⟩:=hst.nonempty
   obtain ⟨oi,S0,N7,hst0,h0⟩:=ih er0 her0
   obtain ⟨_,hspec⟩:=GC hok
   obtain ⟨YN,hcalls⟩:=(hspec i oi N7).2 r or' hri hor (ordB_left hor_i)
   obtain ⟨a1,a2,a3⟩:=dW YN
   have hind: ∀ {er:u7} {S:u7→Prop},(∀e,S e→Dv ops (tr++[⟨r,σ.heap.length,er⟩]) i e=true∧V3 P ops K (R.erase i) (tr++[⟨r,σ.heap.length,er⟩]) ((σ.app or'.dst er).app oi.dst e))→
    ∀e,S e→Bj ⟨r,σ.heap.length,er⟩ e=true:=by
    intro er S hS e he
    have:=(hS e he).1
    unfold Dv at this
    rw[cT] at this
    have:=this ⟨r,σ.heap.length,er⟩ (by simp)
    simp only[hor_i,eY] at this
    exact this
   have Sa:yc P ops oi σ S0:=hst0.back (j:=r) a1 (hind h0)
   refine ⟨oi,S0,N7,Sa,fun ei hei=> ?_⟩
   have same: ∀er,Sr er→Dv ops (tr++[⟨r,σ.heap.length,er⟩]) i ei=true∧V3 P ops K (R.erase i) (tr++[⟨r,σ.heap.length,er⟩]) ((σ.app or'.dst er).app oi.dst ei):=by
    intro er her
    obtain ⟨oi',S',hoi',hst',h'⟩:=ih er her
    rw[N7] at hoi';cases hoi'
    by_cases hc:Cl oi.op=true
    ·
     have hcr:Cl or'.op=false:=by
      cases hq:Cl or'.op with
      |false=>rfl
      |true=>exact absurd ⟨hq,hc⟩ hcalls
     obtain ⟨ex,hex⟩:=hst.det hcr
     have:er=er0:=by rw[(hex er).1 her,(hex er0).1 her0]
     subst this
     exact h0 ei hei
    ·have ZV:Cl oi.op=false:=by simpa using hc
     have hb':yc P ops oi σ S':=hst'.back (j:=r) a1 (hind h')
     exact h' ei ((Sa.eq hb' ZV ei).1 hei)
   have hfwd:yc P ops or' (σ.app oi.dst ei) Sr:=by
    refine hst.fwd (j:=r) a3 (fun er her=> ?_)
    have:=(same er her).1
    unfold Dv at this
    rw[cT] at this
    have:=this ⟨r,σ.heap.length,er⟩ (by simp)
    simp only[hor_i,eY] at this
    exact this
   refine ⟨?_,?_⟩
   ·have:=(same er0 her0).1
    unfold Dv at*
    rw[cT] at*
    exact fun t ht=>this t (cP.2 (.inl ht))
   ·have hne:(r::R).erase i=r::R.erase i:=eW (by simpa using e)
    rw[hne]
    refine ⟨or',Sr,hor,hfwd,fun er her=>⟨(h er her).1,?_⟩⟩
    have hs:=same er her
    have hi':Bj ⟨r,σ.heap.length,er⟩ ei=true:=by
     have:=hs.1
     unfold Dv at this
     rw[cT] at this
     have:=this ⟨r,σ.heap.length,er⟩ (by simp)
     simp only[hor_i,eY] at this
     exact this
    have hcomm:=app_comm (d:=or'.dst) (d':=oi.dst) a2 hi' (hst.lt her).2 (by
     intro l hl
     have:=(Sa.lt hei).2 l hl
     simp only[AState.app,eD,qq];omega)
    rw[←hcomm]
    refine YM ?_ hs.2
    intro t' ht'
    rcases cP.1 ht' with ht'|ht'
    ·exact ⟨t',cP.2 (.inl ht'),rfl,rfl,dc _⟩
    ·simp only[cR] at ht'
     subst ht'
     exact ⟨⟨r,σ.heap.length,er⟩,by simp,rfl,rfl,by simp [AState.app,qq]⟩
theorem O5 {f:Nat→Nat} {r:Nat}: ∀ (ds:List Nat) (s:Nat),(ds.foldl (fun s d=>s|||2 ^ d|||f d) s).testBit r=true→s.testBit r=true∨ ∃d∈ds,d=r∨(f d).testBit r=true
 |[],s,h=> .inl h
 |d::ds,s,h=>by
  simp only[List.foldl_cons] at h
  rcases O5 ds _ h with h|⟨d',hd',h⟩
  ·rw[Nat.testBit_or,Nat.testBit_or,dr,dr] at h
   rcases h with (h|h)|h
   ·exact .inl h
   ·right
    refine ⟨d,by simp,.inl ?_⟩
    rw[Nat.testBit_two_pow] at h
    simpa using h
   ·exact .inr ⟨d,by simp,.inr h⟩
  ·exact .inr ⟨d',by simp [hd'],h⟩
theorem Xu {L:Nat→Prop} {all:List Oper} (hclosed: ∀j o,all[j]? =some o→L j→ ∀d∈yW o,L d): ∀ (os:List Oper) (acc:List Nat),all.drop acc.length=os→
 (∀k o,all[k]? =some o→k<acc.length→(∀d∈yW o,L d)→ ∀r,(acc.getD k 0).testBit r=true→L r)→(∀k o,all[k]? =some o→ ∀d∈yW o,d<k)→
 ∀k o,all[k]? =some o→(∀d∈yW o,L d)→ ∀r,((reachM os acc).getD k 0).testBit r=true→L r
 |[],acc,hd,h,_=>by
  intro k o hk DV r hr
  refine h k o hk ?_ DV r hr
  have h1:all.length≤acc.length:=by simpa using hd
  have h2:=(cO.1 hk).1
  omega
 |o::os,acc,hd,h,hlt=>by
  refine Xu hclosed os _ ?_ ?_ hlt
  ·have:=congrArg eO hd
   simpa [eB] using this
  ·intro k o' hk hkl DV r hr
   have ho:all[acc.length]? =some o:=by
    have:=congrArg (fun l:List Oper=>l[0]?) hd
    simpa using this
   by_cases e:k<acc.length
   ·rw[dR,cQ e,←dR] at hr
    exact h k o' hk e DV r hr
   ·have e2:k=acc.length:=by simp at hkl;omega
    subst e2
    rw[ho] at hk;cases hk
    rw[dR,dh (dc _)] at hr
    simp only[e8,dJ,eu] at hr
    rcases O5 (f:=fun d=>acc.getD d 0) _ _ hr with h0|⟨d,hd',rfl|h1⟩
    ·simp at h0
    ·exact DV d hd'
    ·have hdl:d<acc.length:=hlt _ _ ho d hd'
     have hdl2:d<all.length:=by have:=(cO.1 ho).1;omega
     exact h d all[d] (cX hdl2) hdl (hclosed d _ (cX hdl2) (DV d hd')) r h1
end
theorem getD_replicate_false' (m j:Nat):(dA m false).getD j false=false:=by
 by_cases h:j<m<;>simp [eX,h]
section region
variable {C:Ctx} {ops:Array Oper} {Q:mX→AState→Prop}
theorem Mj {ro:Option Nat} {φ:Nat→Value} {σ:AState} {a:Act} {w:World} (S:mA C φ σ a w) {o:Oper} {i:Nat} {E:u7→Prop} (ho:ops[i]? =some o) (h:yc C.P ops o σ E) {K:Act→World→Prop} {Q':Exit→Act→World→Prop}
 (hK: ∀e φ' v w',E e→mA C φ' (σ.app o.dst e) (a.put o.dst v) w'→K (a.put o.dst v) w'):wpOpIn (Hq ro) 0 C.P ops Q' i K a w:=by
 unfold wpOpIn
 simp only[ho]
 rcases h with ⟨hw,h⟩|⟨hw,_,e,he,hp,h⟩|⟨hw,f,args,V,hc,hf,_,h⟩|⟨hw,f,args,e,hc,hf,h⟩
 ·rw[Az S hw]
  simp only[dK,if_false]
  refine ⟨fun _ _=>trivial,hK _ φ undef w ((h _).2 rfl) ?_⟩
  rw[F8];exact S.put o.dst rfl
 ·rw[Az S hw]
  simp only[if_true]
  obtain ⟨n,v,w',φ',hr,hn,S'⟩:=Nx S he hp
  refine ⟨fun _ _=>trivial,?_⟩
  rw[eG _ _ _ (opEff_op he),hr]
  rcases hn with rfl|⟨rfl,rfl⟩
  ·rw[Oper.uponIn_value];exact hK e φ' v w' ((h e).2 rfl) S'
  ·rw[Oper.uponIn_skip];exact hK e φ' undef w' ((h e).2 rfl) S'
 ·rw[Az S hw]
  simp only[if_true]
  have ya:yO C.P f args σ (fun o' H'=> ∃r,V r∧o'= .ret r∧H'=σ.heap):=L2 hf (fun r hr=>⟨r,hr,rfl,rfl⟩)
  obtain ⟨vs,hrun,hr⟩:=L1 S hc ya.1
  refine ⟨fun _ _=>trivial,?_⟩
  rw[eG _ _ _ (Ny hc),hrun,eH]
  refine ⟨fun h=>by simp [Hq,eo] at h,J8.2 ?_⟩
  refine (ya.2 C φ a w rfl S vs hr).mono fun en w' ⟨o',φ',H',⟨r,hV,ho',hH⟩,S',rR⟩=> ?_
  subst ho' hH
  cases en with
  |returned v=>
   refine hK {val:=r} φ' v w' ((h _).2 ⟨r,hV,rfl⟩) ?_
   rw[F8];exact S'.put o.dst rR
  |panicked chain=>exact rR.elim
  |outgrown=>exact rR.elim
 ·rw[Az S hw]
  simp only[if_true]
  have ya:=hf.2 σ (fun _ _=>rfl) (fun _=>rfl) (fun _=>rfl)
  obtain ⟨vs,hrun,hr⟩:=L1 S hc ya.1
  refine ⟨fun _ _=>trivial,?_⟩
  rw[eG _ _ _ (Ny hc),hrun,eH]
  refine ⟨fun h=>by simp [Hq,eo] at h,J8.2 ?_⟩
  refine (ya.2 C φ a w rfl S vs hr).mono fun en w' ⟨o',φ',H',⟨ho',hH⟩,S',rR⟩=> ?_
  subst ho' hH
  cases en with
  |returned v=>
   refine hK e φ' v w' ((h _).2 rfl) ?_
   have:=S'.put o.dst rR
   have e1:({σ with heap:=l7 σ.heap e.up++e.nw}:AState).put o.dst e.val=σ.app o.dst e:=by
    cases hd:o.dst<;>rfl
   rw[e1] at this
   exact this
  |panicked chain=>exact rR.elim
  |outgrown=>exact rR.elim
end region
end Go.Abs
namespace Go.Abs
theorem F9 {E:Env} {b:Nat} {c:Array Value} {t:TypeId} {fr:Nat×Nat} (hcb:E.w.heap[b]? =some (.cells c t fr)): ∀ (cs:List AV) (off:Nat),(∀o,off≤o→o<off+cs.length→ ¬ E.mu b o)→
 k6 E cs ((c.toList.drop off).take cs.length)→(∀u∈(c.toList.drop off).take cs.length,u.oneCell'=true)→mV E b off cs
 |[],_,_,_,_=>trivial
 |x::cs,off,hm,r,h1=>by
  obtain ⟨u,us,hu,r1,r2⟩:=r
  have hcu:c[off]? =some u:=by
   have:(c.toList.drop off)[0]? =some u:=by
    have:=congrArg (fun l:List Value=>l[0]?) hu
    simpa using this
   simpa using this
  have htl:us=(c.toList.drop (off+1)).take cs.length:=by
   have h1:=congrArg eO hu
   simp only[List.tail_cons] at h1
   rw[←h1]
   cases hd:c.toList.drop off with
   |nil=>rw[hd] at hu;simp at hu
   |cons y ys=>
    have:c.toList.drop (off+1)=ys:=by
     have:=congrArg eO hd
     simpa [eB] using this
    rw[this];simp
  refine ⟨⟨hm off (dc _) (by simp),u,by simp only[World.cell?,hcb];simpa using hcu,h1 u (by rw[hu];simp),r1⟩,F9 hcb cs (off+1) (fun o h2 h3=>hm o (by omega) (by simp;omega)) (by rw[←htl];exact r2) (fun v hv=>h1 v (by rw[hu,htl];simp [hv]))⟩
theorem O6 {E:Env} {b sz:Nat} {c:Array Value} {t:TypeId} {fr:Nat×Nat} (hcb:E.w.heap[b]? =some (.cells c t fr)): ∀ (rs:List (List AV)) (off:Nat),(∀r∈rs,r.length=sz)→
 (∀o,off≤o→o<off+rs.length*sz→ ¬ E.mu b o)→k6 E rs.flatten ((c.toList.drop off).take (rs.length*sz))→(∀u∈(c.toList.drop off).take (rs.length*sz),u.oneCell'=true)→mC E sz b off rs
 |[],_,_,_,_,_=>trivial
 |r::rs,off,hl,hm,h,h1=>by
  have hr:r.length=sz:=hl r (by simp)
  simp only[dM] at h
  have h3:=k6.take r.length h
  have h2:=k6.drop r.length h
  simp only[ey,ez,List.take_take,List.drop_take,List.drop_drop] at h3 h2
  have e1:min r.length ((r::rs).length*sz)=r.length:=by
   simp only[dO,e9,fc];omega
  have e2:(r::rs).length*sz-r.length=rs.length*sz:=by simp only[dO,e9,fc];omega
  have e3:(r::rs).length*sz=rs.length*sz+sz:=by simp only[dO,e9,fc]
  rw[e1] at h3
  rw[e2,hr] at h2
  refine ⟨hr,F9 hcb r off (fun o h4 h5=>hm o h4 (by omega)) h3 (fun u hu=>h1 u ?_),O6 hcb rs (off+sz) (fun q hq=>hl q (by simp [hq])) (fun o h4 h5=>hm o (by omega) (by omega)) h2 (fun u hu=>h1 u ?_)⟩
  ·have:(c.toList.drop off).take r.length=((c.toList.drop off).take ((r::rs).length*sz)).take r.length:=by rw[List.take_take,e1]
   rw[this] at hu
   exact List.mem_of_mem_take hu
  ·have:(c.toList.drop (off+sz)).take (rs.length*sz)=((c.toList.drop off).take ((r::rs).length*sz)).drop sz:=by
    rw[List.drop_take,List.drop_drop]
    congr 1
    rw[←e2,hr]
   rw[this] at hu
   exact List.mem_of_mem_drop hu
def objNb (n:Nat):AObj→Prop
 | .cells cs=>nbL n cs
 | .acc _ _ rows=>Lu n rows
 | .map es=> ∀p∈es,p.1.nb n∧p.2.nb n
 | .loop _ slots _ _=>nbL n slots
 | .iter _ _=>True
 | .dead=>True
def Sub (x y:AV):Prop:= ∀ (E:Env) (v:Value),nO E x v→nO E y v
def qJ (xs ys:List AV):Prop:= ∀ (E:Env) (vs:List Value),k6 E xs vs→k6 E ys vs
def Qh (xs ys:List (List AV)):Prop:=xs.length=ys.length∧ ∀ (E:Env) (sz b off:Nat),mC E sz b off xs→mC E sz b off ys
def WR (xs ys:List AV):Prop:=xs.length=ys.length∧ ∀ (E:Env) (b off:Nat),mV E b off xs→mV E b off ys
theorem Sub.refl (x:AV):Sub x x:=fun _ _ h=>h
theorem Sub.of_eq {x y:AV} (h:x=y):Sub x y:=h ▸ Sub.refl x
theorem Sub.any (x:AV):Sub x .any:=fun _ _ _=>trivial
theorem Sub.trans {x y z:AV} (h:Sub x y) (h':Sub y z):Sub x z:=fun E v r=>h' E v (h E v r)
theorem qJ.refl (xs:List AV):qJ xs xs:=fun _ _ h=>h
theorem qJ.nil:qJ [] []:=fun _ _ h=>h
theorem qJ.cons {x y:AV} {xs ys:List AV} (h:Sub x y) (hs:qJ xs ys):qJ (x::xs) (y::ys):=fun E _ ⟨u,us,hv,r1,r2⟩=>⟨u,us,hv,h E u r1,hs E us r2⟩
theorem WR.refl (xs:List AV):WR xs xs:=⟨rfl,fun _ _ _ h=>h⟩
theorem WR.nil:WR [] []:=WR.refl []
theorem WR.cons {x y:AV} {xs ys:List AV} (h:Sub x y) (hs:WR xs ys):WR (x::xs) (y::ys):=
 ⟨by simp [hs.1],fun E b off ⟨⟨hm,u,hu,h1,r⟩,r2⟩=>⟨⟨hm,u,hu,h1,h E u r⟩,hs.2 E b _ r2⟩⟩
theorem Qh.refl (xs:List (List AV)):Qh xs xs:=⟨rfl,fun _ _ _ _ h=>h⟩
theorem Qh.nil:Qh [] []:=Qh.refl []
theorem Qh.cons {x y:List AV} {xs ys:List (List AV)} (h:WR x y) (hs:Qh xs ys):Qh (x::xs) (y::ys):=
 ⟨by simp [hs.1],fun E sz b off ⟨h1,r,r2⟩=>⟨by rw[←h.1];exact h1,h.2 E b off r,hs.2 E sz b _ r2⟩⟩
theorem Sub.agg {xs ys:List AV} (h:qJ xs ys):Sub (.agg xs) (.agg ys):=fun E _ ⟨vs,hv,r⟩=>⟨vs,hv,h E _ r⟩
theorem Sub.tup {xs ys:List AV} (h:qJ xs ys):Sub (.tup xs) (.tup ys):=fun E _ ⟨vs,hv,r⟩=>⟨vs,hv,h E _ r⟩
theorem Sub.pp {xs ys:List AV} (h:WR xs ys):Sub (.pp xs) (.pp ys):=fun E _ ⟨b,off,hv,r⟩=>⟨b,off,hv,h.2 E b off r⟩
theorem Sub.iface {t:TypeId} {x y:AV} (h:Sub x y):Sub (.iface t x) (.iface t y):=fun E _ ⟨u,hv,r⟩=>⟨u,hv,h E u r⟩
theorem Sub.func {fn:Fn} {f f' c c':List AV} (h:qJ f f') (h':qJ c c'):Sub (.func fn f c) (.func fn f' c'):=fun E _ ⟨a,b,hv,r1,r2⟩=>⟨a,b,hv,h E _ r1,h' E _ r2⟩
theorem Sub.l5 {t:Bool} {sz:Nat} {xs ys:List (List AV)} (h:Qh xs ys):Sub (.l5 t sz xs) (.l5 false sz ys):=fun E v ⟨base,cap,h1,h2,h3,h4,h5,h6⟩=>
 ⟨base,cap,by rw[←h.1];exact h1,by rw[←h.1];exact h2,(by intro h;cases h),h4,fun a ha hne=>h5 a ha (fun e=>hne (by have:=h.1;rw[e] at this;exact cU this.symm)),fun a ha=>h.2 E sz _ _ (h6 a ha)⟩
theorem Sub.empty (t:Bool) (sz sz':Nat):Sub (.l5 t sz []) (.l5 false sz' []):=fun _ _ ⟨base,cap,h1,h2,_,h4,_,_⟩=>
 ⟨base,cap,h1,h2,(by intro h;cases h),h4,(by intro a _ h;exact absurd rfl h),fun _ _=>trivial⟩
def Co1 (H:List AObj) (n:Nat) (x y:AV):Prop:=
 (Sub x y∧y.nb n)∨ ∃l m sz rows,x= .acc l m∧H[l]? =some (.acc true sz rows)∧rows.length=m∧Sub (.l5 false sz rows) y∧y.nb n
def oN (H:List AObj) (n:Nat):List AV→List AV→Prop
 |[],ys=>ys=[]
 |x::xs,ys=> ∃y zs,ys=y::zs∧Co1 H n x y∧oN H n xs zs
def Co (H:List AObj) (n:Nat) (x y:AV):Prop:=Co1 H n x y∨ ∃cs ds,x= .agg cs∧y= .agg ds∧oN H n cs ds
def B8 (H:List AObj) (n:Nat):List AV→List AV→Prop
 |[],ys=>ys=[]
 |x::xs,ys=> ∃y zs,ys=y::zs∧Co H n x y∧B8 H n xs zs
theorem JE {n:Nat}: ∀ {p q:List AV},nbL n p→nbL n q→nbL n (p++q)
 |[],_,_,hq=>hq
 |_::_,_,hp,hq=>⟨hp.1,JE hp.2 hq⟩
theorem GD {n:Nat}: ∀ {rows:List (List AV)},Lu n rows→nbL n rows.flatten
 |[],_=>trivial
 |_::_,h=>by simp only[dM];exact JE h.1 (GD h.2)
def Ga:List (List AV)→List (List AV)→Prop
 |[],ys=>ys=[]
 |x::xs,ys=> ∃y zs,ys=y::zs∧(x.length=y.length∧qJ x y)∧Ga xs zs
theorem Ga.length: ∀ {xs ys:List (List AV)},Ga xs ys→ys.length=xs.length
 |[],_,rfl=>rfl
 |_::_,_,⟨_,_,rfl,_,h⟩=>by simp [Ga.length h]
theorem Ga.sz {sz:Nat}: ∀ {xs ys:List (List AV)},Ga xs ys→(∀r∈xs,r.length=sz)→ ∀r∈ys,r.length=sz
 |[],_,rfl,_=>by simp
 |x::_,_,⟨y,_,rfl,h1,h⟩,hl=>by
  intro r hr
  simp only[cW] at hr
  rcases hr with rfl|hr
  ·rw[←h1.1];exact hl x (by simp)
  ·exact Ga.sz h (fun q hq=>hl q (by simp [hq])) r hr
theorem Ga.flat {E:Env}: ∀ {xs ys:List (List AV)} {vs:List Value},Ga xs ys→k6 E xs.flatten vs→k6 E ys.flatten vs
 |[],_,_,rfl,r=>r
 |x::xs,_,vs,⟨y,zs,rfl,h1,h⟩,r=>by
  simp only[dM] at r ⊢
  have h3:=k6.take x.length r
  have h2:=k6.drop x.length r
  simp only[ey,ez] at h3 h2
  have:=k6.append (h1.2 _ _ h3) (Ga.flat h h2)
  rwa [List.take_append_drop] at this
def Mk (H:List AObj) (n:Nat) (x y:AObj):Prop:=
 y= .dead∨(y=x∧objNb n x)∨(∃cs ds,x= .cells cs∧y= .cells ds∧B8 H n cs ds)∨(∃pY sz rows ug,x= .acc pY sz rows∧y= .acc pY sz ug∧Ga rows ug∧Lu n ug)∨
  ∃k s s' st sk,x= .loop k s st sk∧y= .loop k s' st sk∧B8 H n s s'
def Sb (H:List AObj) (n:Nat):List AObj→List AObj→Prop
 |_,[]=>True
 |[],_::_=>False
 |x::xs,y::ys=>Mk H n x y∧Sb H n xs ys
def dfNb (n:Nat) (df:List (FuncId×List AV)):Prop:= ∀p∈df,nbL n p.2
theorem Sc {n:Nat}:dfNb n []:=fun _ h=>by cases h
def YO (σ σ':AState):Prop:=((σ'.low=σ.low∧σ.low≤σ'.heap.length)∧σ'.df=σ.df∧dfNb σ'.heap.length σ.df)∧B8 σ.heap σ'.heap.length σ.slots σ'.slots∧Sb σ.heap σ'.heap.length σ.heap σ'.heap
theorem Sb.get {H:List AObj} {n:Nat}: ∀ {xs ys:List AObj} {l:Nat} {y:AObj},Sb H n xs ys→ys[l]? =some y→ ∃x,xs[l]? =some x∧Mk H n x y
 |_,[],_,_,_,h=>by simp at h
 |[],_::_,_,_,h,_=>h.elim
 |x::_,_::_,0,_,⟨h,_⟩,hy=>by simp at hy;subst hy;exact ⟨x,by simp,h⟩
 |_::_,_::_,l+1,_,⟨_,h⟩,hy=>by
  simp at hy
  obtain ⟨x,hx,hc⟩:=Sb.get h hy
  exact ⟨x,by simpa using hx,hc⟩
section weak
variable {C:Ctx} {φ:Nat→Value} {σ σ':AState} {a:Act} {w:World}
theorem B8.rep {E E':Env} {H:List AObj} {n:Nat} (hone: ∀x y v,Co H n x y→nO E x v→nO E' y v): ∀ {xs ys:List AV} {vs:List Value},B8 H n xs ys→k6 E xs vs→k6 E' ys vs
 |[],_,_,rfl,r=>r
 |_::_,_,_,⟨y,zs,rfl,hc,hr⟩,⟨u,us,rfl,r1,r2⟩=>⟨u,us,rfl,hone _ y u hc r1,B8.rep hone hr r2⟩
theorem oN.rep {E E':Env} {H:List AObj} {n:Nat} (hone: ∀x y v,Co1 H n x y→nO E x v→nO E' y v): ∀ {xs ys:List AV} {vs:List Value},oN H n xs ys→k6 E xs vs→k6 E' ys vs
 |[],_,_,rfl,r=>r
 |_::_,_,_,⟨y,zs,rfl,hc,hr⟩,⟨u,us,rfl,r1,r2⟩=>⟨u,us,rfl,hone _ y u hc r1,oN.rep hone hr r2⟩
theorem Co.of1 {E E':Env} {H:List AObj} {n:Nat} (hone: ∀x y v,Co1 H n x y→nO E x v→nO E' y v) (x y:AV) (v:Value) (h:Co H n x y) (r:nO E x v):nO E' y v:=by
 rcases h with h|⟨cs,ds,rfl,rfl,h⟩
 ·exact hone x y v h r
 ·obtain ⟨vs,hv,rl⟩:=r
  exact ⟨vs,hv,oN.rep hone h rl⟩
theorem Co.rep (S:mA C φ σ a w) {n:Nat} {x y:AV} {v:Value} (h:Co σ.heap n x y) (r:nO (C.env φ σ.heap w) x v):nO (C.env φ σ.heap w) y v:=by
 refine Co.of1 ?_ x y v h r
 intro x y v hc r
 rcases hc with ⟨hsub,hn⟩|⟨l,m,sz,rows,rfl,hl,hm,hsub,hn⟩
 ·exact hsub _ _ r
 ·have hv:=JU S hl hm r
  subst hv
  exact hsub _ _ (R5 S hl)
theorem B8.repS (S:mA C φ σ a w) {n:Nat} {xs ys:List AV} {vs:List Value} (h:B8 σ.heap n xs ys) (r:k6 (C.env φ σ.heap w) xs vs):k6 (C.env φ σ.heap w) ys vs:=
 B8.rep (fun _ _ _ h r=>Co.rep S h r) h r
theorem YO.sim (h:YO σ σ') (S:mA C φ σ a w):mA C φ σ' a w:=by
 obtain ⟨⟨EF,hdf,hdn⟩,hs,hh⟩:=h
 have Hp: ∀ (l:Nat) (y:AObj),σ'.heap[l]? =some y→ ∃x,σ.heap[l]? =some x∧Mk σ.heap σ'.heap.length x y:=fun l y hy=>hh.get hy
 have Xr: ∀ {x y:AObj} {h:Value} {b o:Nat},Mk σ.heap σ'.heap.length x y→y.muts h b o→x.muts h b o:=by
  intro x y h b o hc hm
  rcases hc with rfl|⟨rfl,_⟩|⟨cs,ds,rfl,rfl,_⟩|⟨pY,sz,rows,ug,rfl,rfl,_,_⟩|⟨lk,s1,s2,st,sk,rfl,rfl,_⟩
  ·simp [AObj.muts] at hm
  ·exact hm
  ·cases h with
   |pointer p=>cases p<;>exact hm
   |_=>exact hm
  ·cases h with
   |slice p _ _=>cases p<;>exact hm
   |_=>exact hm
  ·cases h with
   |func q _ _=>cases q<;>exact hm
   |_=>exact hm
 have Fb: ∀ {x y:AObj} {h:Value} {b:Nat},Mk σ.heap σ'.heap.length x y→y.block h b→x.block h b:=by
  intro x y h b hc hm
  rcases hc with rfl|⟨rfl,_⟩|⟨cs,ds,rfl,rfl,_⟩|⟨pY,sz,rows,ug,rfl,rfl,_,_⟩|⟨lk,s1,s2,st,sk,rfl,rfl,_⟩
  ·simp [AObj.block] at hm
  ·exact hm
  ·cases h with
   |pointer p=>cases p<;>exact hm
   |_=>exact hm
  ·cases h with
   |slice p _ _=>cases p<;>exact hm
   |_=>exact hm
  ·cases h with
   |func q _ _=>cases q<;>exact hm
   |_=>exact hm
 have EE: ∀b o,ET φ σ'.heap b o→ET φ σ.heap b o:=by
  rintro b o ⟨l,y,hy,hm⟩
  obtain ⟨x,hx,hc⟩:=Hp l y hy
  exact ⟨l,x,hx,Xr hc hm⟩
 have le:(C.env φ σ.heap w).Le σ'.heap.length (C.env φ σ'.heap w):=by
  refine ⟨dc _,fun l hl=> .inl ⟨rfl,?_⟩,fun b o u hm hc=>⟨fun h=>hm (h.imp (EE b o) id),hc⟩⟩
  obtain ⟨x,hx,hc⟩:=Hp l σ'.heap[l] (cX hl)
  simp only[Ctx.env]
  rw[cX hl,hx]
  rcases hc with h|⟨h,_⟩|⟨cs,ds,rfl,h,_⟩|⟨pY,sz,rows,ug,rfl,h,hr,_⟩|⟨lk,s1,s2,st,sk,rfl,h,_⟩
  ·right;rw[h];rfl
  ·left;rw[h]
  ·left;rw[h];rfl
  ·left;rw[h];simp only[lN,hr.length]
  ·left;rw[h];rfl
 have hone: ∀x y v,Co σ.heap σ'.heap.length x y→nO (C.env φ σ.heap w) x v→nO (C.env φ σ'.heap w) y v:=by
  refine Co.of1 ?_
  intro x y v hc r
  rcases hc with ⟨hsub,hn⟩|⟨l,m,sz,rows,rfl,hl,hm,hsub,hn⟩
  ·exact nO.mono le _ _ hn (hsub _ _ r)
  ·have hv:=JU S hl hm r
   subst hv
   exact nO.mono le _ _ hn (hsub _ _ (R5 S hl))
 have Ch:rB C φ σ'.heap w σ'.df a.defers:=by
  rw[hdf]
  exact S.defers.step' (fun xs vs ⟨f,hf⟩ r=>k6.mono le _ _ (hdn _ hf) r) (fun _ _ _=>rfl) (fun l x b hx hb=>by
   obtain ⟨y,hy,hc⟩:=Hp l x hx
   exact .inl ⟨l,y,hy,Fb hc hb⟩)
 refine {slots:=B8.rep hone hs S.slots,defers:=Ch,objs:= ?_,apart:= ?_,s6:= ?_,size:=S.size,old:=S.old,ni:=S.ni,C5:= ?_,vT:=S.vT,rest:=S.rest,low:=⟨by rw[EF.1];exact S.low.1,by rw[EF.1];exact EF.2⟩,names:= ?_}
 ·intro l y hy
  obtain ⟨x,hx,hc⟩:=Hp l y hy
  have r:=S.objs l x hx
  rcases hc with rfl|⟨rfl,hn⟩|⟨cs,ds,rfl,rfl,hcl⟩|⟨pY,sz,rows,ug,rfl,rfl,hr,hn⟩|⟨lk,s1,s2,st,sk,rfl,rfl,hcl⟩
  ·exact trivial
  ·cases y with
   |cells cs=>
    obtain ⟨b,c,t,h1,h2,rl,h3⟩:=r
    exact ⟨b,c,t,h1,h2,k6.mono le _ _ hn rl,h3⟩
   |acc pY sz rows=>
    obtain ⟨base,cap,h1,h2,h3,h4,h5⟩:=r
    refine ⟨base,cap,h1,h2,h3,h4,fun a0 ha hc=> ?_⟩
    obtain ⟨h6,c,t,h7,h8,rl,h9⟩:=h5 a0 ha hc
    exact ⟨h6,c,t,h7,h8,k6.mono le _ _ (by
     clear rl h9 h8 h7 h6 hc ha h5 h4 h3 h2 h1
     revert hn
     simp only[objNb]
     clear hy hx
     induction rows with
     |nil=>intro _;trivial
     |cons r rs ih=>
      intro hn
      simp only[dM]
      have: ∀ (p q:List AV),nbL σ'.heap.length p→nbL σ'.heap.length q→nbL σ'.heap.length (p++q):=by
       intro p q hp hq
       induction p with
       |nil=>exact hq
       |cons z p ihp=>exact ⟨hp.1,ihp hp.2⟩
      exact this r _ hn.1 (ih hn.2)) rl,h9⟩
   |map es=>
    obtain ⟨r',en,cl,h1,h2,rp⟩:=r
    exact ⟨r',en,cl,h1,h2,qP.mono le hn rp⟩
   |loop lk s1 st sk=>
    obtain ⟨D,rec,h1,h2,h3,h4,rl⟩:=r
    exact ⟨D,rec,h1,h2,h3,h4,k6.mono le _ _ hn rl⟩
   |iter s p=>exact r
   |dead=>trivial
  ·obtain ⟨b,c,t,h1,h2,rl,h3⟩:=r
   exact ⟨b,c,t,h1,h2,B8.rep hone hcl rl,h3⟩
  ·obtain ⟨base,cap,h1,h2,h3,h4,h5⟩:=r
   have hlen:=hr.length
   refine ⟨base,cap,by rw[hlen];exact h1,by rw[hlen];exact h2,h3,hr.sz h4,fun a0 ha hc=> ?_⟩
   obtain ⟨h6,c,t,h7,h8,rl,h9⟩:=h5 a0 ha hc
   rw[hlen]
   exact ⟨h6,c,t,h7,h8,k6.mono le _ _ (GD hn) (hr.flat rl),h9⟩
  ·obtain ⟨D,rec,h1,h2,h3,h4,rl⟩:=r
   exact ⟨D,rec,h1,h2,h3,h4,B8.rep hone hcl rl⟩
 ·intro l l' x x' b hx hx' hb hb'
  obtain ⟨y,hy,hc⟩:=Hp l x hx
  obtain ⟨y',hy',ZV⟩:=Hp l' x' hx'
  exact S.apart l l' y y' b hy hy' (Fb hc hb) (Fb ZV hb')
 ·intro l x b o hx hb
  obtain ⟨y,hy,hc⟩:=Hp l x hx
  exact S.s6 l y b o hy (Fb hc hb)
 ·intro l x b o hx hm hb
  obtain ⟨y,hy,hc⟩:=Hp l x hx
  exact S.C5 l y b o hy (Xr hc hm) hb
 ·intro l hl
  have hlt:l<σ'.heap.length:=by have:=S.low;omega
  obtain ⟨x,hx,hc⟩:=Hp l σ'.heap[l] (cX hlt)
  have hn:=S.names l hl
  rw[hx] at hn
  rw[cX hlt]
  have hcase:lN (some σ'.heap[l])=lN (some x)∨lN (some σ'.heap[l])=none:=by
   rcases hc with h|⟨h,_⟩|⟨cs,ds,rfl,h,_⟩|⟨pY,sz,rows,ug,rfl,h,hr,_⟩|⟨lk,s1,s2,st,sk,rfl,h,_⟩
   ·right;rw[h];rfl
   ·left;rw[h]
   ·left;rw[h];rfl
   ·left;rw[h];simp only[lN,hr.length]
   ·left;rw[h];rfl
  rcases hcase with h|h
  ·rw[h];exact hn
  ·rw[h]
   rcases hn with ⟨h1,_⟩|⟨⟨k,h1,_⟩,h3⟩
   ·exact .inl ⟨h1,.inr rfl⟩
   ·exact .inr ⟨⟨k,h1,fun k' hk'=>by cases hk'⟩,h3⟩
theorem YO.imp (h:YO σ σ'):Gk σ σ':=fun _ φ _ _ S=>⟨φ,h.sim S⟩
theorem ghostAcc {i s sz:Nat} {pY:Bool} (h:σ.slots[i]? =some (.l5 true s [])):Gk σ {σ with slots:=σ.slots.set i (.acc σ.heap.length 0),heap:=σ.heap++[.acc pY sz []]}:=by
 intro C φ a w S
 obtain ⟨v,hv,base,cap,rfl,_,hc,_⟩:=S.slots.get h
 have hcap:cap=0:=hc rfl
 subst hcap
 have S':=S.Qf (pY:=pY) (sz:=sz) (rows:=[]) (w':=w) (h':= .slice base 0 0) (dc _) (fun _ _=>rfl) (fun _=>rfl) ⟨rfl,rfl⟩ (by
  intro b hb
  cases base<;>simp [AObj.block] at hb) (fun E' _ _=>⟨base,0,rfl,dc _,fun _=>rfl,by simp,fun b _ h0=>absurd rfl h0⟩)
 refine ⟨(fun k=>if k=σ.heap.length then .slice base 0 0 else φ k),?_⟩
 have:=S'.put (some i) (x:= .acc σ.heap.length 0) (v:= .slice base 0 0) ⟨by simp [Ctx.env],⟨_,_,_,rfl⟩,fun k hk=>by
  simp only[Ctx.env,dh (dc _),e8,dJ,lN,cK] at hk
  exact ⟨by simp,fun _=>by simp [Ctx.env]⟩⟩
 refine {this with slots:= ?_,defers:=this.defers}
 have hs:=this.slots
 have ha:(a.put (some i) (.slice base 0 0)).tmps.toList=a.tmps.toList:=by
  simp only[Act.put,Array.toList_setIfInBounds]
  apply List.ext_getElem?
  intro k
  by_cases e:i=k
  ·subst e
   have hlt:i<a.tmps.toList.length:=(cO.1 hv).1
   rw[dj hlt];exact hv.symm
  ·rw[c9 e]
 rw[ha] at hs
 exact hs
end weak
def chunks (sz:Nat):Nat→List AV→List (List AV)
 |0,_=>[]
 |n+1,cs=>cs.take sz::chunks sz n (cs.drop sz)
mutual
def U6 (low:Nat) (H:List AObj):AV→AV
 | .acc l n=>if l<low then .acc l n else match H[l]? with
   |some (.acc _ sz rows)=>if rows.length=n then .l5 false sz rows else .any
   |_=> .any
 | .own l i n o sz=>if l<low then .own l i n o sz else .any
 | .agg cs=> .agg (Sd low H cs)
 | .tup cs=> .tup (Sd low H cs)
 | .any=> .any
 | .bool b=> .bool b
 | .int k n=> .int k n
 | .str s=> .str s
 | .raw v=> .raw v
 | .l5 t sz rows=> .l5 t sz rows
 | .ptr l off=> .ptr l off
 | .map l=> .map l
 | .pp cs=> .pp cs
 | .func fn f c=> .func fn f c
 | .iface t x=> .iface t x
def Sd (low:Nat) (H:List AObj):List AV→List AV
 |[]=>[]
 |x::xs=>U6 low H x::Sd low H xs
end
section res
variable {C:Ctx} {φ:Nat→Value} {σ:AState} {a:Act} {w:World}
theorem nameless_le (_S:mA C φ σ a w):(C.env φ σ.heap w).Le 0 (C.env φ [] w):=by
 refine ⟨eC _,fun l hl=>absurd hl (dm _),fun b o u hm hc=>⟨?_,hc⟩⟩
 simp only[Ctx.env] at hm ⊢
 rintro (⟨l,x,hx,_⟩|h)
 ·simp at hx
 ·exact hm (.inr h)
structure Drops (C:Ctx) (φ:Nat→Value) (σ:AState) (w:World) (E':Env):Prop where
 le:(C.env φ σ.heap w).Le σ.low E'
 w:E'.w=w
 free: ∀ (l:Nat) (x:AObj) (b o:Nat),σ.low≤l→σ.heap[l]? =some x→x.block (φ l) b→ ¬ E'.mu b o
theorem mA.drops (S:mA C φ σ a w) (h0:σ.low=0):Drops C φ σ w (C.env φ [] w):=by
 refine ⟨by rw[h0];exact nameless_le S,rfl,fun l x b o _ hx hb=> ?_⟩
 simp only[Ctx.env]
 rintro (⟨l',y,hy,_⟩|hA)
 ·simp at hy
 ·exact S.s6 l x b o hx hb hA
mutual
theorem WS (S:mA C φ σ a w) {E':Env} (D:Drops C φ σ w E'):
 ∀ (x:AV) (v:Value),(U6 σ.low σ.heap x).nb σ.low→nO (C.env φ σ.heap w) x v→nO E' (U6 σ.low σ.heap x) v
 | .acc l n,v,hn,r=>by
   simp only[U6] at hn ⊢
   by_cases EF:l<σ.low
   ·rw[if_pos EF];exact nO.mono D.le (.acc l n) v EF r
   ·rw[if_neg EF] at hn ⊢
    split
    ·rename_i pY sz rows hl
     simp only[hl] at hn
     split
     ·rename_i hlen
      rw[if_pos hlen] at hn
      have hv:=JU S hl hlen r
      subst hv
      obtain ⟨base,cap,hh,h2,h3,h4,h5⟩:=S.objs l _ hl
      refine ⟨base,cap,hh,h2,(by intro h;cases h),h3,?_,?_⟩
      ·intro b hb hne
       exact (h5 b hb (fun h0=>hne (cU (by omega)))).1
      ·intro b hb
       by_cases hc:cap=0
       ·have:rows=[]:=cU (by omega)
        subst this;trivial
       ·obtain ⟨hsp,c,t,hcb,hsz,rl,h1⟩:=h5 b hb hc
        subst hb
        refine O6 (E:=E') (c:=c) (t:=t) (fr:=(0,0)) (by rw[D.w];exact hcb) rows b.off h4 ?_ (k6.mono D.le _ _ (GD hn) rl) h1
        intro o _ _
        exact D.free l _ b.block o (by omega) hl (by rw[hh];exact ⟨rfl,hc⟩)
     ·exact trivial
    ·exact trivial
 | .own l i n o sz,v,hn,r=>by
   simp only[U6] at hn ⊢
   by_cases EF:l<σ.low
   ·rw[if_pos EF];exact nO.mono D.le (.own l i n o sz) v EF r
   ·rw[if_neg EF];exact trivial
 | .agg cs,v,hn,⟨vs,hv,rl⟩=>⟨vs,hv,Vx S D cs _ hn rl⟩
 | .tup cs,v,hn,⟨vs,hv,rl⟩=>⟨vs,hv,Vx S D cs _ hn rl⟩
 | .any,_,_,_=>trivial
 | .bool _,_,_,r=>r
 | .int _ _,_,_,r=>r
 | .str _,_,_,r=>r
 | .raw _,_,_,r=>r
 | .l5 t sz rows,_,hn,r=>nO.mono D.le (.l5 t sz rows) _ hn r
 | .ptr l off,_,hn,r=>nO.mono D.le (.ptr l off) _ hn r
 | .map l,_,hn,r=>nO.mono D.le (.map l) _ hn r
 | .pp cs,_,hn,r=>nO.mono D.le (.pp cs) _ hn r
 | .func fn f c,_,hn,r=>nO.mono D.le (.func fn f c) _ hn r
 | .iface t x,_,hn,r=>nO.mono D.le (.iface t x) _ hn r
theorem Vx (S:mA C φ σ a w) {E':Env} (D:Drops C φ σ w E'):
 ∀ (xs:List AV) (vs:List Value),nbL σ.low (Sd σ.low σ.heap xs)→k6 (C.env φ σ.heap w) xs vs→k6 E' (Sd σ.low σ.heap xs) vs
 |[],_,_,r=>r
 |x::xs,_,hn,⟨u,us,hv,r1,r2⟩=>⟨u,us,hv,WS S D x u hn.1 r1,Vx S D xs us hn.2 r2⟩
end
mutual
theorem frz_of_nb (low:Nat) (H:List AObj): ∀x:AV,x.nb 0→U6 low H x=x
 | .acc _ _,h=>absurd h (dm _)
 | .own _ _ _ _ _,h=>absurd h (dm _)
 | .agg cs,h=>by rw[U6,xY low H cs h]
 | .tup cs,h=>by rw[U6,xY low H cs h]
 | .any,_| .bool _,_| .int _ _,_| .str _,_| .raw _,_| .l5 _ _ _,_| .ptr _ _,_| .map _,_| .pp _,_| .func _ _ _,_| .iface _ _,_=>by rw[U6]
theorem xY (low:Nat) (H:List AObj): ∀xs:List AV,nbL 0 xs→Sd low H xs=xs
 |[],_=>rfl
 |x::xs,h=>by rw[Sd,frz_of_nb low H x h.1,xY low H xs h.2]
end
end res
end Go.Abs
namespace Go.Abs
mutual
def AV.ren (ρ:Nat→Nat):AV→AV
 | .agg cs=> .agg (renL ρ cs)
 | .tup cs=> .tup (renL ρ cs)
 | .pp cs=> .pp (renL ρ cs)
 | .l5 t sz rows=> .l5 t sz (CU ρ rows)
 | .acc l n=> .acc (ρ l) n
 | .own l off len cap sz=> .own (ρ l) off len cap sz
 | .ptr l off=> .ptr (ρ l) off
 | .map l=> .map (ρ l)
 | .func fn f c=> .func fn (renL ρ f) (renL ρ c)
 | .iface t x=> .iface t (x.ren ρ)
 | .any=> .any
 | .bool b=> .bool b
 | .int k n=> .int k n
 | .str s=> .str s
 | .raw v=> .raw v
def renL (ρ:Nat→Nat):List AV→List AV
 |[]=>[]
 |c::cs=>c.ren ρ::renL ρ cs
def CU (ρ:Nat→Nat):List (List AV)→List (List AV)
 |[]=>[]
 |r::rs=>renL ρ r::CU ρ rs
end
theorem renL_length (ρ:Nat→Nat): ∀cs:List AV,(renL ρ cs).length=cs.length
 |[]=>rfl
 |_::cs=>by simp [renL,renL_length ρ cs]
theorem tv (ρ:Nat→Nat): ∀cs:List (List AV),(CU ρ cs).length=cs.length
 |[]=>rfl
 |_::cs=>by simp [CU,tv ρ cs]
theorem Se (ρ:Nat→Nat): ∀a b:List AV,renL ρ (a++b)=renL ρ a++renL ρ b
 |[],_=>rfl
 |_::a,b=>by simp [renL,Se ρ a b]
theorem Qi (ρ:Nat→Nat): ∀rs:List (List AV),(CU ρ rs).flatten=renL ρ rs.flatten
 |[]=>rfl
 |r::rs=>by simp [CU,Se,Qi ρ rs]
mutual
theorem GF (ρ:Nat→Nat): ∀x:AV,x.nb 0→x.ren ρ=x
 | .acc _ _,h=>absurd h (dm _)
 | .own _ _ _ _ _,h=>absurd h (dm _)
 | .ptr _ _,h=>absurd h (dm _)
 | .map _,h=>absurd h (dm _)
 | .agg cs,h=>by rw[AV.ren,pg ρ cs h]
 | .tup cs,h=>by rw[AV.ren,pg ρ cs h]
 | .pp cs,h=>by rw[AV.ren,pg ρ cs h]
 | .l5 _ _ rows,h=>by rw[AV.ren,sw ρ rows h]
 | .func _ f c,h=>by rw[AV.ren,pg ρ f h.1,pg ρ c h.2]
 | .iface _ x,h=>by rw[AV.ren,GF ρ x h]
 | .any,_| .bool _,_| .int _ _,_| .str _,_| .raw _,_=>by rw[AV.ren]
theorem pg (ρ:Nat→Nat): ∀xs:List AV,nbL 0 xs→renL ρ xs=xs
 |[],_=>rfl
 |x::xs,h=>by rw[renL,GF ρ x h.1,pg ρ xs h.2]
theorem sw (ρ:Nat→Nat): ∀xs:List (List AV),Lu 0 xs→CU ρ xs=xs
 |[],_=>rfl
 |x::xs,h=>by rw[CU,pg ρ x h.1,sw ρ xs h.2]
end
def AObj.ren (ρ:Nat→Nat):AObj→AObj
 | .cells cs=> .cells (renL ρ cs)
 | .acc pY sz rows=> .acc pY sz (CU ρ rows)
 | .map es=> .map (es.map fun p=>(p.1.ren ρ,p.2.ren ρ))
 | .loop k slots st sk=> .loop k (renL ρ slots) st sk
 | .iter s p=> .iter s p
 | .dead=> .dead
def ud.ren (ρ:Nat→Nat):ud→ud
 | .ret r=> .ret (r.ren ρ)
 | .panic x=> .panic (x.ren ρ)
structure V7 (N:Nat) (ρ:Nat→Nat) (E E':Env):Prop where
 n: ∀l,l<N→ρ l<E'.n
 names: ∀l,l<N→E'.φ (ρ l)=E.φ l∧(E'.ln (ρ l)=E.ln l∨E'.ln (ρ l)=none)
 mem: ∀b o u,¬ E.mu b o→E.w.cell? ⟨b,o,none⟩=some u→ ¬ E'.mu b o∧E'.w.cell? ⟨b,o,none⟩=some u
section
variable {E E':Env} {N:Nat} {ρ:Nat→Nat}
mutual
theorem nO.ren (h:V7 N ρ E E'): ∀ (x:AV) (v:Value),x.nb N→nO E x v→nO E' (x.ren ρ) v
 | .any,_,_,_=>trivial
 | .bool _,_,_,r=>r
 | .int _ _,_,_,r=>r
 | .str _,_,_,r=>r
 | .raw _,_,_,r=>r
 | .agg cs,_,hb,⟨vs,hv,hr⟩=>⟨vs,hv,k6.ren h cs _ hb hr⟩
 | .tup cs,_,hb,⟨vs,hv,hr⟩=>⟨vs,hv,k6.ren h cs _ hb hr⟩
 | .l5 t sz rows,_,hb,⟨base,cap,h1,h2,h3,h4,h5,h6⟩=>
   ⟨base,cap,by rw[tv];exact h1,by rw[tv];exact h2,fun e=>by rw[tv];exact h3 e,h4,fun a ha hne=>h5 a ha (fun e=>hne (by rw[e];rfl)),fun a ha=>mC.ren h rows _ hb (h6 a ha)⟩
 | .acc l n,v,hb,⟨_,UD,r⟩=>⟨h.n l hb,UD,fun k hk=>by
     rcases (h.names l hb).2 with e|e
     ·rw[e] at hk;rw[(h.names l hb).1];exact r k hk
     ·rw[e] at hk;cases hk⟩
 | .own l i n o sz,v,hb,⟨_,UD,r⟩=>⟨h.n l hb,UD,fun k hk=>by
     rcases (h.names l hb).2 with e|e
     ·rw[e] at hk;rw[(h.names l hb).1];exact r k hk
     ·rw[e] at hk;cases hk⟩
 | .ptr l off,v,hb,⟨_,b,hφ,hv⟩=>⟨h.n l hb,b,by rw[(h.names l hb).1];exact hφ,hv⟩
 | .map l,v,hb,⟨_,hv,r,hφ⟩=>⟨h.n l hb,by rw[(h.names l hb).1];exact hv,r,by rw[(h.names l hb).1];exact hφ⟩
 | .pp cs,_,hb,⟨b,off,hv,r⟩=>⟨b,off,hv,mV.ren h cs _ hb r⟩
 | .func _ f c,_,hb,⟨f',c',hv,r1,r2⟩=>⟨f',c',hv,k6.ren h f _ hb.1 r1,k6.ren h c _ hb.2 r2⟩
 | .iface _ x,_,hb,⟨u,hv,r⟩=>⟨u,hv,nO.ren h x _ hb r⟩
theorem k6.ren (h:V7 N ρ E E'): ∀ (cs:List AV) (vs:List Value),nbL N cs→k6 E cs vs→k6 E' (renL ρ cs) vs
 |[],_,_,r=>r
 |c::cs,_,hb,⟨u,us,hv,r1,r2⟩=>⟨u,us,hv,nO.ren h c _ hb.1 r1,k6.ren h cs _ hb.2 r2⟩
theorem mV.ren (h:V7 N ρ E E') {b:Nat}: ∀ (cs:List AV) (off:Nat),nbL N cs→mV E b off cs→mV E' b off (renL ρ cs)
 |[],_,_,_=>trivial
 |c::cs,off,hb,⟨⟨hm,u,hu,h1,r1⟩,r2⟩=>
  let ⟨m,c'⟩:=h.mem b off u hm hu
  ⟨⟨m,u,c',h1,nO.ren h c _ hb.1 r1⟩,mV.ren h cs _ hb.2 r2⟩
theorem mC.ren (h:V7 N ρ E E') {sz b:Nat}: ∀ (rs:List (List AV)) (off:Nat),Lu N rs→mC E sz b off rs→mC E' sz b off (CU ρ rs)
 |[],_,_,_=>trivial
 |r::rs,off,hb,⟨hl,r1,r2⟩=>⟨by rw[renL_length];exact hl,mV.ren h r _ hb.1 r1,mC.ren h rs _ hb.2 r2⟩
end
structure UnLe (N:Nat) (ρ:Nat→Nat) (E' E:Env):Prop where
 n:N≤E.n
 names: ∀l,l<N→E.φ l=E'.φ (ρ l)∧E.ln l=E'.ln (ρ l)
 mem: ∀b o u,¬ E'.mu b o→E'.w.cell? ⟨b,o,none⟩=some u→ ¬ E.mu b o∧E.w.cell? ⟨b,o,none⟩=some u
mutual
theorem nO.Cb (h:UnLe N ρ E' E): ∀ (x:AV) (v:Value),x.nb N→nO E' (x.ren ρ) v→nO E x v
 | .any,_,_,_=>trivial
 | .bool _,_,_,r=>r
 | .int _ _,_,_,r=>r
 | .str _,_,_,r=>r
 | .raw _,_,_,r=>r
 | .agg cs,_,hb,⟨vs,hv,hr⟩=>⟨vs,hv,k6.Cb h cs _ hb hr⟩
 | .tup cs,_,hb,⟨vs,hv,hr⟩=>⟨vs,hv,k6.Cb h cs _ hb hr⟩
 | .l5 t sz rows,_,hb,⟨base,cap,h1,h2,h3,h4,h5,h6⟩=>by
   rw[tv] at h1 h2 h3
   refine ⟨base,cap,h1,h2,h3,h4,fun a ha hne=>h5 a ha (fun e=>hne ?_),fun a ha=>mC.Cb h rows _ hb (h6 a ha)⟩
   have:=congrArg List.length e
   rw[tv] at this
   exact cU this
 | .acc l n,v,hb,⟨_,UD,r⟩=>⟨cZ hb h.n,UD,fun k hk=>by rw[(h.names l hb).2] at hk;rw[(h.names l hb).1];exact r k hk⟩
 | .own l i n o sz,v,hb,⟨_,UD,r⟩=>⟨cZ hb h.n,UD,fun k hk=>by rw[(h.names l hb).2] at hk;rw[(h.names l hb).1];exact r k hk⟩
 | .ptr l off,v,hb,⟨_,b,hφ,hv⟩=>⟨cZ hb h.n,b,by rw[(h.names l hb).1];exact hφ,hv⟩
 | .map l,v,hb,⟨_,hv,r,hφ⟩=>⟨cZ hb h.n,by rw[(h.names l hb).1];exact hv,r,by rw[(h.names l hb).1];exact hφ⟩
 | .pp cs,_,hb,⟨b,off,hv,r⟩=>⟨b,off,hv,mV.Cb h cs _ hb r⟩
 | .func _ f c,_,hb,⟨f',c',hv,r1,r2⟩=>⟨f',c',hv,k6.Cb h f _ hb.1 r1,k6.Cb h c _ hb.2 r2⟩
 | .iface _ x,_,hb,⟨u,hv,r⟩=>⟨u,hv,nO.Cb h x _ hb r⟩
theorem k6.Cb (h:UnLe N ρ E' E): ∀ (cs:List AV) (vs:List Value),nbL N cs→k6 E' (renL ρ cs) vs→k6 E cs vs
 |[],_,_,r=>r
 |c::cs,_,hb,⟨u,us,hv,r1,r2⟩=>⟨u,us,hv,nO.Cb h c _ hb.1 r1,k6.Cb h cs _ hb.2 r2⟩
theorem mV.Cb (h:UnLe N ρ E' E) {b:Nat}: ∀ (cs:List AV) (off:Nat),nbL N cs→mV E' b off (renL ρ cs)→mV E b off cs
 |[],_,_,_=>trivial
 |c::cs,off,hb,⟨⟨hm,u,hu,h1,r1⟩,r2⟩=>
  let ⟨m,c'⟩:=h.mem b off u hm hu
  ⟨⟨m,u,c',h1,nO.Cb h c _ hb.1 r1⟩,mV.Cb h cs _ hb.2 r2⟩
theorem mC.Cb (h:UnLe N ρ E' E) {sz b:Nat}: ∀ (rs:List (List AV)) (off:Nat),Lu N rs→mC E' sz b off (CU ρ rs)→mC E sz b off rs
 |[],_,_,_=>trivial
 |r::rs,off,hb,⟨hl,r1,r2⟩=>⟨by rw[renL_length] at hl;exact hl,mV.Cb h r _ hb.1 r1,mC.Cb h rs _ hb.2 r2⟩
end
end
theorem renPairs {E E':Env} {N:Nat} {ρ:Nat→Nat} (h:V7 N ρ E E'): ∀ {es:List (AV×AV)} {xs:List MapEntry},(∀p∈es,p.1.nb N∧p.2.nb N)→qP E es xs→qP E' (es.map fun p=>(p.1.ren ρ,p.2.ren ρ)) xs
 |[],_,_,r=>r
 |(k,v)::_,_,hb,⟨e,s,he,r1,r2,r3⟩=>
  ⟨e,s,he,nO.ren h k _ (hb (k,v) (by simp)).1 r1,nO.ren h v _ (hb (k,v) (by simp)).2 r2,renPairs h (fun p hp=>hb p (by simp [hp])) r3⟩
theorem YP {E E':Env} {N:Nat} {ρ:Nat→Nat} (h:UnLe N ρ E' E): ∀ {es:List (AV×AV)} {xs:List MapEntry},(∀p∈es,p.1.nb N∧p.2.nb N)→qP E' (es.map fun p=>(p.1.ren ρ,p.2.ren ρ)) xs→qP E es xs
 |[],_,_,r=>r
 |(k,v)::_,_,hb,⟨e,s,he,r1,r2,r3⟩=>
  ⟨e,s,he,nO.Cb h k _ (hb (k,v) (by simp)).1 r1,nO.Cb h v _ (hb (k,v) (by simp)).2 r2,YP h (fun p hp=>hb p (by simp [hp])) r3⟩
theorem nk.ren {E E':Env} {N:Nat} {ρ:Nat→Nat} (h:V7 N ρ E E') {x:AObj} {hd:Value} (hb:objNb N x) (hw: ∀b,x.block hd b→E'.w.heap[b]? =E.w.heap[b]?) (r:nk E x hd):nk E' (x.ren ρ) hd:=by
 cases x with
 |cells cs=>
  obtain ⟨b,c,t,rfl,h2,rl,h3⟩:=r
  exact ⟨b,c,t,rfl,by rw[hw b rfl];exact h2,k6.ren h _ _ hb rl,h3⟩
 |acc pY sz rows=>
  obtain ⟨base,cap,rfl,h2,h3,h4,h5⟩:=r
  refine ⟨base,cap,by rw[tv],by rw[tv];exact h2,h3,?_,fun a0 ha hc=> ?_⟩
  ·have key: ∀rs:List (List AV),(∀r∈rs,r.length=sz)→ ∀r∈CU ρ rs,r.length=sz:=by
    intro rs
    induction rs with
    |nil=>intro _ r hr;simp [CU] at hr
    |cons q rs ih=>
     intro hl r hr
     simp only[CU,cW] at hr
     rcases hr with rfl|hr
     ·rw[renL_length];exact hl q (by simp)
     ·exact ih (fun p hp=>hl p (by simp [hp])) r hr
   exact key rows h4
  ·obtain ⟨h6,c,t,h7,h8,rl,h9⟩:=h5 a0 ha hc
   subst ha
   rw[tv,Qi]
   exact ⟨h6,c,t,by rw[hw _ ⟨rfl,hc⟩];exact h7,h8,k6.ren h _ _ (GD hb) rl,h9⟩
 |map es=>
  obtain ⟨r',en,cl,rfl,h2,rp⟩:=r
  exact ⟨r',en,cl,rfl,by rw[hw r' rfl];exact h2,renPairs h hb rp⟩
 |loop k slots st sk=>
  obtain ⟨D,rec,rfl,h1,h2,h3,rl⟩:=r
  exact ⟨D,rec,rfl,by rw[hw (D+1) (.inl rfl)];exact h1,by rw[hw D (.inr rfl)];exact h2,h3,k6.ren h _ _ hb rl⟩
 |iter s p=>
  obtain ⟨b,rfl,h2⟩:=r
  exact ⟨b,rfl,by rw[hw b rfl];exact h2⟩
 |dead=>trivial
theorem nk.Cb {E E':Env} {N:Nat} {ρ:Nat→Nat} (h:UnLe N ρ E' E) {x:AObj} {hd:Value} (hb:objNb N x) (hw: ∀b,(x.ren ρ).block hd b→E.w.heap[b]? =E'.w.heap[b]?) (r:nk E' (x.ren ρ) hd):nk E x hd:=by
 cases x with
 |cells cs=>
  obtain ⟨b,c,t,rfl,h2,rl,h3⟩:=r
  exact ⟨b,c,t,rfl,by rw[hw b rfl];exact h2,k6.Cb h _ _ hb rl,h3⟩
 |acc pY sz rows=>
  obtain ⟨base,cap,rfl,h2,h3,h4,h5⟩:=r
  rw[tv] at h2 hw
  refine ⟨base,cap,by rw[tv],h2,h3,?_,fun a0 ha hc=> ?_⟩
  ·have key: ∀rs:List (List AV),(∀r∈CU ρ rs,r.length=sz)→ ∀r∈rs,r.length=sz:=by
    intro rs
    induction rs with
    |nil=>intro _ r hr;simp at hr
    |cons q rs ih=>
     intro hl r hr
     simp only[cW] at hr
     rcases hr with rfl|hr
     ·have:=hl (renL ρ r) (by simp [CU]);rw[renL_length] at this;exact this
     ·exact ih (fun p hp=>hl p (by simp [CU,hp])) r hr
   exact key rows h4
  ·obtain ⟨h6,c,t,h7,h8,rl,h9⟩:=h5 a0 ha hc
   subst ha
   rw[tv] at rl h9
   rw[Qi] at rl
   exact ⟨h6,c,t,by rw[hw _ ⟨rfl,hc⟩];exact h7,h8,k6.Cb h _ _ (GD hb) rl,h9⟩
 |map es=>
  obtain ⟨r',en,cl,rfl,h2,rp⟩:=r
  exact ⟨r',en,cl,rfl,by rw[hw r' rfl];exact h2,YP h hb rp⟩
 |loop k slots st sk=>
  obtain ⟨D,rec,rfl,h1,h2,h3,rl⟩:=r
  exact ⟨D,rec,rfl,by rw[hw (D+1) (.inl rfl)];exact h1,by rw[hw D (.inr rfl)];exact h2,h3,k6.Cb h _ _ hb rl⟩
 |iter s p=>
  obtain ⟨b,rfl,h2⟩:=r
  exact ⟨b,rfl,by rw[hw b rfl];exact h2⟩
 |dead=>trivial
theorem O7 {ρ:Nat→Nat} {x:AObj} {h:Value} {b o:Nat}:(x.ren ρ).muts h b o↔x.muts h b o:=by
 cases x with
 |cells cs=>cases h with
  |pointer p=>cases p<;>exact cV
  |_=>exact cV
 |acc pY sz rows=>cases h with
  |slice p n c=>cases p<;>exact cV
  |_=>exact cV
 |map es=>cases h with
  |map p=>cases p<;>exact cV
  |_=>exact cV
 |loop k slots st sk=>cases h with
  |func q _ _=>cases q<;>exact cV
  |_=>exact cV
 |iter s p=>cases h with
  |pointer p=>cases p<;>exact cV
  |_=>exact cV
 |dead=>exact cV
theorem Bk {ρ:Nat→Nat} {x:AObj} {h:Value} {b:Nat}:(x.ren ρ).block h b↔x.block h b:=by
 cases x with
 |cells cs=>cases h with
  |pointer p=>cases p<;>exact cV
  |_=>exact cV
 |acc pY sz rows=>cases h with
  |slice p n c=>cases p<;>exact cV
  |_=>exact cV
 |map es=>cases h with
  |map p=>cases p<;>exact cV
  |_=>exact cV
 |loop k slots st sk=>cases h with
  |func q _ _=>cases q<;>exact cV
  |_=>exact cV
 |iter s p=>cases h with
  |pointer p=>cases p<;>exact cV
  |_=>exact cV
 |dead=>exact cV
theorem DW {ρ:Nat→Nat} {x:AObj}:lN (some (x.ren ρ))=lN (some x):=by
 cases x<;>simp [lN,AObj.ren,tv]
theorem N8 {x:AObj} {h:Value} {b:Nat} (hb:x.block h b): ∃o,x.muts h b o:=by
 cases x with
 |cells cs=>
  cases h with
  |pointer p=>cases p with
   |none=>exact absurd hb id
   |some a=>exact ⟨0,hb⟩
  |_=>exact absurd hb id
 |acc pY sz rows=>
  cases h with
  |slice base n cap=>cases base with
   |none=>exact absurd hb id
   |some a=>exact ⟨a.off+n*sz,hb,fun _=>dc _⟩
  |_=>exact absurd hb id
 |map es=>
  cases h with
  |map r=>cases r with
   |none=>exact absurd hb id
   |some a=>exact ⟨0,hb⟩
  |_=>exact absurd hb id
 |loop k slots st sk=>
  cases h with
  |func q _ _=>cases q with
   |yield r=>exact ⟨0,hb⟩
   |_=>exact absurd hb id
  |_=>exact absurd hb id
 |iter s p=>
  cases h with
  |pointer p=>cases p with
   |none=>exact absurd hb id
   |some a=>exact ⟨0,hb⟩
  |_=>exact absurd hb id
 |dead=>exact absurd hb id
end Go.Abs
namespace Go.Abs
theorem quiet_nw {P:Program} {σ:AState} {op:Op} {e:u7} (hq:quiet op=true) (h:lA P σ op=some e):e.nw=[]:=by
 cases op with
 |move x=>cases h;rfl
 |assign x=>cases h;rfl
 |pick c x y=>simp only[lA] at h;split at h<;>cases h;rfl
 |unOp op t x=>simp only[lA] at h;split at h<;>cases h<;>rfl
 |fieldAddr t x i=>simp only[lA] at h;split at h<;>cases h<;>rfl
 |extract x i=>
  simp only[lA] at h
  split at h
  ·split at h<;>cases h;rfl
  ·cases h
 |binOp op t x y u=>
  simp only[lA] at h
  split at h
  ·cases h;rfl
  ·unfold eqEff Vu at h
   split at h
   ·rename_i he
    split at he
    ·split at he<;>cases he;cases h;rfl
    ·split at he<;>cases he;cases h;rfl
    ·cases he
   unfold WL at h
   split at h
   ·cases h;rfl
   ·cases h;rfl
   ·split at h<;>cases h;rfl
   ·split at h<;>cases h;rfl
   ·split at h<;>cases h;rfl
   ·split at h<;>cases h;rfl
   ·split at h<;>cases h;rfl
   ·split at h<;>cases h;rfl
   ·cases h
 |load t x=>
  simp only[lA] at h
  split at h
  ·split at h
   ·split at h
    ·unfold ldV at h
     split at h
     ·split at h<;>cases h;rfl
     ·cases h;rfl
    ·cases h
   ·cases h
  ·split at h<;>cases h;rfl
  ·split at h
   ·split at h
    ·split at h
     ·split at h<;>cases h;rfl
     ·cases h
    ·cases h
   ·cases h
  ·unfold Yx at h
   split at h
   ·split at h
    ·rw[dn] at h
     obtain ⟨m,_,he⟩:=h
     obtain rfl:=dV he
     rfl
    ·cases h
   ·cases h
  ·cases h
 |store t x y=>
  simp only[lA] at h
  split at h
  ·split at h
   ·split at h<;>cases h;rfl
   ·cases h
  ·split at h
   ·split at h
    ·split at h
     ·split at h<;>cases h;rfl
     ·cases h
    ·cases h
   ·cases h
  ·cases h
 |field t x i=>
  simp only[lA] at h
  split at h
  ·split at h
   ·split at h<;>cases h;rfl
   ·cases h
  ·cases h
 |index t x i=>
  simp only[lA] at h
  split at h
  ·split at h
   ·split at h<;>cases h;rfl
   ·cases h
  ·cases h
 |indexAddr t x i=>
  simp only[lA] at h
  split at h
  ·split at h
   ·split at h
    ·split at h<;>cases h;rfl
    ·cases h
   ·split at h
    ·split at h
     ·split at h<;>cases h;rfl
     ·cases h
    ·split at h<;>cases h;rfl
    ·cases h
   ·cases h
  ·split at h
   ·split at h
    ·split at h<;>cases h;rfl
    ·split at h
     ·rw[dn] at h
      obtain ⟨ds,_,he⟩:=h
      obtain rfl:=dV he
      rfl
     ·cases h
    ·split at h<;>cases h;rfl
    ·cases h
   ·cases h
 |_=>simp [quiet] at hq
theorem quiet_wh {P:Program} {σ:AState} {op:Op} {e:u7} (hq:quiet op=true) (h:lA P σ op=some e):e.whole=false:=by
 cases op with
 |move x=>cases h;rfl
 |assign x=>cases h;rfl
 |pick c x y=>simp only[lA] at h;split at h<;>cases h;rfl
 |unOp op t x=>simp only[lA] at h;split at h<;>cases h<;>rfl
 |fieldAddr t x i=>simp only[lA] at h;split at h<;>cases h<;>rfl
 |extract x i=>
  simp only[lA] at h
  split at h
  ·split at h<;>cases h;rfl
  ·cases h
 |binOp op t x y u=>
  simp only[lA] at h
  split at h
  ·cases h;rfl
  ·unfold eqEff Vu at h
   split at h
   ·rename_i he
    split at he
    ·split at he<;>cases he;cases h;rfl
    ·split at he<;>cases he;cases h;rfl
    ·cases he
   unfold WL at h
   split at h
   ·cases h;rfl
   ·cases h;rfl
   ·split at h<;>cases h;rfl
   ·split at h<;>cases h;rfl
   ·split at h<;>cases h;rfl
   ·split at h<;>cases h;rfl
   ·split at h<;>cases h;rfl
   ·split at h<;>cases h;rfl
   ·cases h
 |load t x=>
  simp only[lA] at h
  split at h
  ·split at h
   ·split at h
    ·unfold ldV at h
     split at h
     ·split at h<;>cases h;rfl
     ·cases h;rfl
    ·cases h
   ·cases h
  ·split at h<;>cases h;rfl
  ·split at h
   ·split at h
    ·split at h
     ·split at h<;>cases h;rfl
     ·cases h
    ·cases h
   ·cases h
  ·unfold Yx at h
   split at h
   ·split at h
    ·rw[dn] at h
     obtain ⟨m,_,he⟩:=h
     obtain rfl:=dV he
     rfl
    ·cases h
   ·cases h
  ·cases h
 |store t x y=>
  simp only[lA] at h
  split at h
  ·split at h
   ·split at h<;>cases h;rfl
   ·cases h
  ·split at h
   ·split at h
    ·split at h
     ·split at h<;>cases h;rfl
     ·cases h
    ·cases h
   ·cases h
  ·cases h
 |field t x i=>
  simp only[lA] at h
  split at h
  ·split at h
   ·split at h<;>cases h;rfl
   ·cases h
  ·cases h
 |index t x i=>
  simp only[lA] at h
  split at h
  ·split at h
   ·split at h<;>cases h;rfl
   ·cases h
  ·cases h
 |indexAddr t x i=>
  simp only[lA] at h
  split at h
  ·split at h
   ·split at h
    ·split at h<;>cases h;rfl
    ·cases h
   ·split at h
    ·split at h
     ·split at h<;>cases h;rfl
     ·cases h
    ·split at h<;>cases h;rfl
    ·cases h
   ·cases h
  ·split at h
   ·split at h
    ·split at h<;>cases h;rfl
    ·split at h
     ·rw[dn] at h
      obtain ⟨ds,_,he⟩:=h
      obtain rfl:=dV he
      rfl
     ·cases h
    ·split at h<;>cases h;rfl
    ·cases h
   ·cases h
 |_=>simp [quiet] at hq
mutual
theorem Yj {ρ:Nat→Nat} {n:Nat} (hf: ∀l,l<n→ρ l=l): ∀x:AV,x.nb n→x.ren ρ=x
 | .acc l _,h=>by rw[AV.ren,hf l h]
 | .own l _ _ _ _,h=>by rw[AV.ren,hf l h]
 | .ptr l _,h=>by rw[AV.ren,hf l h]
 | .map l,h=>by rw[AV.ren,hf l h]
 | .agg cs,h=>by rw[AV.ren,DX hf cs h]
 | .tup cs,h=>by rw[AV.ren,DX hf cs h]
 | .pp cs,h=>by rw[AV.ren,DX hf cs h]
 | .l5 _ _ rows,h=>by rw[AV.ren,YQ hf rows h]
 | .func _ f c,h=>by rw[AV.ren,DX hf f h.1,DX hf c h.2]
 | .iface _ x,h=>by rw[AV.ren,Yj hf x h]
 | .any,_| .bool _,_| .int _ _,_| .str _,_| .raw _,_=>by rw[AV.ren]
theorem DX {ρ:Nat→Nat} {n:Nat} (hf: ∀l,l<n→ρ l=l): ∀xs:List AV,nbL n xs→renL ρ xs=xs
 |[],_=>rfl
 |x::xs,h=>by rw[renL,Yj hf x h.1,DX hf xs h.2]
theorem YQ {ρ:Nat→Nat} {n:Nat} (hf: ∀l,l<n→ρ l=l): ∀xs:List (List AV),Lu n xs→CU ρ xs=xs
 |[],_=>rfl
 |x::xs,h=>by rw[CU,DX hf x h.1,YQ hf xs h.2]
end
theorem obj_fix {ρ:Nat→Nat} {n:Nat} (hf: ∀l,l<n→ρ l=l) (x:AObj) (h:objNb n x):x.ren ρ=x:=by
 cases x with
 |cells cs=>simp only[AObj.ren,DX hf cs h]
 |acc pY sz rows=>simp only[AObj.ren,YQ hf rows h]
 |map es=>
  simp only[AObj.ren,AObj.map.injEq]
  have h: ∀p∈es,p.1.nb n∧p.2.nb n:=h
  induction es with
  |nil=>rfl
  |cons p es ih=>
   have hp:=h p (by simp)
   rw[dQ,ih (fun q hq=>h q (by simp [hq])) (fun q hq=>h q (by simp [hq])),Yj hf _ hp.1,Yj hf _ hp.2]
 |loop k slots st sk=>simp only[AObj.ren,DX hf slots h]
 |iter s p=>rfl
 |dead=>rfl
theorem YR {n m:Nat} (h:n≤m) (x:AObj) (hx:objNb n x):objNb m x:=by
 cases x with
 |cells cs=>exact sM h _ hx
 |acc pY sz rows=>exact nbR_le h _ hx
 |map es=>exact fun p hp=>⟨AV.Xm h _ (hx p hp).1,AV.Xm h _ (hx p hp).2⟩
 |loop k slots st sk=>exact sM h _ hx
 |iter s p=>trivial
 |dead=>trivial
def WJ (n l:Nat):Nat:=if l=n then n+1 else if l=n+1 then n else l
theorem tau_tau (n l:Nat):WJ n (WJ n l)=l:=by unfold WJ;split<;>(try split)<;>(try split)<;>(try split)<;>omega
theorem V8 {n l:Nat} (h:l<n):WJ n l=l:=by unfold WJ;split<;>(try split)<;>omega
theorem tau_lt {n l:Nat} (h:l<n+2):WJ n l<n+2:=by unfold WJ;split<;>(try split)<;>omega
theorem tau_get {α:Type} {H:List α} {x y z:α} {l:Nat} (h:(H++[x]++[y])[l]? =some z):(H++[y]++[x])[WJ H.length l]? =some z:=by
 have hl:l<H.length+2:=by have:=(cO.1 h).1;simpa using this
 rw[eI] at h ⊢
 by_cases h1:l<H.length
 ·rw[V8 h1,cQ h1]
  rwa [cQ h1] at h
 ·rw[dh (by omega)] at h
  by_cases h2:l=H.length
  ·subst h2
   simp only[e8,List.cons_append,dJ] at h
   simp only[WJ,if_true]
   rw[dh (by omega)]
   simpa using h
  ·have h3:l=H.length+1:=by omega
   subst h3
   simp only[show H.length+1-H.length=1 by omega,List.cons_append,List.nil_append,List.getElem?_cons_succ,dJ] at h
   simp only[WJ,if_true,Nat.add_eq_left,Nat.one_ne_zero,if_false]
   rw[dh (by omega)]
   simpa using h
theorem mA.swap {C:Ctx} {φ:Nat→Value} {a:Act} {w:World} {s:List AV} {H:List AObj} {x y:AObj} {low:Nat} {df:List (FuncId×List AV)} (hdf:dfNb H.length df) (EF:low≤H.length) (hH: ∀z∈H,objNb H.length z) (hx:objNb 0 x) (hy:objNb 0 y)
 (S:mA C φ ⟨s,H++[x]++[y],low,df⟩ a w):mA C (fun l=>φ (WJ H.length l)) ⟨renL (WJ H.length) s,H++[y]++[x],low,df⟩ a w:=by
 have Hp: ∀z∈H++[x]++[y],objNb H.length z:=by
  intro z hz
  simp only[cP,cR] at hz
  rcases hz with (hz|rfl)|rfl
  ·exact hH z hz
  ·exact YR (eC _) _ hx
  ·exact YR (eC _) _ hy
 have back: ∀ (l:Nat) (z:AObj),(H++[y]++[x])[l]? =some z→(H++[x]++[y])[WJ H.length l]? =some z:=fun l z h=>tau_get h
 have fwd: ∀ (l:Nat) (z:AObj),(H++[x]++[y])[l]? =some z→(H++[y]++[x])[WJ H.length l]? =some z:=fun l z h=>tau_get h
 have EE: ∀b o,ET (fun l=>φ (WJ H.length l)) (H++[y]++[x]) b o↔ET φ (H++[x]++[y]) b o:=by
  intro b o
  constructor
  ·rintro ⟨l,z,hz,hm⟩
   exact ⟨_,z,back l z hz,hm⟩
  ·rintro ⟨l,z,hz,hm⟩
   refine ⟨_,z,fwd l z hz,?_⟩
   simp only[tau_tau];exact hm
 have ren:V7 (H.length+2) (WJ H.length) (C.env φ (H++[x]++[y]) w) (C.env (fun l=>φ (WJ H.length l)) (H++[y]++[x]) w):=by
  refine ⟨fun l hl=> ?_,fun l hl=> ?_,fun b o u hm hc=>⟨?_,hc⟩⟩
  ·simp only[Ctx.env,eD,eR];exact tau_lt hl
  ·simp only[Ctx.env,tau_tau,true_and]
   have hl':l<(H++[x]++[y]).length:=by simpa using hl
   have h1:=cX hl'
   rw[h1,fwd l _ h1]
   exact .inl rfl
  ·simp only[Ctx.env] at hm ⊢
   rw[EE];exact hm
 have Ch:rB C (fun l=>φ (WJ H.length l)) (H++[y]++[x]) w df a.defers:=S.defers.step' (fun xs vs ⟨f,hf⟩ r=>by
  have:=k6.ren ren xs vs (sM (by omega) _ (hdf _ hf)) r
  rwa [DX (fun l hl=>V8 hl) xs (hdf _ hf)] at this) (fun _ _ _=>rfl) (fun l z b hz hb=> .inl ⟨_,z,back l z hz,hb⟩)
 refine {slots:= ?_,defers:=Ch,objs:= ?_,apart:= ?_,s6:= ?_,size:=S.size,old:=S.old,ni:=S.ni,C5:= ?_,vT:=S.vT,rest:=S.rest,low:=⟨S.low.1,by simp only[eD,eR];omega⟩,names:= ?_}
 ·refine k6.ren ren _ _ ?_ S.slots
  have:=k6.nb _ _ S.slots
  simpa [Ctx.env] using this
 ·intro l z hz
  have h1:=back l z hz
  have hm:=Hp z (List.mem_of_getElem? h1)
  have:=nk.ren ren (YR (by omega) _ hm) (fun _ _=>rfl) (S.objs _ z h1)
  rw[obj_fix (fun l hl=>V8 hl) z hm] at this
  exact this
 ·intro l l' z z' b hz hz' hb hb'
  have:=S.apart _ _ z z' b (back l z hz) (back l' z' hz') hb hb'
  have h2:=congrArg (WJ H.length) this
  simpa only[tau_tau] using h2
 ·intro l z b o hz hb
  exact S.s6 _ z b o (back l z hz) hb
 ·intro l z b o hz hm
  exact S.C5 _ z b o (back l z hz) hm
 ·intro l hl
  have hN:C.N0=low:=S.low.1
  have hlt:l<H.length:=by omega
  have:=S.names l hl
  have e1:(H++[y]++[x])[l]? =(H++[x]++[y])[l]? :=by
   rw[eI,eI,cQ hlt,cQ hlt]
  simp only[V8 hlt] at this ⊢
  rw[e1]
  exact this
theorem objNb_of_rep {E:Env} {x:AObj} {h:Value} (r:nk E x h) (hx: ∀pY sz rows,x= .acc pY sz rows→(∃base n cap,h= .slice base n cap∧cap≠0∧base≠none)∨rows=[]):objNb E.n x:=by
 cases x with
 |cells cs=>obtain ⟨_,_,_,_,_,rl,_⟩:=r;exact k6.nb _ _ rl
 |acc pY sz rows=>
  rcases hx pY sz rows rfl with ⟨base,n,cap,rfl,hc,hb⟩|rfl
  ·obtain ⟨base',cap',h1,h2,h3,h4,h5⟩:=r
   simp only[Value.slice.injEq] at h1
   obtain ⟨rfl,rfl,rfl⟩:=h1
   cases base with
   |none=>exact absurd rfl hb
   |some a0=>
    obtain ⟨_,c,t,_,_,rl,_⟩:=h5 a0 rfl hc
    have hn:=k6.nb _ _ rl
    have key: ∀rows:List (List AV),nbL E.n rows.flatten→Lu E.n rows:=by
     intro rows
     induction rows with
     |nil=>intro _;trivial
     |cons q rs ih=>
      intro this
      simp only[dM] at this
      have split: ∀ (p q:List AV),nbL E.n (p++q)→nbL E.n p∧nbL E.n q:=by
       intro p
       induction p with
       |nil=>intro q h;exact ⟨trivial,h⟩
       |cons z p ihp=>intro q h;exact ⟨⟨h.1,(ihp q h.2).1⟩,(ihp q h.2).2⟩
      exact ⟨(split _ _ this).1,ih (split _ _ this).2⟩
    exact key rows hn
  ·trivial
 |map es=>obtain ⟨_,_,_,_,_,rp⟩:=r;exact qP.nb rp
 |loop k slots st sk=>obtain ⟨_,_,_,_,_,_,rl⟩:=r;exact k6.nb _ _ rl
 |iter s p=>trivial
 |dead=>trivial
theorem O8 {E:Env} {x:AObj} {h:Value} (r:nk E x h):objNb E.n x:=by
 refine objNb_of_rep r ?_
 rintro pY sz rows rfl
 obtain ⟨base,cap,rfl,h2,h3,_⟩:=r
 cases base with
 |none=>
  right
  have:=h3 rfl
  exact cU (by omega)
 |some a0=>
  by_cases hc:cap=0
  ·right;exact cU (by omega)
  ·exact .inl ⟨_,_,_,rfl,hc,by simp⟩
theorem tzero_nb {P:Program} {t:TypeId} {z:List AV} (w:World) (h:oB P t=some z):nbL 0 z:=by
 obtain ⟨v,_,hr,_⟩:=Uu (w:=w) h
 exact k6.nb _ _ (hr {w,mu:=fun _ _=>False,φ:=fun _=> .tuple #[],ln:=fun _=>none,n:=0})
end Go.Abs
namespace Go.Abs
section
variable {P:Program} {ops:Array Oper}
theorem Rl {o:Oper} (h:Qg o=true): ∃t,o.op= .alloc t∧o.guard=none:=by
 unfold Qg at h
 simp only[cM,Option.isNone_iff_eq_none] at h
 obtain ⟨h1,h2⟩:=h
 cases ho:o.op with
 |alloc t=>exact ⟨t,rfl,h2⟩
 |_=>simp [ho] at h1
def sO (n:Nat) (z:List AV):u7:={val:= .ptr n 0,nw:=[.cells z]}
theorem Xv {o:Oper} {σ:AState} {t:TypeId} {z:List AV} (ho:o.op= .alloc t) (hg:o.guard=none) (hz:oB P t=some z):yc P ops o σ (fun e=>e=sO σ.heap.length z):=by
 refine .inr (.inl ⟨?_,?_,sO σ.heap.length z,?_,?_,fun _=>cV⟩)
 ·unfold oR;rw[hg]
 ·rw[ho];rfl
 ·rw[ho];simp only[lA,hz];rfl
 ·exact trivial
theorem Gb {o:Oper} {σ:AState} {t:TypeId} {S:u7→Prop} (ho:o.op= .alloc t) (hg:o.guard=none) (h:yc P ops o σ S): ∃z,oB P t=some z∧ ∀e,S e↔e=sO σ.heap.length z:=by
 rcases h with ⟨hw,_⟩|⟨_,_,e,he,_,h⟩|⟨_,f,args,V,hc,_⟩|⟨_,f,args,e,hc,_⟩
 ·unfold oR at hw;rw[hg] at hw;cases hw
 ·rw[ho] at he
  simp only[lA] at he
  split at he
  ·rename_i z hz
   cases he
   exact ⟨z,hz,h⟩
  ·cases he
 ·rw[ho] at hc;cases hc
 ·rw[ho] at hc;cases hc
theorem Gm {p q:Nat} (h:Rk ops p q=true):p<q∧(∃op oq tp tq,ops[p]? =some op∧ops[q]? =some oq∧op.op= .alloc tp∧oq.op= .alloc tq∧op.guard=none∧oq.guard=none∧yW op=[]∧yW oq=[])∧
 ∀k o,ops[k]? =some o→k≠p→k≠q→quiet o.op=true∧qd ops p k=qd ops q k:=by
 unfold Rk at h
 split at h
 ·rename_i op oq hp hq
  simp only[cM,decide_eq_true_eq,dy] at h
  obtain ⟨⟨⟨⟨⟨h1,h2⟩,h3⟩,h4⟩,h5⟩,h6⟩:=h
  obtain ⟨tp,a1,a2⟩:=Rl h1
  obtain ⟨tq,b1,b2⟩:=Rl h2
  refine ⟨h5,⟨op,oq,tp,tq,hp,hq,a1,b1,a2,b2,h3,h4⟩,fun k o hk n1 n2=> ?_⟩
  rw[cT] at h6
  have:=h6 k (by simpa using (cY.1 hk).1)
  simp only[hk,dr,beq_iff_eq,cM] at this
  rcases this with (h|h)|h
  ·exact absurd h n1
  ·exact absurd h n2
  ·exact h
 ·cases h
theorem JF {i j:Nat} (h1:qd ops i j=false) (h2:Rk ops i j=false):YJ ops i j=false:=by
 unfold YJ;rw[h1,h2];rfl
theorem CV {op:Op} {t:TypeId} (h:quiet op=true):op≠ .alloc t:=by
 rintro rfl;cases h
theorem Bl {op:Op} (h:quiet op=true):Cl op=false:=by
 cases op<;>first|rfl|(simp [quiet] at h)
end
section region
variable {C:Ctx} {ops:Array Oper} {Q:mX→AState→Prop}
theorem depsReady (o:Oper) (listed:Array Bool):(o.after.all fun e=> !Region.binds .any e||listed.getD e.on false)=true↔ ∀d∈yW o,listed.getD d false=true:=by
 rw[Array.all_eq_true_iff_forall_mem]
 constructor
 ·intro h d hd
  unfold yW at hd
  simp only[eL,dX] at hd
  obtain ⟨e,⟨he,hb⟩,rfl⟩:=hd
  have:=h e (by simpa using he)
  simpa [hb] using this
 ·intro h e he
  cases hb:Region.binds .any e with
  |false=>simp
  |true=>
   have:=h e.on (by unfold yW;simp only[eL,dX];exact ⟨e,⟨by simpa using he,hb⟩,rfl⟩)
   simpa using this
theorem Ml (listed:Array Bool) (i:Nat) (hsz:listed.size=ops.size):i∈Region.ready .any ops listed↔i<ops.size∧listed.getD i false=false∧ ∃o,ops[i]? =some o∧ ∀d∈yW o,listed.getD d false=true:=by
 unfold Region.ready
 simp only[dX,eS]
 constructor
 ·rintro ⟨h1,h2⟩
  rw[cM] at h2
  have ho:ops[i]? =some ops[i]:=dY h1
  refine ⟨h1,?_,ops[i],ho,?_⟩
  ·have h3:=h2.1
   have hlt:i<listed.size:=by omega
   simp only[eX,hlt,dif_pos] at h3 ⊢
   simpa using h3
  ·have h3:=h2.2
   rw[ho] at h3
   simp only[Option.map_some,eu] at h3
   exact (depsReady _ _).1 h3
 ·rintro ⟨h1,h2,o,ho,h3⟩
  refine ⟨h1,?_⟩
  rw[cM]
  constructor
  ·have hlt:i<listed.size:=by omega
   simp only[eX,hlt,dif_pos] at h2 ⊢
   simpa using h2
  ·rw[ho]
   simp only[Option.map_some,eu]
   exact (depsReady _ _).2 h3
theorem yy (hok:Gl ops=true) {listed:Array Bool} (hcl: ∀j o,ops[j]? =some o→listed.getD j false=true→ ∀d∈yW o,listed.getD d false=true) {i r:Nat} {oi:Oper} (N7:ops[i]? =some oi)
 (DV: ∀d∈yW oi,listed.getD d false=true) (hq:qd ops r i=true):listed.getD r false=true:=by
 obtain ⟨_,hspec⟩:=GC hok
 exact Xu (L:=fun d=>listed.getD d false=true) (all:=ops.toList) (fun j o hj hL=>hcl j o (by simpa using hj) hL) ops.toList [] (by simp) (by simp) (fun k o hk=>(hspec k o (by simpa using hk)).1) i oi (by simpa using N7) DV r hq
theorem NB {listed:Array Bool} {i:Nat} {oi:Oper} (N7:ops[i]? =some oi) (DV: ∀d∈yW oi,listed.getD d false=true) (hcl: ∀j o,ops[j]? =some o→listed.getD j false=true→ ∀d∈yW o,listed.getD d false=true):
 ∀j o,ops[j]? =some o→(listed.setIfInBounds i true).getD j false=true→ ∀d∈yW o,(listed.setIfInBounds i true).getD d false=true:=by
 intro j o' hj hL d hd
 by_cases e:j=i
 ·subst e
  rw[N7] at hj;cases hj
  exact getD_set_true (DV d hd)
 ·rw[getD_set_ne false (fun e'=>e e'.symm)] at hL
  exact getD_set_true (hcl j o' hj hL d hd)
theorem Ux {listed:Array Bool} {i:Nat} (h:i<listed.size):(listed.setIfInBounds i true).getD i false=true:=by
 simp [eX,h]
structure YS (ops:Array Oper) (R:List Nat) (listed:Array Bool):Prop where
 pw:R.Pairwise (· < ·)
 sz:listed.size=ops.size
 mem: ∀i,i∈R↔i<ops.size∧listed.getD i false=false
 cl: ∀j o,ops[j]? =some o→listed.getD j false=true→ ∀d∈yW o,listed.getD d false=true
theorem YS.next {R:List Nat} {listed:Array Bool} (F:YS ops R listed) {i:Nat} {oi:Oper} (N7:ops[i]? =some oi) (DV: ∀d∈yW oi,listed.getD d false=true):YS ops (R.erase i) (listed.setIfInBounds i true):=by
 refine ⟨F.pw.erase i,by simpa using F.sz,fun k=> ?_,NB N7 DV F.cl⟩
 have hnd:R.Nodup:=F.pw.imp (fun h=>eM h)
 have hi:i<listed.size:=by have:=(cY.1 N7).1;rw[F.sz];exact this
 rw[hnd.mem_erase_iff,F.mem k]
 constructor
 ·rintro ⟨hne,h1,h2⟩
  refine ⟨h1,?_⟩
  rw[getD_set_ne false (fun e=>hne e.symm)];exact h2
 ·rintro ⟨h1,h2⟩
  have hne:k≠i:=by
   intro e
   subst e
   rw[Ux hi] at h2;cases h2
  refine ⟨hne,h1,?_⟩
  rw[getD_set_ne false (fun e=>hne e.symm)] at h2;exact h2
theorem draw_pend {ro:Option Nat} (hok:Gl ops=true) {p q:Nat} (htw:Rk ops p q=true) (fuel:Nat)
 (back: ∀ (f:Nat) (R:List Nat) (listed:Array Bool) (φ:Nat→Value) (σ:AState) (a:Act) (w:World),f≤fuel→R.length=f→YS ops R listed→(p ∉ R)→mA C φ σ a w→V3 C.P ops (Q .normal) R [] σ→wpAnyIn (Hq ro) 0 C.P .any ops (QC C Q) f listed a w)
 {oq:Oper} {tq:TypeId} {zq:List AV} (hoq:ops[q]? =some oq) (htq:oq.op= .alloc tq) (hgq:oq.guard=none) (hzq:oB C.P tq=some zq):
 ∀ (f:Nat) (R:List Nat) (listed:Array Bool) (φ φ0:Nat→Value) (σ:AState) (a a0:Act) (w w0:World),f≤fuel→R.length=f+1→R.Pairwise (· < ·)→listed.size=ops.size→p∈R→q∈R→listed.getD q false=true→
 (∀i,i∈R↔i<ops.size∧(listed.getD i false=false∨i=q))→(∀j o,ops[j]? =some o→listed.getD j false=true→ ∀d∈yW o,listed.getD d false=true)→
 mA C φ (σ.app oq.dst (sO σ.heap.length zq)) a w→mA C φ0 σ a0 w0→V3 C.P ops (Q .normal) R [] σ→wpAnyIn (Hq ro) 0 C.P .any ops (QC C Q) f listed a w:=by
 obtain ⟨hpq,⟨op,oq',tp,tq',hop,hoq',htp,htq',hgp,hgq',hdp,hdq⟩,hoth⟩:=Gm htw
 rw[hoq] at hoq';cases hoq'
 obtain ⟨_,hspec⟩:=GC hok
 intro f
 induction f with
 |zero=>
  intro R listed φ φ0 σ a a0 w w0 hf hlen WI hsz hpR hqR hlq hR hcl S S0 h
  exfalso
  match R,hlen with
  |[x],_=>
   simp only[cR] at hpR hqR
   omega
 |succ f ih=>
  intro R listed φ φ0 σ a a0 w w0 hf hlen WI hsz hpR hqR hlq hR hcl S S0 h
  have hnd:R.Nodup:=WI.imp (fun h=>eM h)
  have hpl:listed.getD p false=false:=by
   rcases ((hR p).1 hpR).2 with h|h
   ·exact h
   ·omega
  have hps:p<ops.size:=((hR p).1 hpR).1
  refine ⟨?_,?_⟩
  ·intro YT
   exfalso
   have:p∈Region.ready .any ops listed:=(Ml listed p hsz).2 ⟨hps,hpl,op,hop,by rw[hdp];intro d hd;cases hd⟩
   rw[YT] at this;cases this
  ·intro i hi
   rw[Ml listed i hsz] at hi
   obtain ⟨hi1,hi2,oi,N7,DV⟩:=hi
   have hiq:i≠q:=by rintro rfl;rw[hlq] at hi2;cases hi2
   have hiR:i∈R:=(hR i).2 ⟨hi1,.inl hi2⟩
   have hnoO: ∀r∈R,qd ops r i=false:=by
    intro r hr
    cases hq':qd ops r i with
    |false=>rfl
    |true=>
     exfalso
     have hl:=yy hok hcl N7 DV hq'
     rcases ((hR r).1 hr).2 with h|h
     ·rw[hl] at h;cases h
     ·subst h
      by_cases e:i=p
      ·subst e
       rw[hop] at N7;cases N7
       have:=yy hok (listed:=dA ops.size false) (by intro j o _ hj;rw[getD_replicate_false'] at hj;cases hj) hop (by rw[hdp];intro d hd;cases hd) hq'
       rw[getD_replicate_false'] at this;cases this
      ·have:=(hoth i oi N7 e hiq).2
       rw[hq'] at this
       have hl:=yy hok hcl N7 DV this
       rw[hpl] at hl;cases hl
   by_cases eip:i=p
   ·
    subst eip
    rw[hop] at N7;cases N7
    have hno: ∀r∈R,r<i→YJ ops r i=false:=by
     intro r hr hlt
     refine JF (hnoO r hr) ?_
     cases ht:Rk ops r i with
     |false=>rfl
     |true=>
      exfalso
      obtain ⟨_,⟨o1,_,t1,_,ho1,_,ht1,_⟩,_⟩:=Gm ht
      exact CV (hoth r o1 ho1 (by omega) (by omega)).1 ht1
    obtain ⟨o1,E1,ho1,hst1,hE1⟩:=pull hok h hiR WI hno
    rw[hop] at ho1;cases ho1
    obtain ⟨zp,hzp,hd1⟩:=Gb htp hgp hst1
    obtain ⟨_,h1⟩:=hE1 _ ((hd1 _).2 rfl)
    have hqR':q∈R.erase i:=(hnd.mem_erase_iff).2 ⟨by omega,hqR⟩
    obtain ⟨o2,E2,ho2,hst2,hE2⟩:=pull hok h1 hqR' (WI.erase i) (by
     intro r hr hlt
     have hr':=ew hr
     have hri:r≠i:=fun e=>by subst e;exact (hnd.not_mem_erase) hr
     refine JF ?_ ?_
     ·cases ho':qd ops r q with
      |false=>rfl
      |true=>
       exfalso
       have:=yy hok (listed:=dA ops.size false) (by intro j o _ hj;rw[getD_replicate_false'] at hj;cases hj) hoq (by rw[hdq];intro d hd;cases hd) ho'
       rw[getD_replicate_false'] at this;cases this
     ·cases ht:Rk ops r q with
      |false=>rfl
      |true=>
       exfalso
       obtain ⟨_,⟨o1,_,t1,_,ho1,_,ht1,_⟩,_⟩:=Gm ht
       exact CV (hoth r o1 ho1 hri (by omega)).1 ht1)
    rw[hoq] at ho2;cases ho2
    obtain ⟨zq',hzq',hd2⟩:=Gb htq hgq hst2
    rw[hzq] at hzq';cases hzq'
    obtain ⟨_,h2⟩:=hE2 _ ((hd2 _).2 rfl)
    refine Mj S hop (Xv htp hgp hzp) ?_
    rintro e φ' v w' rfl S'
    have hoQ:qd ops i q=false:=by
     cases ho':qd ops i q with
     |false=>rfl
     |true=>
      exfalso
      have:=yy hok (listed:=dA ops.size false) (by intro j o _ hj;rw[getD_replicate_false'] at hj;cases hj) hoq (by rw[hdq];intro d hd;cases hd) ho'
      rw[getD_replicate_false'] at this;cases this
    obtain ⟨YN,_⟩:=(hspec q oq hoq).2 i op hpq hop hoQ
    obtain ⟨_,ap2,_⟩:=dW YN
    have UD:nbL σ.heap.length σ.slots:=k6.nb _ _ S0.slots
    have hob: ∀z∈σ.heap,objNb σ.heap.length z:=by
     intro z hz
     obtain ⟨l,hl⟩:=List.getElem?_of_mem hz
     exact O8 (S0.objs l z hl)
    have S2:=mA.swap (s:=((σ.app oq.dst (sO σ.heap.length zq)).app op.dst (sO (σ.app oq.dst (sO σ.heap.length zq)).heap.length zp)).slots) (H:=σ.heap) (x:= .cells zq) (y:= .cells zp) (low:=σ.low) (df:=σ.df) (J6.nb S0.defers.2.2) S0.low.2 hob (tzero_nb w0 hzq) (tzero_nb w0 hzp) (by
     have e:(σ.app oq.dst (sO σ.heap.length zq)).app op.dst (sO (σ.app oq.dst (sO σ.heap.length zq)).heap.length zp)=⟨((σ.app oq.dst (sO σ.heap.length zq)).app op.dst (sO (σ.app oq.dst (sO σ.heap.length zq)).heap.length zp)).slots,σ.heap++[.cells zq]++[.cells zp],σ.low,σ.df⟩:=by
      cases oq.dst<;>cases op.dst<;>simp [AState.app,AState.put,sO,l7]
     rw[←e];exact S')
    have e2:(⟨renL (WJ σ.heap.length) ((σ.app oq.dst (sO σ.heap.length zq)).app op.dst (sO (σ.app oq.dst (sO σ.heap.length zq)).heap.length zp)).slots,σ.heap++[.cells zp]++[.cells zq],σ.low,σ.df⟩:AState)
     =(σ.app op.dst (sO σ.heap.length zp)).app oq.dst (sO (σ.app op.dst (sO σ.heap.length zp)).heap.length zq):=by
     have hren:=DX (ρ:=WJ σ.heap.length) (fun l hl=>V8 hl) σ.slots UD
     have Vy: ∀ (d:Nat) (c:AV) (cs:List AV),renL (WJ σ.heap.length) (cs.set d c)=(renL (WJ σ.heap.length) cs).set d (c.ren (WJ σ.heap.length)):=by
      intro d c cs
      induction cs generalizing d with
      |nil=>simp [renL]
      |cons x cs ih=>cases d with
       |zero=>simp [renL]
       |succ d=>simp [renL,ih]
     have hlen1:(σ.app oq.dst (sO σ.heap.length zq)).heap.length=σ.heap.length+1:=by simp [AState.app,sO,l7]
     have hlen2:(σ.app op.dst (sO σ.heap.length zp)).heap.length=σ.heap.length+1:=by simp [AState.app,sO,l7]
     have t0:WJ σ.heap.length σ.heap.length=σ.heap.length+1:=by simp [WJ]
     have t1:WJ σ.heap.length (σ.heap.length+1)=σ.heap.length:=by simp [WJ]
     rw[hlen1,hlen2]
     cases h1:oq.dst with
     |none=>cases h2:op.dst with
      |none=>simp [AState.app,AState.put,sO,l7,hren]
      |some dp=>simp [AState.app,AState.put,sO,l7,hren,Vy,AV.ren,t0,t1]
     |some dq=>cases h2:op.dst with
      |none=>simp [AState.app,AState.put,sO,l7,hren,Vy,AV.ren,t0,t1]
      |some dp=>
       have hne:dp≠dq:=fun e=>ap2 dp h2 (by rw[h1,e])
       simp only[AState.app,AState.put,sO,l7,hren,Vy,AV.ren,t0,t1,List.nil_append,List.append_nil]
       rw[ep _ _ hne]
    rw[e2] at S2
    have hF:YS ops ((R.erase i).erase q) (listed.setIfInBounds i true):=by
     refine ⟨(WI.erase i).erase q,by simpa using hsz,fun k=> ?_,NB hop DV hcl⟩
     have hnd':(R.erase i).Nodup:=hnd.erase i
     rw[hnd'.mem_erase_iff,hnd.mem_erase_iff,hR k]
     constructor
     ·rintro ⟨hne,hne2,h1,h2⟩
      refine ⟨h1,?_⟩
      rw[getD_set_ne false (fun e=>hne2 e.symm)]
      rcases h2 with h2|h2
      ·exact h2
      ·exact absurd h2 hne
     ·rintro ⟨h1,h2⟩
      have hne:k≠i:=by
       intro e
       subst e
       rw[Ux (by rw[hsz];exact hi1)] at h2;cases h2
      rw[getD_set_ne false (fun e=>hne e.symm)] at h2
      refine ⟨?_,hne,h1,.inl h2⟩
      intro ekq
      rw[ekq,hlq] at h2;cases h2
    refine back f _ _ _ _ _ w' (by omega) ?_ hF ?_ S2 (YK (by simp) h2)
    ·rw[dw hqR',dw hiR];omega
    ·intro hm
     exact (hnd.not_mem_erase) (ew hm)
   ·
    obtain ⟨hqi,_⟩:=hoth i oi N7 eip hiq
    have hno: ∀r∈R,r<i→YJ ops r i=false:=by
     intro r hr hlt
     refine JF (hnoO r hr) ?_
     cases ht:Rk ops r i with
     |false=>rfl
     |true=>
      exfalso
      obtain ⟨_,⟨_,o1,_,t1,_,ho1,_,ht1,_⟩,_⟩:=Gm ht
      rw[N7] at ho1;cases ho1
      exact CV hqi ht1
    obtain ⟨o1,E1,ho1,hst1,hE1⟩:=pull hok h hiR WI hno
    rw[N7] at ho1;cases ho1
    have hnw: ∀e,E1 e→e.nw=[]:=by
     intro e he
     rcases hst1 with ⟨_,h⟩|⟨_,_,e',he',_,h⟩|⟨_,f',args,V,hc,_,_,_⟩|⟨_,f',args,_,hc,_,_⟩
     ·rw[(h e).1 he]
     ·rw[(h e).1 he];exact quiet_nw hqi he'
     ·exfalso
      have:=Bl hqi
      unfold mN at hc
      split at hc
      ·rename_i ho';rw[ho'] at this;simp [Cl] at this
      ·cases hc
     ·exfalso
      have:=Bl hqi
      unfold mN at hc
      split at hc
      ·rename_i ho';rw[ho'] at this;simp [Cl] at this
      ·cases hc
    have hwh: ∀e,E1 e→e.whole=false:=by
     intro e he
     rcases hst1 with ⟨_,h⟩|⟨_,_,e',he',_,h⟩|⟨_,f',args,V,hc,_,_,_⟩|⟨_,f',args,_,hc,_,_⟩
     ·rw[(h e).1 he]
     ·rw[(h e).1 he];exact quiet_wh hqi he'
     ·exfalso
      have:=Bl hqi
      unfold mN at hc
      split at hc
      ·rename_i ho';rw[ho'] at this;simp [Cl] at this
      ·cases hc
     ·exfalso
      have:=Bl hqi
      unfold mN at hc
      split at hc
      ·rename_i ho';rw[ho'] at this;simp [Cl] at this
      ·cases hc
    have hap:(∀d,oq.dst=some d→d ∉ oi.looksAt ops)∧(∀d,oi.dst=some d→oq.dst≠some d):=by
     rcases Nat.lt_or_gt_of_ne hiq with hlt|hgt
     ·have ho':qd ops i q=false:=by
       cases ho':qd ops i q with
       |false=>rfl
       |true=>
        exfalso
        have:=yy hok (listed:=dA ops.size false) (by intro j o _ hj;rw[getD_replicate_false'] at hj;cases hj) hoq (by rw[hdq];intro d hd;cases hd) ho'
        rw[getD_replicate_false'] at this;cases this
      obtain ⟨hap,_⟩:=(hspec q oq hoq).2 i oi hlt N7 ho'
      obtain ⟨x1,x2,x3⟩:=dW hap
      exact ⟨x3,x2⟩
     ·obtain ⟨hap,_⟩:=(hspec i oi N7).2 q oq hgt hoq (hnoO q hqR)
      obtain ⟨x1,x2,x3⟩:=dW hap
      exact ⟨x1,fun d hd hd'=>x2 d hd' hd⟩
    have hind: ∀e,E1 e→Bj ⟨i,σ.heap.length,e⟩ (sO σ.heap.length zq)=true:=by
     intro e he
     simp [Bj,sO,GB,hnw e he,hwh e he]
    have hfw:yc C.P ops oi (σ.app oq.dst (sO σ.heap.length zq)) E1:=hst1.fwd (j:=i) hap.1 hind
    refine Mj S N7 hfw ?_
    intro e φ' v w' he S'
    obtain ⟨_,wR⟩:=hE1 e he
    have hcomm:=app_comm (d:=oi.dst) (d':=oq.dst) (j:=i) hap.2 (hind e he) (hst1.lt he).2 (by simp [sO])
    have hle:(σ.app oi.dst e).heap.length=σ.heap.length:=by simp [AState.app,hnw e he,qq]
    rw[←hcomm] at S'
    have hg: ∃φ1 a1 w1,mA C φ1 (σ.app oi.dst e) a1 w1:=by
     rcases hst1 with ⟨_,h⟩|⟨_,_,e',he',hp,h⟩|⟨_,f',args,V,hc,_,_,_⟩|⟨_,f',args,_,hc,_,_⟩
     ·rw[(h e).1 he,F8]
      exact ⟨φ0,_,w0,S0.put oi.dst (v:=undef) rfl⟩
     ·rw[(h e).1 he]
      obtain ⟨_,v1,w1,φ1,_,_,S1⟩:=Nx S0 he' hp
      exact ⟨φ1,_,w1,S1⟩
     ·exfalso
      have:=Bl hqi
      unfold mN at hc
      split at hc
      ·rename_i ho';rw[ho'] at this;simp [Cl] at this
      ·cases hc
     ·exfalso
      have:=Bl hqi
      unfold mN at hc
      split at hc
      ·rename_i ho';rw[ho'] at this;simp [Cl] at this
      ·cases hc
    obtain ⟨φ1,a1,w1,S1⟩:=hg
    rw[←hle] at S'
    refine ih (R.erase i) _ φ' φ1 (σ.app oi.dst e) _ a1 w' w1 (by omega) ?_ (WI.erase i) (by simpa using hsz) ((hnd.mem_erase_iff).2 ⟨fun e'=>eip e'.symm,hpR⟩) ((hnd.mem_erase_iff).2 ⟨fun e'=>hiq e'.symm,hqR⟩) ?_ ?_ (NB N7 DV hcl) S' S1 wR
    ·rw[dw hiR];omega
    ·exact getD_set_true hlq
    ·intro k
     rw[hnd.mem_erase_iff,hR k]
     constructor
     ·rintro ⟨hne,h1,h2⟩
      refine ⟨h1,?_⟩
      rw[getD_set_ne false (fun e=>hne e.symm)];exact h2
     ·rintro ⟨h1,h2⟩
      have hne:k≠i:=by
       intro e'
       subst e'
       rcases h2 with h2|h2
       ·rw[Ux (by rw[hsz];exact hi1)] at h2;cases h2
       ·exact hiq h2
      refine ⟨hne,h1,?_⟩
      rw[getD_set_ne false (fun e=>hne e.symm)] at h2;exact h2
theorem draw_any {ro:Option Nat} (hok:Gl ops=true): ∀ (fuel:Nat) (R:List Nat) (listed:Array Bool) (φ:Nat→Value) (σ:AState) (a:Act) (w:World),R.length=fuel→YS ops R listed→
 mA C φ σ a w→V3 C.P ops (Q .normal) R [] σ→wpAnyIn (Hq ro) 0 C.P .any ops (QC C Q) fuel listed a w:=by
 obtain ⟨_,hspec⟩:=GC hok
 intro fuel
 induction fuel using Nat.strongRecOn with
 |ind fuel ih=>
  intro R listed φ σ a w hl F S h
  have WI:=F.pw
  have hsz:=F.sz
  have hR:=F.mem
  have hnd:R.Nodup:=WI.imp (fun h=>eM h)
  cases fuel with
  |zero=>
   have hR0:R=[]:=cU hl
   subst hR0
   refine ⟨?_,φ,σ,S,h⟩
   rw[List.eq_nil_iff_forall_not_mem]
   intro i hi
   rw[Ml listed i hsz] at hi
   have:=(hR i).2 ⟨hi.1,hi.2.1⟩
   simp at this
  |succ fuel=>
   refine ⟨?_,?_⟩
   ·intro YT
    exfalso
    cases R with
    |nil=>simp at hl
    |cons r R=>
     have hr:=(hR r).1 (by simp)
     have ho:ops[r]? =some ops[r]:=dY hr.1
     have:r∈Region.ready .any ops listed:=by
      rw[Ml listed r hsz]
      refine ⟨hr.1,hr.2,_,ho,fun d hd=> ?_⟩
      have hdr:=(hspec r _ ho).1 d hd
      cases hld:listed.getD d false with
      |true=>rfl
      |false=>
       have hdR:=(hR d).2 ⟨by omega,hld⟩
       rw[dZ] at WI
       simp only[cW] at hdR
       rcases hdR with rfl|hdR
       ·omega
       ·have:=WI.1 d hdR;omega
     rw[YT] at this
     simp at this
   ·intro i hi
    rw[Ml listed i hsz] at hi
    obtain ⟨hi1,hi2,oi,N7,DV⟩:=hi
    have hiR:=(hR i).2 ⟨hi1,hi2⟩
    have hnoO: ∀r∈R,qd ops r i=false:=by
     intro r hr
     cases hq:qd ops r i with
     |false=>rfl
     |true=>
      exfalso
      have:=yy hok F.cl N7 DV hq
      have hr':=((hR r).1 hr).2
      rw[hr'] at this;cases this
    by_cases htw: ∃p∈R,Rk ops p i=true
    ·obtain ⟨p,hpR,htw⟩:=htw
     obtain ⟨hpi,⟨op,oq,tp,tq,hop,hoq,htp,htq,hgp,hgq,hdp,hdq⟩,hoth⟩:=Gm htw
     rw[N7] at hoq;cases hoq
     have hpl:=((hR p).1 hpR).2
     obtain ⟨o1,E1,ho1,hst1,hE1⟩:=pull hok h hpR WI (by
      intro r hr hlt
      refine JF ?_ ?_
      ·cases ho':qd ops r p with
       |false=>rfl
       |true=>
        exfalso
        have:=yy hok (listed:=dA ops.size false) (by intro j o _ hj;rw[getD_replicate_false'] at hj;cases hj) hop (by rw[hdp];intro d hd;cases hd) ho'
        rw[getD_replicate_false'] at this;cases this
      ·cases ht:Rk ops r p with
       |false=>rfl
       |true=>
        exfalso
        obtain ⟨_,⟨o1,_,t1,_,ho1,_,ht1,_⟩,_⟩:=Gm ht
        exact CV (hoth r o1 ho1 (by omega) (by omega)).1 ht1)
     rw[hop] at ho1;cases ho1
     obtain ⟨zp,hzp,hd1⟩:=Gb htp hgp hst1
     obtain ⟨_,h1⟩:=hE1 _ ((hd1 _).2 rfl)
     have hqR':i∈R.erase p:=(hnd.mem_erase_iff).2 ⟨by omega,hiR⟩
     obtain ⟨o2,E2,ho2,hst2,hE2⟩:=pull hok h1 hqR' (WI.erase p) (by
      intro r hr hlt
      have hr':=ew hr
      have hrp:r≠p:=fun e=>by subst e;exact (hnd.not_mem_erase) hr
      refine JF (hnoO r hr') ?_
      cases ht:Rk ops r i with
      |false=>rfl
      |true=>
       exfalso
       obtain ⟨_,⟨o1,_,t1,_,ho1,_,ht1,_⟩,_⟩:=Gm ht
       exact CV (hoth r o1 ho1 hrp (by omega)).1 ht1)
     rw[N7] at ho2;cases ho2
     obtain ⟨zq,hzq,_⟩:=Gb htq hgq hst2
     refine Mj S N7 (Xv htq hgq hzq) ?_
     rintro e φ' v w' rfl S'
     refine draw_pend hok htw fuel (fun f R' listed' φ' σ' a' w' hf hl' F' _ S' h'=>ih f (by omega) R' listed' φ' σ' a' w' hl' F' S' h') N7 htq hgq hzq fuel R _ φ' φ σ _ a w' w (dc _) hl WI (by simpa using hsz) hpR hiR (Ux (by rw[hsz];exact hi1)) ?_ (NB N7 DV F.cl) S' S h
     intro k
     rw[hR k]
     by_cases hk:k=i
     ·subst hk
      constructor
      ·rintro ⟨h1,_⟩;exact ⟨h1,.inr rfl⟩
      ·rintro ⟨h1,_⟩;exact ⟨h1,hi2⟩
     ·rw[getD_set_ne false (fun e=>hk e.symm)]
      constructor
      ·rintro ⟨h1,h2⟩;exact ⟨h1,.inl h2⟩
      ·rintro ⟨h1,h2|h2⟩
       ·exact ⟨h1,h2⟩
       ·exact absurd h2 hk
    ·have hno: ∀r∈R,r<i→YJ ops r i=false:=by
      intro r hr _
      refine JF (hnoO r hr) ?_
      cases ht:Rk ops r i with
      |false=>rfl
      |true=>exact absurd ⟨r,hr,ht⟩ htw
     obtain ⟨o,E,ho,hst,hE⟩:=pull hok h hiR WI hno
     refine Mj S ho hst ?_
     intro e φ' v w' he S'
     obtain ⟨_,wR⟩:=hE e he
     refine ih fuel (by omega) (R.erase i) _ φ' _ _ w' ?_ (F.next N7 DV) S' wR
     rw[dw hiR];omega
theorem awpD_sound {ro:Option Nat} {φ:Nat→Value} {σ:AState} {a:Act} {w:World} {id:Nat} (hm:C.P.follows .mixedOrders=true) (hok:Gl ops=true) (h:V3 C.P ops (Q .normal) (eg ops.size) [] σ) (S:mA C φ σ a w):
 (Code.region id ops true).wpIn (Hq ro) 0 C.P (QC C Q) a w:=by
 refine wpIn_region_any hm ?_
 refine draw_any hok ops.size (eg ops.size) _ φ σ a _ (by simp) ⟨eP,by simp,?_,?_⟩ (S.drew _) h
 ·intro i
  simp only[eS]
  constructor
  ·intro hi;exact ⟨hi,getD_replicate_false' _ _⟩
  ·exact fun h=>h.1
 ·intro j o hj hL
  rw[getD_replicate_false'] at hL;cases hL
end region
end Go.Abs
namespace Go.Abs
section
variable {P:Program} {ops:Array Oper} {c:Nat} {H H':List AObj} {x:AV}
def PanC (P:Program) (f:FuncId) (args:List AV) (H:List AObj) (x:AV) (H':List AObj):Prop:= ∀σ':AState,σ'.heap=H→yO P f args σ' (fun o H2=>o= .panic x∧H2=H')
def StepI (P:Program) (ops:Array Oper) (c:Nat) (H:List AObj) (x:AV) (H':List AObj) (j:Nat) (o:Oper) (σ:AState) (v:AV):Prop:=
 σ.heap=H∧((j=c∧oR ops o σ=some true∧ ∃f args,mN σ o.op=some (f,args)∧PanC P f args H x H')∨
   qd ops c j=true∨
   (j≠c∧ ∃e:u7,e.up=[]∧e.nw=[]∧e.val=v∧yc P ops o σ (fun e'=>e'=e)))
def awpI (P:Program) (ops:Array Oper) (c:Nat) (H:List AObj) (x:AV) (H':List AObj):List Nat→AState→Prop
 |[],_=>True
 |j::rest,σ=> ∃o v,ops[j]? =some o∧StepI P ops c H x H' j o σ v∧awpI P ops c H x H' rest (σ.put o.dst v)
theorem Mm (σ:AState) (d:Option Tmp) (v:AV):(σ.put d v).heap=σ.heap:=by cases d<;>rfl
theorem put_ev {σ:AState} {d:Option Tmp} {v:AV} {y:Operand} (h: ∀t,d=some t→y≠ .tmp t):(σ.put d v).ev y=σ.ev y:=by
 have:=app_ev (σ:=σ) (dst:=d) (e:={val:=v}) h
 rwa [F8] at this
theorem put_slots {σ:AState} {d:Option Tmp} {v:AV} {t:Nat} (h: ∀t',d=some t'→t≠t'):(σ.put d v).slots[t]? =σ.slots[t]? :=by
 have:=WQ (σ:=σ) (dst:=d) (e:={val:=v}) h
 rwa [F8] at this
theorem put_comm {σ:AState} {d d':Option Tmp} {v v':AV} (h: ∀t,d=some t→d'≠some t):(σ.put d v).put d' v'=(σ.put d' v').put d v:=by
 cases d with
 |none=>cases d'<;>rfl
 |some t=>cases d' with
  |none=>rfl
  |some t'=>
   have hne:t≠t':=fun e=>h t rfl (by rw[e])
   simp only[AState.put]
   rw[ep _ _ hne]
theorem StepI.move {j:Nat} {o:Oper} {σ σ':AState} {v:AV} (h:StepI P ops c H x H' j o σ v) (hh:σ'.heap=σ.heap) (Ho: ∀y∈o.op.operands,σ'.ev y=σ.ev y) (hw:oR ops o σ'=oR ops o σ):StepI P ops c H x H' j o σ' v:=by
 obtain ⟨h0,h⟩:=h
 refine ⟨hh.trans h0,?_⟩
 rcases h with ⟨h1,h2,f,args,h3,h4⟩|h1|⟨h1,e,h2,h3,h4,h5⟩
 ·exact .inl ⟨h1,by rw[hw];exact h2,f,args,by rw[Hr Ho];exact h3,h4⟩
 ·exact .inr (.inl h1)
 ·exact .inr (.inr ⟨h1,e,h2,h3,h4,h5.local Ho hw (fun _ _=>⟨⟨fun _ _=>by rw[hh],fun _=>by rw[hh]⟩,fun _=>hh⟩)⟩)
theorem pullI (hok:Gl ops=true) {i:Nat}: ∀ {R:List Nat} {σ:AState},awpI P ops c H x H' R σ→i∈R→R.Pairwise (· < ·)→(∀r∈R,r<i→qd ops r i=false)→
 ∃o v,ops[i]? =some o∧StepI P ops c H x H' i o σ v∧awpI P ops c H x H' (R.erase i) (σ.put o.dst v)
 |[],_,_,hi,_,_=>by simp at hi
 |r::R,σ,⟨or',vr,hor,hst,h⟩,hi,WI,YL=>by
  by_cases e:r=i
  ·subst e
   refine ⟨or',vr,hor,hst,?_⟩
   rw[eV];exact h
  ·have hiR:i∈R:=by
    simp only[cW] at hi
    rcases hi with h|h
    ·exact absurd h.symm e
    ·exact h
   rw[dZ] at WI
   have hri:r<i:=WI.1 i hiR
   obtain ⟨oi,v,N7,hsti,hr⟩:=pullI hok h hiR WI.2 (fun q hq hlt=>YL q (by simp [hq]) hlt)
   obtain ⟨_,hspec⟩:=GC hok
   obtain ⟨YN,_⟩:=(hspec i oi N7).2 r or' hri hor (YL r (by simp) hri)
   obtain ⟨a1,a2,a3⟩:=dW YN
   refine ⟨oi,v,N7,hsti.move (Mm _ _ _).symm (fun y hy=> ?_) (JV fun k b d hg hd=> ?_),?_⟩
   ·rw[put_ev];intro d hd;exact JW (a1 d hd) y hy
   ·rw[put_slots];intro d' hd';exact NA (a1 d' hd') hg hd
   ·have hne:(r::R).erase i=r::R.erase i:=eW (by simpa using e)
    rw[hne]
    refine ⟨or',vr,hor,hst.move (Mm _ _ _) (fun y hy=> ?_) (JV fun k b d hg hd=> ?_),?_⟩
    ·rw[put_ev];intro d hd;exact JW (a3 d hd) y hy
    ·rw[put_slots];intro d' hd';exact NA (a3 d' hd') hg hd
    ·rw[put_comm (fun t ht=>fun h=>a2 t (by simpa using h) ht)];exact hr
def YU:List Oper→List AV→List AV
 |[],s=>s
 |o::os,s=>YU os (match o.dst with|some d=>s.set d .any|none=>s)
def Vz (ops:Array Oper) (s:List AV):List AV:=YU ops.toList s
theorem WT: ∀ (L:List Oper) (s:List AV) (d:Nat) (v:AV),(∃o∈L,o.dst=some d)→YU L (s.set d v)=YU L s
 |[],_,_,_,⟨_,h,_⟩=>by simp at h
 |o::L,s,d,v,h=>by
  simp only[YU]
  cases hd:o.dst with
  |none=>
   simp only
   refine WT L s d v ?_
   obtain ⟨o',ho',hd'⟩:=h
   rcases cW.1 ho' with rfl|ho'
   ·rw[hd] at hd';cases hd'
   ·exact ⟨o',ho',hd'⟩
  |some t=>
   simp only
   by_cases e:t=d
   ·subst e;rw[List.set_set]
   ·rw[ep _ _ (fun h=>e h.symm)]
    refine WT L _ d v ?_
    obtain ⟨o',ho',hd'⟩:=h
    rcases cW.1 ho' with rfl|ho'
    ·rw[hd] at hd';cases hd';exact absurd rfl e
    ·exact ⟨o',ho',hd'⟩
theorem wipe_put {σ:AState} {o:Oper} {i:Nat} (ho:ops[i]? =some o) (v:AV):Vz ops (σ.put o.dst v).slots=Vz ops σ.slots:=by
 cases hd:o.dst with
 |none=>rfl
 |some d=>
  refine WT _ _ d v ⟨o,?_,hd⟩
  have:=cY.1 ho
  obtain ⟨h1,h2⟩:=this
  rw[←h2];simp
theorem k6.setAny {E:Env}: ∀ {cs:List AV} {vs:List Value} (d:Nat),k6 E cs vs→k6 E (cs.set d .any) vs
 |[],_,_,h=>h
 |_::_,_,0,⟨v,us,rfl,_,r⟩=>⟨v,us,rfl,trivial,r⟩
 |_::_,_,d+1,⟨v,us,rfl,h1,r⟩=>⟨v,us,rfl,h1,k6.setAny d r⟩
theorem WU {E:Env}: ∀ (L:List Oper) {cs:List AV} {vs:List Value},k6 E cs vs→k6 E (YU L cs) vs
 |[],_,_,h=>h
 |o::L,cs,vs,h=>by
  simp only[YU]
  cases o.dst with
  |none=>exact WU L h
  |some d=>exact WU L (k6.setAny d h)
end
section region
variable {C:Ctx} {ops:Array Oper} {Q:mX→AState→Prop}
theorem mA.Vz {φ:Nat→Value} {σ:AState} {a:Act} {w:World} (S:mA C φ σ a w) (ops:Array Oper):mA C φ {σ with slots:=Vz ops σ.slots} a w:={S with slots:=WU _ S.slots,defers:=S.defers}
theorem draw_pan {ro:Option Nat} (hok:Gl ops=true) {c:Nat} {H H':List AObj} {x:AV} {s0:List AV} {low:Nat} {df:List (FuncId×List AV)} (hQ:Q (.panic x) {slots:=Vz ops s0,heap:=H',low,df}):
 ∀ (fuel:Nat) (R:List Nat) (listed:Array Bool) (φ:Nat→Value) (σ:AState) (a:Act) (w:World),R.length=fuel→YS ops R listed→c∈R→
 mA C φ σ a w→Vz ops σ.slots=Vz ops s0→σ.low=low→σ.df=df→awpI C.P ops c H x H' R σ→wpAnyIn (Hq ro) 0 C.P .any ops (QC C Q) fuel listed a w:=by
 obtain ⟨_,hspec⟩:=GC hok
 intro fuel
 induction fuel with
 |zero=>
  intro R listed φ σ a w hl F hc S hs EF hdf h
  have hR0:R=[]:=cU hl
  rw[hR0] at hc
  simp at hc
 |succ fuel ih=>
  intro R listed φ σ a w hl F hc S hs EF hdf h
  have WI:=F.pw
  have hsz:=F.sz
  have hR:=F.mem
  have hnd:R.Nodup:=WI.imp (fun h=>eM h)
  refine ⟨?_,?_⟩
  ·intro YT
   exfalso
   cases R with
   |nil=>simp at hl
   |cons r R=>
    have hr:=(hR r).1 (by simp)
    have ho:ops[r]? =some ops[r]:=dY hr.1
    have:r∈Region.ready .any ops listed:=by
     rw[Ml listed r hsz]
     refine ⟨hr.1,hr.2,_,ho,fun d hd=> ?_⟩
     have hdr:=(hspec r _ ho).1 d hd
     cases hld:listed.getD d false with
     |true=>rfl
     |false=>
      have hdR:=(hR d).2 ⟨by omega,hld⟩
      rw[dZ] at WI
      simp only[cW] at hdR
      rcases hdR with rfl|hdR
      ·omega
      ·have:=WI.1 d hdR;omega
    rw[YT] at this
    simp at this
  ·intro i hi
   rw[Ml listed i hsz] at hi
   obtain ⟨hi1,hi2,oi,N7,DV⟩:=hi
   have hiR:=(hR i).2 ⟨hi1,hi2⟩
   have hnoO: ∀r∈R,qd ops r i=false:=by
    intro r hr
    cases hq:qd ops r i with
    |false=>rfl
    |true=>
     exfalso
     have:=yy hok F.cl N7 DV hq
     have hr':=((hR r).1 hr).2
     rw[hr'] at this;cases this
   obtain ⟨o,v,ho,⟨hH,hst⟩,wR⟩:=pullI hok h hiR WI (fun r hr _=>hnoO r hr)
   rw[N7] at ho;cases ho
   rcases hst with ⟨rfl,hw,f,args,hcal,hpan⟩|YL|⟨hne,e,hup,hnw,hval,hS⟩
   ·unfold wpOpIn
    simp only[N7]
    rw[Az S hw]
    simp only[if_true]
    have ya:=hpan σ hH
    obtain ⟨vs,hrun,hr⟩:=L1 S hcal ya.1
    refine ⟨fun _ _=>trivial,?_⟩
    rw[eG _ _ _ (Ny hcal),hrun,eH]
    refine ⟨fun h=>by simp [Hq,eo] at h,J8.2 ?_⟩
    refine (ya.2 C φ a w rfl S vs hr).mono fun en w' ⟨o',φ',H2,⟨ho',hH2⟩,S',rR⟩=> ?_
    subst ho' hH2
    cases en with
    |returned v=>exact rR.elim
    |panicked chain=>
     obtain ⟨u,hu,hr⟩:=rR
     refine ⟨φ',{slots:=Vz ops s0,heap:=H2,low,df},x,u,?_,hQ,hu,hr⟩
     have:=S'.Vz ops
     rw[←hs,←EF,←hdf]
     exact this
    |outgrown=>exact rR.elim
   ·rw[hnoO c hc] at YL;cases YL
   ·refine Mj S N7 hS ?_
    rintro e' φ' v' w' rfl S'
    have happ:σ.app oi.dst e'=σ.put oi.dst v:=by
     rw[show σ.app oi.dst e'=σ.app oi.dst {val:=v} by simp [AState.app,hup,hnw,hval],F8]
    rw[happ] at S'
    refine ih (R.erase i) _ φ' _ _ w' ?_ (F.next N7 DV) ((hnd.mem_erase_iff).2 ⟨fun e=>hne e.symm,hc⟩) S' ?_ ?_ ?_ wR
    ·rw[dw hiR];omega
    ·rw[wipe_put N7];exact hs
    ·rw[←EF];cases oi.dst<;>rfl
    ·rw[←hdf];cases oi.dst<;>rfl
theorem awpI_sound {ro:Option Nat} {φ:Nat→Value} {σ:AState} {a:Act} {w:World} {id c:Nat} {H':List AObj} {x:AV} (hm:C.P.follows .mixedOrders=true) (hok:Gl ops=true) (hc:c<ops.size) (h:awpI C.P ops c σ.heap x H' (eg ops.size) σ)
 (hQ:Q (.panic x) {σ with slots:=Vz ops σ.slots,heap:=H'}) (S:mA C φ σ a w):(Code.region id ops true).wpIn (Hq ro) 0 C.P (QC C Q) a w:=by
 refine wpIn_region_any hm ?_
 refine draw_pan hok hQ ops.size (eg ops.size) _ φ σ a _ (by simp) ⟨eP,by simp,?_,?_⟩ (by simpa using hc) (S.drew _) rfl rfl rfl h
 ·intro i
  simp only[eS]
  constructor
  ·intro hi;exact ⟨hi,getD_replicate_false' _ _⟩
  ·exact fun h=>h.1
 ·intro j o hj hL
  rw[getD_replicate_false'] at hL;cases hL
def La (tr:List Tr):Bool:=tr.all fun t=>t.e.up.isEmpty&&t.e.nw.isEmpty
def NC (P:Program) (ops:Array Oper) (c:Nat):List Oper→Nat→AState→Prop
 |[],_,_=>True
 |o::rest,j,σ=>match qd ops c j with
  |true=>NC P ops c rest (j+1) (σ.put o.dst (.raw undef))
  |false=>match oR ops o σ with
   |none=>False
   |some false=>NC P ops c rest (j+1) (σ.put o.dst (.raw undef))
   |some true=>mN σ o.op=none∧match lA P σ o.op with
    |some e=>(e.pre∧e.up=[]∧e.nw=[])∧NC P ops c rest (j+1) (σ.put o.dst e.val)
    |none=>False
theorem JX {P:Program} {c:Nat} {H H':List AObj} {x:AV}: ∀ (rest:List Oper) (j:Nat) (σ:AState),ops.toList.drop j=rest→c<j→σ.heap=H→NC P ops c rest j σ→awpI P ops c H x H' (ff j rest.length) σ
 |[],_,_,_,_,_,_=>trivial
 |o::rest,j,σ,hd,hcj,hH,h=>by
  have ho:ops[j]? =some o:=by
   have:=congrArg (fun l:List Oper=>l[0]?) hd
   simpa using this
  have wR:ops.toList.drop (j+1)=rest:=by
   have:=congrArg eO hd
   simpa [eB] using this
  simp only[dO,dz]
  simp only[NC] at h
  split at h
  ·rename_i hor
   exact ⟨o,.raw undef,ho,⟨hH,.inr (.inl hor)⟩,JX rest (j+1) _ wR (by omega) (by rw[Mm];exact hH) h⟩
  ·split at h
   ·exact h.elim
   ·rename_i hw
    exact ⟨o,.raw undef,ho,⟨hH,.inr (.inr ⟨by omega,{val:= .raw undef},rfl,rfl,rfl,.inl ⟨hw,fun _=>cV⟩⟩)⟩,JX rest (j+1) _ wR (by omega) (by rw[Mm];exact hH) h⟩
   ·rename_i hw
    obtain ⟨hc,h⟩:=h
    split at h
    ·rename_i e he
     obtain ⟨⟨hp,hu,hn⟩,h⟩:=h
     exact ⟨o,e.val,ho,⟨hH,.inr (.inr ⟨by omega,e,hu,hn,rfl,.inr (.inl ⟨hw,hc,e,he,hp,fun _=>cV⟩)⟩)⟩,JX rest (j+1) _ wR (by omega) (by rw[Mm];exact hH) h⟩
    ·exact h.elim
end region
end Go.Abs
namespace Go.Abs
def mX.then (next:AState→Prop) (Q:mX→AState→Prop):mX→AState→Prop
 | .normal,σ=>next σ
 |e,σ=>Q e σ
def mX.inBlock (id:Nat) (Q:mX→AState→Prop):mX→AState→Prop
 | .exit id',σ=>if id'=id then Q .normal σ else Q (.exit id') σ
 |e,σ=>Q e σ
def mX.noGoto (Q:mX→AState→Prop):mX→AState→Prop
 | .goto _,_=>False
 |e,σ=>Q e σ
def u7.idle (e:u7):Bool:=e.rd.isEmpty&&e.up.isEmpty&&e.nw.isEmpty&& !e.whole
def Gn (tr:List Tr) (j n:Nat) (e:u7):List Tr:=bif e.idle then tr else tr++[⟨j,n,e⟩]
def Dw (ops:Array Oper) (tr:List Tr) (j:Nat) (e:u7):Prop:=e.idle=true∨Dv ops tr j e=true
def V9 (P:Program) (ops:Array Oper) (Q:mX→AState→Prop):List Oper→Nat→List Tr→AState→Prop
 |[],_,_,σ=>Q .normal σ
 |o::rest,j,tr,σ=>match oR ops o σ with
  |none=>False
  |some b=>(b=true→match mN σ o.op with
    |some (f,args)=>(∃r,yP P f args (fun v=>v=r)∧V9 P ops Q rest (j+1) tr (σ.put o.dst r))∨
      (∃e,DU P f args σ e∧Dw ops tr j e∧V9 P ops Q rest (j+1) (Gn tr j σ.heap.length e) (σ.app o.dst e))∨
      ∃x H',PanC P f args σ.heap x H'∧La tr=true∧NC P ops j rest (j+1) (σ.put o.dst (.raw undef))∧Q (.panic x) {σ with slots:=Vz ops σ.slots,heap:=H'}
    |none=>match lA P σ o.op with
     |some e=>e.pre∧Dw ops tr j e∧V9 P ops Q rest (j+1) (Gn tr j σ.heap.length e) (σ.app o.dst e)
     |none=>False)∧
   (b=false→V9 P ops Q rest (j+1) tr (σ.put o.dst (.raw undef)))
def RangeA (P:Program) (g:Operand) (ps:Array Tmp) (as body:Code) (Q:mX→AState→Prop) (σ:AState):Prop:=
 ∀ (C:Ctx) (φ:Nat→Value) (a:Act) (w:World),C.P=P→mA C φ σ a w→(Code.rangeFunc g ps as body).wpIn (Hq none) 0 P (QC C Q) a w
def wS:Code→Bool
 | .region _ ops _=>ops.toList.all fun o=> !isDefer o.op
 | .seq x y=>wS x&&wS y
 | .cond _ x y=>wS x&&wS y
 | .block _ x=>wS x
 | .loop x=>wS x
 | .scope x=>wS x
 | .rangeFunc _ _ _ _=>false
 |_=>true
def XQ (P:Program):Code→(mX→AState→Prop)→AState→Prop
 | .skip,Q,σ=>Q .normal σ
 | .region _ ops false,Q,σ=>N5 P ops ops.toList Q σ
 | .region _ ops true,Q,σ=>(P.follows .mixedOrders=true∧Gl ops=true)∧V9 P ops Q ops.toList 0 [] σ
 | .seq x y,Q,σ=>XQ P x (mX.then (fun σ1=> ∃σ2,Gk σ1 σ2∧XQ P y Q σ2) Q) σ
 | .cond c x y,Q,σ=>match σ.ev c with
   | .bool b=>(b=true→XQ P x Q σ)∧(b=false→XQ P y Q σ)
   |_=>False
 | .block id x,Q,σ=>XQ P x (mX.inBlock id Q) σ
 | .loop x,Q,σ=> ∃ (I:Nat→AState→Prop) (n:Nat) (σ':AState),Gk σ σ'∧I n σ'∧
     ∀n σ,I n σ→XQ P x (mX.then (fun σ1=> ∃n' σ',n'<n∧Gk σ1 σ'∧I n' σ') Q) σ
 | .exit id,Q,σ=>Q (.exit id) σ
 | .scope x,Q,σ=>XQ P x (mX.noGoto Q) σ
 | .label _,Q,σ=>Q .normal σ
 | .ret,Q,σ=>Q .ret σ
 | .goto _,_,_=>False
 | .rangeFunc g ps as body,Q,σ=>RangeA P g ps as body Q σ
 | .refuse _,_,_=>False
theorem Wa {t:Tr} {e:u7} (h:e.idle=true):Bj t e=true:=by
 unfold u7.idle at h
 simp only[cM,dy] at h
 obtain ⟨⟨⟨h1,h2⟩,h3⟩,h4⟩:=h
 unfold Bj GB
 simp at h4
 simp [h1,h2,h3,h4]
theorem WV {t:Tr} {e:u7} (h:t.e.idle=true):Bj t e=true:=by
 unfold u7.idle at h
 simp only[cM,dy] at h
 obtain ⟨⟨⟨h1,h2⟩,h3⟩,h4⟩:=h
 unfold Bj GB
 simp at h4
 simp [h1,h2,h3,h4]
theorem Xw {tr:List Tr} {j n:Nat} {e:u7} (h:La (Gn tr j n e)=true):La tr=true∧e.up=[]∧e.nw=[]:=by
 unfold Gn at h
 cases hi:e.idle with
 |true=>
  rw[hi] at h
  unfold u7.idle at hi
  simp only[cM,dy] at hi
  exact ⟨h,hi.1.1.2,hi.1.2⟩
 |false=>
  rw[hi] at h
  unfold La at h ⊢
  simp only[cond_false,List.all_append,List.all_cons,List.all_nil,Bool.and_true,cM,dy] at h
  exact ⟨h.1,h.2.1,h.2.2⟩
def PanD (P:Program) (ops:Array Oper) (Q:mX→AState→Prop) (j m:Nat) (tr:List Tr) (σ:AState):Prop:=
 La tr=true∧ ∃c x H',j≤c∧c<j+m∧awpI P ops c σ.heap x H' (ff j m) σ∧Q (.panic x) {σ with slots:=Vz ops σ.slots,heap:=H'}
theorem PanD.step {P:Program} {ops:Array Oper} {Q:mX→AState→Prop} {j m:Nat} {tr tr':List Tr} {σ:AState} {o:Oper} {v:AV} (ho:ops[j]? =some o) (ht:La tr'=true→La tr=true∧ ∃e:u7,e.up=[]∧e.nw=[]∧e.val=v∧yc P ops o σ (fun e'=>e'=e))
 (h:PanD P ops Q (j+1) m tr' (σ.put o.dst v)):PanD P ops Q j (m+1) tr σ:=by
 obtain ⟨h1,c,x,H',h2,h3,h4,h5⟩:=h
 obtain ⟨k1,k2⟩:=ht h1
 refine ⟨k1,c,x,H',by omega,by omega,?_,?_⟩
 ·rw[dz]
  rw[Mm] at h4
  exact ⟨o,v,ho,⟨rfl,.inr (.inr ⟨by omega,k2⟩)⟩,h4⟩
 ·rw[wipe_put ho] at h5
  cases hd:o.dst<;>rw[hd] at h5<;>exact h5
theorem app_idle {σ:AState} {d:Option Tmp} {e:u7} (hu:e.up=[]) (hn:e.nw=[]):σ.app d e=σ.put d e.val:=by
 rw[show σ.app d e=σ.app d {val:=e.val,rd:=e.rd,pre:=e.pre} by simp [AState.app,hu,hn]]
 exact F8 _ _ _ _ _
theorem FJ {P:Program} {ops:Array Oper} {Q:mX→AState→Prop}: ∀ (rest:List Oper) (j:Nat) (tr tr':List Tr) (σ:AState),ops.toList.drop j=rest→(∀t∈tr',t∈tr∨t.e.idle=true)→
 V9 P ops Q rest j tr σ→V3 P ops (Q .normal) (ff j rest.length) tr' σ∨PanD P ops Q j rest.length tr σ
 |[],_,_,_,_,_,_,h=> .inl h
 |o::rest,j,tr,tr',σ,hd,htr,h=>by
  have ho:ops[j]? =some o:=by
   have:=congrArg (fun l:List Oper=>l[0]?) hd
   simpa using this
  have wR:ops.toList.drop (j+1)=rest:=by
   have:=congrArg eO hd
   simpa [eB] using this
  have Yk: ∀e,Dw ops tr j e→Dv ops tr' j e=true:=by
   intro e he
   unfold Dv
   rw[cT]
   intro t ht
   rcases he with he|he
   ·rw[Wa he];rfl
   ·rcases htr t ht with h1|h1
    ·unfold Dv at he
     rw[cT] at he
     exact he t h1
    ·rw[WV h1];rfl
  have hpush: ∀n e,∀t∈tr'++[⟨j,n,e⟩],t∈Gn tr j n e∨t.e.idle=true:=by
   intro n e t ht
   unfold Gn
   rcases cP.1 ht with ht|ht
   ·rcases htr t ht with h1|h1
    ·left
     cases e.idle
     ·exact cP.2 (.inl h1)
     ·exact h1
    ·exact .inr h1
   ·simp only[cR] at ht
    subst ht
    cases hi:e.idle
    ·left;simp
    ·right;rfl
  have hidle: ∀x:AV,({val:=x}:u7).idle=true:=fun _=>rfl
  have hpush': ∀n x,∀t∈tr'++[⟨j,n,{val:=x}⟩],t∈tr∨t.e.idle=true:=by
   intro n x t ht
   have:=hpush n {val:=x} t ht
   simpa [Gn,hidle] using this
  simp only[V9] at h
  simp only[dO]
  split at h
  ·exact h.elim
  ·rename_i b hb
   cases b with
   |false=>
    have hst:yc P ops o σ (fun e=>e={val:= .raw undef}):= .inl ⟨hb,fun _=>cV⟩
    rcases FJ rest (j+1) tr (tr'++[⟨j,σ.heap.length,{val:= .raw undef}⟩]) _ wR (hpush' _ _) (h.2 rfl) with hl|hr
    ·left
     rw[dz]
     refine ⟨o,_,ho,hst,fun e he=> ?_⟩
     subst he
     refine ⟨Yk _ (.inl rfl),?_⟩
     rw[F8];exact hl
    ·exact .inr (hr.step ho fun ht=>⟨ht,_,rfl,rfl,rfl,hst⟩)
   |true=>
    have h:=h.1 rfl
    split at h
    ·rename_i f args hc
     rcases h with ⟨r,hf,hK⟩|⟨e,hf,hcp,hK⟩|⟨x,H',hp,ht,hri,hQ⟩
     ·have hst:yc P ops o σ (fun e=>e={val:=r}):= .inr (.inr (.inl ⟨hb,f,args,_,hc,hf,⟨r,rfl⟩,fun e=>⟨fun he=>⟨r,rfl,he⟩,fun ⟨r',h1,h2⟩=>by rw[h2,h1]⟩⟩))
      rcases FJ rest (j+1) tr (tr'++[⟨j,σ.heap.length,{val:=r}⟩]) _ wR (hpush' _ _) hK with hl|hr
      ·left
       rw[dz]
       refine ⟨o,_,ho,hst,fun e he=> ?_⟩
       subst he
       refine ⟨Yk _ (.inl rfl),?_⟩
       rw[F8];exact hl
      ·exact .inr (hr.step ho fun ht=>⟨ht,_,rfl,rfl,rfl,hst⟩)
     ·have hst:yc P ops o σ (fun e'=>e'=e):= .inr (.inr (.inr ⟨hb,f,args,e,hc,hf,fun _=>cV⟩))
      rcases FJ rest (j+1) _ (tr'++[⟨j,σ.heap.length,e⟩]) _ wR (hpush _ _) hK with hl|hr
      ·left
       rw[dz]
       refine ⟨o,_,ho,hst,fun e' he=> ?_⟩
       subst he
       exact ⟨Yk _ hcp,hl⟩
      ·right
       have ht:=hr.1
       obtain ⟨t1,t2,t3⟩:=Xw ht
       rw[app_idle t2 t3] at hr
       exact hr.step ho fun _=>⟨t1,e,t2,t3,rfl,hst⟩
     ·right
      refine ⟨ht,j,x,H',dc _,by omega,?_,hQ⟩
      rw[dz]
      refine ⟨o,.raw undef,ho,⟨rfl,.inl ⟨rfl,hb,f,args,hc,hp⟩⟩,?_⟩
      exact JX rest (j+1) _ wR (by omega) (Mm _ _ _) hri
    ·rename_i hc
     split at h
     ·rename_i e he
      have hst:yc P ops o σ (fun e'=>e'=e):= .inr (.inl ⟨hb,hc,e,he,h.1,fun _=>cV⟩)
      rcases FJ rest (j+1) _ (tr'++[⟨j,σ.heap.length,e⟩]) _ wR (hpush _ _) h.2.2 with hl|hr
      ·left
       rw[dz]
       refine ⟨o,_,ho,hst,fun e' he'=> ?_⟩
       subst he'
       exact ⟨Yk _ h.2.1,hl⟩
      ·right
       have ht:=hr.1
       obtain ⟨t1,t2,t3⟩:=Xw ht
       rw[app_idle t2 t3] at hr
       exact hr.step ho fun _=>⟨t1,e,t2,t3,rfl,hst⟩
     ·exact h.elim
section sound
variable {C:Ctx}
theorem QC_then {Q:mX→AState→Prop} {next:AState→Prop} {nextC:Act→World→Prop} (h: ∀φ σ a w,mA C φ σ a w→next σ→nextC a w) {e:Exit} {a:Act} {w:World}
 (hq:QC C (mX.then next Q) e a w):Exit.then nextC (QC C Q) e a w:=by
 cases e with
 |normal=>obtain ⟨φ,σ,S,hn⟩:=hq;exact h φ σ a w S hn
 |exit id=>exact hq
 |goto l=>exact hq
 |ret=>exact hq
 |panic chain=>exact hq
 |outgrown=>exact hq
theorem QC_inBlock {Q:mX→AState→Prop} {id:Nat} {e:Exit} {a:Act} {w:World} (hq:QC C (mX.inBlock id Q) e a w):Exit.inBlock id (QC C Q) e a w:=by
 cases e with
 |exit id'=>
  obtain ⟨φ,σ,S,h⟩:=hq
  simp only[mX.inBlock] at h
  simp only[Exit.inBlock]
  split at h
  ·rename_i e;rw[if_pos e];exact ⟨φ,σ,S,h⟩
  ·rename_i e;rw[if_neg e];exact ⟨φ,σ,S,h⟩
 |normal=>exact hq
 |goto l=>exact hq
 |ret=>exact hq
 |panic chain=>exact hq
 |outgrown=>exact hq
theorem QC_noGoto {Q:mX→AState→Prop} {e:Exit} {a:Act} {w:World} (hq:QC C (mX.noGoto Q) e a w):Exit.noGoto (QC C Q) e a w:=by
 cases e with
 |goto l=>obtain ⟨φ,σ,S,h⟩:=hq;exact h.elim
 |normal=>exact hq
 |exit id=>exact hq
 |ret=>exact hq
 |panic chain=>exact hq
 |outgrown=>exact hq
theorem loop_ghostIn {F:Fence} {n:Nat} {P:Program} {Q:Exit→Act→World→Prop} {a:Act} {w:World} {c:Code} (I:Nat→Act→World→Prop) (n₀:Nat) (h₀:I n₀ a w)
 (round: ∀m a w,I m a w→c.wpIn F n P (Exit.then (fun a' w'=> ∃m',m'<m∧I m' a' w') Q) a w):(Code.loop c).wpIn F n P Q a w:=by
 refine wpIn_loop (fun a w=> ∃m,I m a w) (fun a w=>leastOf (fun m=>I m a w)) ⟨n₀,h₀⟩ ?_
 intro a w hI
 refine wpIn_mono (round _ a w (leastOf_spec hI).1) ?_
 intro e a' w' hq
 cases e with
 |normal=>
  obtain ⟨m',hlt,hI'⟩:=hq
  exact ⟨⟨m',hI'⟩,Nat.lt_of_le_of_lt ((leastOf_spec ⟨m',hI'⟩).2 m' hI') hlt⟩
 |exit id=>exact hq
 |goto l=>exact hq
 |ret=>exact hq
 |panic chain=>exact hq
 |outgrown=>exact hq
theorem GG {P:Program} {b:Frame} {a:Act} {k:List Item} {cs:List Frame} {w:World} {c:Code}:step P (lone (b.atR a (.code (.scope c)::k)) cs w)= .next (lone (b.atR a (.code c:: .inScope c::k)) cs w):=
 step_lone_go (by simp [stepG,stepG.exec,Frame.atR])
theorem stepR_inScope {P:Program} {b:Frame} {a:Act} {k:List Item} {cs:List Frame} {w:World} {c:Code}:step P (lone (b.atR a (.inScope c::k)) cs w)= .next (lone (b.atR a k) cs w):=
 step_lone_go (by simp [stepG,stepG.exec,Frame.atR])
theorem WW {F:Fence} {n:Nat} {P:Program} {Q:Exit→Act→World→Prop} {a:Act} {w:World} {c:Code} (h:c.wpIn F n P (Exit.noGoto Q) a w):(Code.scope c).wpIn F n P Q a w:=by
 intro b k cs hro hb hr
 have h0:(lone (b.atR a (.code (.scope c)::k)) cs w).fenced P F:=fenced_calm (fr:=b.atR a (.code (.scope c)::k)) hb hr rfl
 obtain ⟨e,a₁,w₁,hq,harr⟩:=h b (.inScope c::k) cs hro hb hr
 cases e with
 |normal=>exact ⟨.normal,a₁,w₁,hq,.head h0 GG (StepsIn.trans harr (.one (fenced_calm (fr:=b.atR a₁ (.inScope c::k)) hb hr rfl) stepR_inScope))⟩
 |exit id=>
  have hx:exitTo id (.inScope c::k)=exitTo id k:=by simp [exitTo]
  exact ⟨.exit id,a₁,w₁,hq,fun k' hk=> .head h0 GG (harr.1 k' (by rw[hx];exact hk)),
   fun hr' hk=>let ⟨k₁,h1,h2⟩:=harr.2 hr' (by rw[hx];exact hk);⟨k₁,h1,.head h0 GG h2⟩⟩
 |goto l=>exact hq.elim
 |ret=>exact ⟨.ret,a₁,w₁,hq,.of_steps (.one h0 GG) harr⟩
 |panic ch=>exact ⟨_,a₁,w₁,hq,.of_steps (.one h0 GG) harr⟩
 |outgrown=>exact ⟨_,a₁,w₁,hq,.of_steps (.one h0 GG) harr⟩
theorem wT {ro:Option Nat}: ∀ (c:Code) (Q:mX→AState→Prop) (φ:Nat→Value) (σ:AState) (a:Act) (w:World),(ro=none∨wS c=true)→XQ C.P c Q σ→mA C φ σ a w→c.wpIn (Hq ro) 0 C.P (QC C Q) a w
 | .skip,Q,φ,σ,a,w,_,h,S=>wpIn_skip ⟨φ,σ,S,h⟩
 | .region id ops false,Q,φ,σ,a,w,hn,h,S=>by
   have:=V2 (ro:=ro) rfl ops.toList 0 hn (by simp) φ σ a w h S
   refine wpIn_region ?_
   rw[eA]
   simpa using this
 | .region id ops true,Q,φ,σ,a,w,_,h,S=>by
   obtain ⟨⟨hm,hok⟩,h⟩:=h
   rcases FJ ops.toList 0 [] [] σ (by simp) (by simp) h with this|⟨_,c,x,H',_,hc,hI,hQ⟩
   ·refine awpD_sound hm hok ?_ S
    rw[eA]
    simpa using this
   ·refine awpI_sound (c:=c) (x:=x) (H':=H') hm hok (by simpa using hc) ?_ hQ S
    rw[eA]
    simpa using hI
 | .seq x y,Q,φ,σ,a,w,hn,h,S=>
   wpIn_seq (wpIn_mono (wT x _ φ σ a w (hn.imp id fun h=>(cM _ _ ▸ h:wS x=true∧wS y=true).1) h S) fun _ _ _ hq=>QC_then (fun φ' σ' a' w' S' h'=>by
    obtain ⟨σ2,himp,h2⟩:=h'
    obtain ⟨φ2,S2⟩:=himp C φ' a' w' S'
    exact wT y Q φ2 σ2 a' w' (hn.imp id fun h=>(cM _ _ ▸ h:wS x=true∧wS y=true).2) h2 S2) hq)
 | .cond c x y,Q,φ,σ,a,w,hn,h,S=>by
   simp only[XQ] at h
   have hc:=S.ev c
   split at h
   ·rename_i b hb
    rw[hb] at hc
    simp only[nO] at hc
    refine wpIn_cond hc ?_
    cases b with
    |true=>exact wT x Q φ σ a w (hn.imp id fun h=>(cM _ _ ▸ h:wS x=true∧wS y=true).1) (h.1 rfl) S
    |false=>exact wT y Q φ σ a w (hn.imp id fun h=>(cM _ _ ▸ h:wS x=true∧wS y=true).2) (h.2 rfl) S
   ·exact h.elim
 | .block id x,Q,φ,σ,a,w,hn,h,S=>wpIn_block (wpIn_mono (wT x _ φ σ a w hn h S) fun _ _ _ hq=>QC_inBlock hq)
 | .loop x,Q,φ,σ,a,w,hn,h,S=>by
   obtain ⟨I,n,σ',himp,hI,hround⟩:=h
   obtain ⟨φ',S'⟩:=himp C φ a w S
   refine loop_ghostIn (fun n a w=> ∃φ σ,I n σ∧mA C φ σ a w) n ⟨φ',σ',hI,S'⟩ ?_
   rintro n a w ⟨φ,σ,hI,S⟩
   refine wpIn_mono (wT x _ φ σ a w hn (hround n σ hI) S) fun _ _ _ hq=>QC_then ?_ hq
   rintro φ1 σ1 a1 w1 S1 ⟨n',σ2,hlt,himp,hI'⟩
   obtain ⟨φ2,S2⟩:=himp C φ1 a1 w1 S1
   exact ⟨n',hlt,φ2,σ2,hI',S2⟩
 | .exit id,Q,φ,σ,a,w,_,h,S=>wpIn_exit ⟨φ,σ,S,h⟩
 | .scope x,Q,φ,σ,a,w,hn,h,S=>WW (wpIn_mono (wT x _ φ σ a w hn h S) fun _ _ _ hq=>QC_noGoto hq)
 | .label l,Q,φ,σ,a,w,_,h,S=>wpIn_label ⟨φ,σ,S,h⟩
 | .ret,Q,φ,σ,a,w,_,h,S=>wpIn_ret ⟨φ,σ,S,h⟩
 | .goto l,Q,φ,σ,a,w,_,h,S=>h.elim
 | .rangeFunc f p x y,Q,φ,σ,a,w,hn,h,S=>by
   rcases hn with rfl|hn
   ·exact h C φ a w rfl S
   ·cases hn
 | .refuse s,Q,φ,σ,a,w,_,h,S=>h.elim
theorem mA.Wb {φ:Nat→Value} {σ:AState} {tmps:Array Value} {D:Nat} {ds:List Deferred} {w:World} (S:mA C φ σ {tmps,defers:=⟨.collected D,#[]⟩::ds} w):
 w.heap[D]? =some (.deferred (some []))∧mA C φ σ {tmps,defers:=ds} (w.putObj D (.deferred none)):=by
 obtain ⟨hnd,hall,hrd⟩:=S.defers
 have hmk:VX (⟨.collected D,#[]⟩:Deferred)=true:=rfl
 simp only[eN,hmk,if_true,eF,dK,if_false] at hnd hrd
 obtain ⟨D',hD,h1,h2,h3⟩:=hall _ (eE) rfl
 simp only[Deferred.mk.injEq,Target.collected.injEq,and_true] at hD
 subst hD
 refine ⟨h1,?_⟩
 have yx: ∀b,b≠D→(w.putObj D (.deferred none)).heap[b]? =w.heap[b]? :=fun b hb=>World.putObj_heap_other hb
 have hcell: ∀b o,(w.putObj D (.deferred none)).cell? ⟨b,o,none⟩=w.cell? ⟨b,o,none⟩:=by
  intro b o
  by_cases e:b=D
  ·subst e
   simp only[World.cell?,h1,World.putObj_heap_same (cY.1 h1).1]
  ·simp only[World.cell?,yx b e]
 have le:(C.env φ σ.heap w).Le σ.heap.length (C.env φ σ.heap (w.putObj D (.deferred none))):=
  Ctx.Bi (dc _) (fun _ _=>⟨rfl,rfl⟩) (fun b o u hm hc=>⟨hm,by rw[hcell];exact hc⟩)
 have Ch:rB C φ σ.heap (w.putObj D (.deferred none)) σ.df ds:=by
  rw[List.nodup_cons] at hnd
  refine ⟨hnd.2,fun d hd hm=> ?_,hrd.mono le⟩
  obtain ⟨D',e,g1,g2,g3⟩:=hall d (List.mem_cons_of_mem _ hd) hm
  refine ⟨D',e,?_,g2,g3⟩
  rw[yx D' (fun e'=>hnd.1 (dX.2 ⟨by subst e';rw[←e];exact hd,rfl⟩))];exact g1
 refine {slots:=k6.mono le _ _ (k6.nb _ _ S.slots) S.slots,defers:=Ch,objs:= ?_,apart:=S.apart,s6:=S.s6,size:=by rw[World.putObj_size];exact S.size,old:=fun b o hb hm=>by rw[hcell];exact S.old b o hb hm,ni:= ?_,C5:=S.C5,vT:= ?_,rest:=S.rest,low:=S.low,names:=S.names}
 ·intro l x hx
  exact nk.mono (S.objs l x hx) le (fun b hb=>yx b (fun e=>by subst e;exact h3 l x hx hb))
 ·intro b hb hm
  rw[yx b (by omega)];exact S.ni b hb hm
 ·intro x hx
  rw[←S.vT x hx]
  by_cases e:x.block=D
  ·simp only[World.frozen?]
   rw[e,h1,World.putObj_heap_same (cY.1 h1).1]
  ·simp only[World.frozen?]
   rw[yx x.block e]
theorem mA.marks {fn:Func} {R:Ending→World→Prop} {u:FrameMode} {φ:Nat→Value} {σ:AState} {tmps tm:Array Value} (hu:u≠ .run) (hdf:σ.df=[]): ∀ (ds:List Deferred) (w:World),mA C φ σ {tmps,defers:=ds} w→
 (∀w',mA C φ σ {tmps,defers:=[]} w'→LeavesIn eo 0 C.P fn tm R [] u w')→LeavesInM eo 0 C.P fn tm R ds u w
 |[],w,S,h=>h w S
 |d::ds,w,S,h=>by
  have hm:VX d=true:=by
   have:=S.defers.2.2
   rw[hdf] at this
   have hnil:(d::ds).filter (fun d=> !VX d)=[]:=this
   rw[List.filter_eq_nil_iff] at hnil
   simpa using hnil d (eE)
  obtain ⟨D,hD,_⟩:=S.defers.2.1 d (eE) hm
  subst hD
  obtain ⟨h1,S'⟩:=S.Wb
  exact ⟨hu,.inl ⟨D,_,rfl,run_takeDeferred h1,mA.marks hu hdf ds _ S' h⟩⟩
end sound
def YV (P:Program) (σ:AState):ResultVar→Option AV
 | .tmp t=>some (σ.slots.getD t .any)
 | .cell d t=>match oQ P t,σ.slots.getD d .any with
   |some (g,n),.ptr l off=>match σ.heap[l]? with
    |some (.cells cs)=>mg g n (cs.drop off)
    |_=>none
   |_,_=>none
def Ac (P:Program) (σ:AState):List ResultVar→Option (List AV)
 |[]=>some []
 |r::rs=>match YV P σ r,Ac P σ rs with
  |some x,some xs=>some (x::xs)
  |_,_=>none
def Lx (P:Program) (σ:AState) (rs:List ResultVar):Option AV:=
 match Ac P σ rs with
 |some [x]=>some x
 |some xs=>some (.tup xs)
 |none=>none
section results
variable {C:Ctx} {φ:Nat→Value} {σ:AState} {a:Act} {w:World}
theorem resOne_sound (S:mA C φ σ a w) {r:ResultVar} {x:AV} (h:YV C.P σ r=some x):
 ∃v,(match r with| .tmp t=>pure (a.tmps.getD t undef)| .cell d t=>(do loadVar t (←asAddr (a.tmps.getD d undef))):Sem Value).run C.P w= .ok v w∧nO (C.env φ σ.heap w) x v:=by
 cases r with
 |tmp t=>
  simp only[YV,cK] at h
  subst h
  exact ⟨_,rfl,S.ev (.tmp t)⟩
 |cell d t=>
  simp only[YV] at h
  have hd:=S.ev (.tmp d)
  simp only[AState.ev] at hd
  split at h
  ·rename_i g n l off ht hp
   rw[hp] at hd
   split at h
   ·rename_i cs hl
    obtain ⟨u,hu,ru⟩:=load_ptr S ht hl h hd
    obtain ⟨_,b,_,hv⟩:=hd
    refine ⟨u,?_,ru⟩
    have hv':a.tmps.getD d undef= .pointer (some ⟨b,off,none⟩):=hv
    rw[show a.eval (.tmp d)=a.tmps.getD d undef from rfl,hv'] at hu
    simp only[hv',asAddr,Sem.run_bind,Sem.run_pure,Result.andThen_ok]
    simpa [Instr.loadAt,Instr.sureAddr] using hu
   ·cases h
  ·cases h
theorem U7 (S:mA C φ σ a w): ∀ {rs:List ResultVar} {xs:List AV},Ac C.P σ rs=some xs→
 ∃vs:List Value,(rs.mapM fun| .tmp t=>pure (a.tmps.getD t undef)| .cell d t=>(do loadVar t (←asAddr (a.tmps.getD d undef))):Sem (List Value)).run C.P w= .ok vs w∧k6 (C.env φ σ.heap w) xs vs
 |[],_,h=>by simp only[Ac,cK] at h;subst h;exact ⟨[],rfl,rfl⟩
 |r::rs,xs,h=>by
  simp only[Ac] at h
  split at h
  ·rename_i x ys h1 h2
   cases h
   obtain ⟨v,hv,rv⟩:=resOne_sound S h1
   obtain ⟨vs,hvs,rvs⟩:=U7 S h2
   refine ⟨v::vs,?_,v,vs,rfl,rv,rvs⟩
   rw[List.mapM_cons]
   simp only[Sem.run_bind,hv,hvs,Result.andThen_ok,Sem.run_pure]
  ·cases h
theorem J9 (S:mA C φ σ a w) {fn:Func} {x:AV} (h:Lx C.P σ fn.results.toList=some x): ∃v,(results fn a.tmps).run C.P w= .ok v w∧nO (C.env φ σ.heap w) x v:=by
 unfold Lx at h
 have key: ∀xs,Ac C.P σ fn.results.toList=some xs→ ∃vs:List Value,(results fn a.tmps).run C.P w= .ok (if hh:vs.toArray.size=1 then vs.toArray[0] else .tuple vs.toArray) w∧k6 (C.env φ σ.heap w) xs vs:=by
  intro xs hx
  obtain ⟨vs,hvs,rvs⟩:=U7 S hx
  refine ⟨vs,?_,rvs⟩
  unfold results
  rw[Array.mapM_eq_mapM_toList]
  simp only[Sem.run_bind,Sem.run_map,Sem.run_pure]
  generalize hq:Sem.run C.P (List.mapM _ fn.results.toList) w=q
  have hq':q= .ok vs w:=by rw[←hq];exact hvs
  subst hq'
  simp
 split at h
 ·rename_i y hy
  cases h
  obtain ⟨vs,hv,u,us,rfl,r1,r2⟩:=key _ hy
  simp only[k6] at r2
  subst r2
  exact ⟨_,hv,by simpa using r1⟩
 ·rename_i xs hne hx
  cases h
  obtain ⟨vs,hv,rl⟩:=key _ hx
  refine ⟨_,hv,?_⟩
  have hlen:=rl.length
  have hn1: ¬ vs.toArray.size=1:=by
   intro h1
   have h2:xs.length=1:=by simp at h1;omega
   match xs,h2 with
   |[y],_=>exact hne y rfl
  rw[dif_neg hn1]
  exact ⟨vs.toArray,rfl,rl⟩
 ·cases h
end results
theorem Yl {P:Program} {f:FuncId} {args args':List AV} {V:AV→Prop} (h:yP P f args' V) (hs:qJ args args') (hn:nbL 0 args):yP P f args V:=by
 obtain ⟨he,_,hc⟩:=h
 exact ⟨he,hn,fun C φ w hP h0 hN hM vs hr=>hc C φ w hP h0 hN hM vs (hs _ _ hr)⟩
def endV (V:AV→Prop) (H:List AObj):Option AV→Prop
 |some x=>(U6 0 H x).nb 0∧ ∃r,Sub (U6 0 H x) r∧V r
 |none=>False
def retPost (P:Program) (rs:List ResultVar) (V:AV→Prop):mX→AState→Prop
 | .normal,σ=>σ.df=[]∧endV V σ.heap (Lx P σ rs)
 | .ret,σ=>σ.df=[]∧endV V σ.heap (Lx P σ rs)
 |_,_=>False
theorem fnC_of_body {P:Program} {f:FuncId} {fn:Func} {c:Code} {args:List AV} {V:AV→Prop} (hf:P.funcs[f]? =some fn) (hb:fn.body=some c) (hne:(fn.name != "runtime.NumGoroutine")=true) (hnb:nbL 0 args)
 (h:XQ P c (retPost P fn.results.toList V) {slots:=args++eT (fn.ntmps-args.length) .any,heap:=[]}):yP P f args V:=by
 refine ⟨?_,hnb,fun C φ w hP h0 hN hM vs hr=> ?_⟩
 ·unfold enters;rw[hf];simp only[hb,Option.isSome_some,Bool.true_and];exact hne
 ·subst hP
  refine (callsIn_wide (n:=0)).1 (callsIn_of_wp_marks hf hb trivial ?_)
  have hsz:vs.size=args.length:=by have:=hr.length;simpa using this
  have S:mA C φ {slots:=args++eT (fn.ntmps-args.length) .any,heap:=[]} {tmps:=vs++dA (fn.ntmps-vs.size) undef,defers:=[]} w:=by
   refine {slots:= ?_,defers:=rB.nil,objs:=by simp,apart:=by simp,s6:=by simp,size:=by rw[h0];exact dc _,old:=fun b o _ _=>by rw[h0],ni:=fun b _ _=>by rw[h0],C5:=by simp,vT:=fun x _=>by rw[h0],rest:=by rw[h0];exact ⟨rfl,rfl⟩,low:=⟨hN,dc _⟩,names:=fun l hl=>by rw[hN] at hl;exact absurd hl (dm _)}
   simp only[eZ,Array.toList_replicate]
   refine hr.append ?_
   rw[hsz]
   have:=k6.C1 (E:=C.env φ [] w) (eT (fn.ntmps-args.length) undef)
   simpa using this
  refine wpIn_mono (wT (ro:=none) c _ φ _ _ w (.inl rfl) h S) ?_
  intro e a' w' hq
  have fin: ∀φ' σ',mA C φ' σ' a' w'→σ'.df=[]∧endV V σ'.heap (Lx C.P σ' fn.results.toList)→
   LeavesInM eo 0 C.P fn a'.tmps (fun e w'=> ∃r v φ',V r∧e= .returned v∧nO (C.env φ' [] w') r v∧w.heap.size≤w'.heap.size∧(∀b,b<w.heap.size→w'.heap[b]? =w.heap[b]?)∧
    (∀x,x.block<w.heap.size→w'.frozen? x=w.frozen? x)∧w'.output=w.output∧w'.os=w.os) a'.defers .returning w':=by
   intro φ' σ' S' ⟨hdf,hend⟩
   refine mA.marks (by simp) hdf _ _ S' (fun w' S'=> ?_)
   cases hx:Lx C.P σ' fn.results.toList with
   |none=>rw[hx] at hend;exact hend.elim
   |some x=>
   rw[hx] at hend
   obtain ⟨hn,r0,hsub,hV⟩:=hend
   obtain ⟨v,hv,rv⟩:=J9 S' hx
   refine ⟨v,hv,_,v,φ',hV,rfl,hsub _ _ (by have:=WS S' (S'.drops (by rw[←S'.low.1];exact hN)) x v;rw[←S'.low.1,hN] at this;exact this hn rv),?_,?_,?_,?_⟩
   ·rw[←h0];exact S'.size
   ·intro b hb;rw[←h0];exact S'.ni b (by rw[h0];exact hb) (fun o=>hM b o)
   ·intro y hy;rw[←h0];exact S'.vT y (by rw[h0];exact hy)
   ·rw[←h0];exact S'.rest
  cases e with
  |normal=>obtain ⟨φ',σ',S',hq⟩:=hq;exact fin φ' σ' S' hq
  |ret=>obtain ⟨φ',σ',S',hq⟩:=hq;exact fin φ' σ' S' hq
  |exit id=>obtain ⟨_,_,_,hq⟩:=hq;exact hq.elim
  |goto l=>obtain ⟨_,_,_,hq⟩:=hq;exact hq.elim
  |panic chain=>obtain ⟨_,_,_,_,_,hq,_⟩:=hq;exact hq.elim
  |outgrown=>exact hq.elim
end Go.Abs
namespace Go.Abs
section co
variable {H:List AObj} {n:Nat}
theorem Co1.sub {x y:AV} (h:Sub x y) (hn:y.nb n):Co1 H n x y:= .inl ⟨h,hn⟩
theorem Co.any {x:AV}:Co H n x .any:= .inl (.inl ⟨Sub.any _,trivial⟩)
theorem Co.same {x:AV} (h:x.nb n):Co H n x x:= .inl (.inl ⟨Sub.refl _,h⟩)
theorem Co.sub {x y:AV} (h:Sub x y) (hn:y.nb n):Co H n x y:= .inl (.inl ⟨h,hn⟩)
theorem B8.nil:B8 H n [] []:=rfl
theorem B8.cons {x y:AV} {xs ys:List AV} (h:Co H n x y) (hs:B8 H n xs ys):B8 H n (x::xs) (y::ys):=⟨y,ys,rfl,h,hs⟩
theorem B8.any {x:AV} {xs ys:List AV} (hs:B8 H n xs ys):B8 H n (x::xs) (.any::ys):=⟨.any,ys,rfl,Co.any,hs⟩
theorem Sb.nil {xs:List AObj}:Sb H n xs []:=by cases xs<;>trivial
theorem Sb.same {x:AObj} {xs ys:List AObj} (h:objNb n x) (hs:Sb H n xs ys):Sb H n (x::xs) (x::ys):=⟨.inr (.inl ⟨rfl,h⟩),hs⟩
theorem Sb.cells {cs ds:List AV} {xs ys:List AObj} (h:B8 H n cs ds) (hs:Sb H n xs ys):Sb H n (.cells cs::xs) (.cells ds::ys):=⟨.inr (.inr (.inl ⟨cs,ds,rfl,rfl,h⟩)),hs⟩
theorem Sb.dead {x:AObj} {xs ys:List AObj} (hs:Sb H n xs ys):Sb H n (x::xs) (.dead::ys):=⟨.inl rfl,hs⟩
theorem B8.same {xs:List AV} (h:nbL n xs):B8 H n xs xs:=by
 induction xs with
 |nil=>rfl
 |cons x xs ih=>exact B8.cons (Co.same h.1) (ih h.2)
end co
theorem Wc {P:Program} {σ:AState} {f:FuncId} {args args':List AV} {X:AV} {n:Nat} (h:yP P f args' (fun r=>r=X)) (hs:B8 σ.heap n args args'):yO P f args σ (fun o H=>o= .ret X∧H=σ.heap):=by
 obtain ⟨he,hc⟩:=L2 (σ:=σ) (K:=fun o H=>o= .ret X∧H=σ.heap) h (fun r hr=>⟨by rw[hr],rfl⟩)
 exact ⟨he,fun C φ a w hP S vs hr=>hc C φ a w hP S vs (B8.repS S hs hr)⟩
end Go.Abs
namespace Go.Abs
def stP:Option Code→LoopState
 |none=> .ready
 |some _=> .done
theorem stP_not_busy (c:Option Code):stP c≠ .busy:=by cases c<;>simp [stP]
section
variable {C:Ctx} {φ:Nat→Value} {σ:AState} {a:Act} {w:World}
theorem mA.nameLoop (S:mA C φ σ a w) (k:wQ) (rec:Loop) {slots:List AV} (hs:k6 (C.env φ σ.heap w) slots rec.tmps.toList)
 (N6:rec.params=k.ps∧rec.assign=k.assign∧rec.body=k.body∧rec.state= .ready∧rec.pending=none∧rec.defers=w.heap.size):
 mA C (fun l=>if l=σ.heap.length then .func (.yield (w.heap.size+1)) #[] #[] else φ l) {σ with heap:=σ.heap++[.loop k slots .ready 0]} a ((w.alloc (.deferred (some []))).alloc (.loop rec)):=by
 let φ':Nat→Value:=fun l=>if l=σ.heap.length then .func (.yield (w.heap.size+1)) #[] #[] else φ l
 let w':=(w.alloc (.deferred (some []))).alloc (.loop rec)
 have hφ: ∀l,l<σ.heap.length→φ' l=φ l:=fun l hl=>by simp only[φ'];rw[if_neg (by omega)]
 have hφn:φ' σ.heap.length= .func (.yield (w.heap.size+1)) #[] #[]:=by simp [φ']
 have hsz:w'.heap.size=w.heap.size+2:=by
  show (World.more (World.more w _) _).heap.size=_
  rw[Jy,Jy]
 have hold: ∀b,b<w.heap.size→w'.heap[b]? =w.heap[b]? :=by
  intro b hb
  show (World.more (World.more w _) _).heap[b]? =_
  rw[sN _ _ (by rw[Jy];omega),sN _ _ hb]
 have hD:w'.heap[w.heap.size]? =some (.deferred (some [])):=by
  show (World.more (World.more w _) _).heap[_]? =_
  rw[sN _ _ (by simp [World.more]),DT]
 have hL:w'.heap[w.heap.size+1]? =some (.loop rec):=by
  have:=DT (World.more w (.deferred (some []))) (.loop rec)
  rw[Jy] at this;exact this
 have mL: ∀ (l:Nat) (x:AObj),(σ.heap++[.loop k slots .ready 0])[l]? =some x→(l<σ.heap.length∧σ.heap[l]? =some x)∨(l=σ.heap.length∧x= .loop k slots .ready 0):=by
  intro l x hx
  by_cases hl:l<σ.heap.length
  ·rw[cQ hl] at hx;exact .inl ⟨hl,hx⟩
  ·rw[dh (by omega)] at hx
   have hz:l-σ.heap.length=0:=by
    by_cases e:l-σ.heap.length=0
    ·exact e
    ·rw[List.getElem?_eq_none (by simp;omega)] at hx;cases hx
   rw[hz] at hx;simp at hx
   exact .inr ⟨by omega,hx.symm⟩
 have hcell: ∀b o,b<w.heap.size→w'.cell? ⟨b,o,none⟩=w.cell? ⟨b,o,none⟩:=by
  intro b o hb;simp only[World.cell?,hold b hb]
 have hnb: ∀b,(AObj.loop k slots .ready 0).block (φ' σ.heap.length) b→w.heap.size≤b:=by
  intro b hb
  rw[hφn] at hb
  rcases hb with rfl|hb<;>omega
 have EE: ∀b o,ET φ' (σ.heap++[.loop k slots .ready 0]) b o→w.heap.size≤b∨ET φ σ.heap b o:=by
  rintro b o ⟨l,x,hx,hm⟩
  rcases mL l x hx with ⟨hl,hx⟩|⟨rfl,rfl⟩
  ·rw[hφ l hl] at hm;exact .inr ⟨l,x,hx,hm⟩
  ·exact .inl (hnb b (AObj.nu hm))
 have le:(C.env φ σ.heap w).Le σ.heap.length (C.env φ' (σ.heap++[.loop k slots .ready 0]) w'):=by
  refine Ctx.Bi (by simp) (fun l hl=>⟨hφ l hl,by rw[cQ hl]⟩) (fun b i u hm hc=> ?_)
  have hb:=F7 hc
  refine ⟨fun h=> ?_,by rw[hcell b i hb];exact hc⟩
  rcases h with h|h
  ·rcases EE b i h with e|h
   ·omega
   ·exact hm (.inl h)
  ·exact hm (.inr h)
 have Ch:rB C φ' (σ.heap++[.loop k slots .ready 0]) w' σ.df a.defers:=by
  refine S.defers.step le (fun b hb _=>hold b hb) (fun l x b hx hb=> ?_)
  rcases mL l x hx with ⟨hl,hx⟩|⟨rfl,rfl⟩
  ·rw[hφ l hl] at hb;exact .inl ⟨l,x,hx,hb⟩
  ·exact .inr (hnb b hb)
 refine {slots:=k6.mono le _ _ (k6.nb _ _ S.slots) S.slots,defers:=Ch,objs:= ?_,apart:= ?_,s6:= ?_,size:=by show _≤w'.heap.size;have:=S.size;omega,old:= ?_,ni:= ?_,C5:= ?_,vT:= ?_,rest:=S.rest,low:=⟨S.low.1,by have:=S.low.2;simp;omega⟩,names:= ?_}
 ·intro l x hx
  show nk _ x (φ' l)
  rcases mL l x hx with ⟨hl,hx⟩|⟨rfl,rfl⟩
  ·have r0:=S.objs l x hx
   rw[hφ l hl]
   exact nk.mono r0 le (fun b hb=>hold b (r0.qc hb))
  ·rw[hφn]
   exact ⟨w.heap.size,rec,rfl,hL,hD,N6,k6.mono le _ _ (k6.nb _ _ hs) hs⟩
 ·intro l l' x x' b hx hx' hb hb'
  have hb:x.block (φ' l) b:=hb
  have hb':x'.block (φ' l') b:=hb'
  rcases mL l x hx with ⟨hl,hx⟩|⟨rfl,rfl⟩<;>rcases mL l' x' hx' with ⟨hl',hx'⟩|⟨rfl,rfl⟩
  ·rw[hφ l hl] at hb
   rw[hφ l' hl'] at hb'
   exact S.apart l l' x x' b hx hx' hb hb'
  ·rw[hφ l hl] at hb
   have h1:=(S.objs l x hx).qc hb
   have h2:=hnb b hb'
   simp only[Ctx.env] at h1;omega
  ·rw[hφ l' hl'] at hb'
   have h1:=(S.objs l' x' hx').qc hb'
   have h2:=hnb b hb
   simp only[Ctx.env] at h1;omega
  ·rfl
 ·intro l x b o hx hb
  have hb:x.block (φ' l) b:=hb
  rcases mL l x hx with ⟨hl,hx⟩|⟨rfl,rfl⟩
  ·rw[hφ l hl] at hb
   exact S.s6 l x b o hx hb
  ·intro hA
   have h1:=C.hA _ _ hA
   have h2:=hnb b hb
   have:=S.size;omega
 ·intro b i hb hm;rw[hcell b i (cZ hb S.size)];exact S.old b i hb hm
 ·intro b hb hm;rw[hold b (cZ hb S.size)];exact S.ni b hb hm
 ·intro l x b o hx hm hb
  have hm:x.muts (φ' l) b o:=hm
  rcases mL l x hx with ⟨hl,hx⟩|⟨rfl,rfl⟩
  ·rw[hφ l hl] at hm
   exact S.C5 l x b o hx hm hb
  ·have h2:=hnb b (AObj.nu hm)
   have:=S.size;omega
 ·intro x hx
  have h1:=u6 (World.more w (.deferred (some []))) (.loop rec) (by intro c t lo hi h;cases h) x
  have h2:=u6 w (.deferred (some [])) (by intro c t lo hi h;cases h) x
  exact (h1.trans h2).trans (S.vT x hx)
 ·intro l hl
  have hlt:l<σ.heap.length:=by have:=S.low;omega
  have:=S.names l hl
  rw[cQ hlt]
  show (φ' l=_∧_)∨_
  rw[hφ l hlt];exact this
theorem mA.setLoop (S:mA C φ σ a w) {l D:Nat} {k:wQ} {slots:List AV} {st st':LoopState} {sk Ka:Int} {rec:Loop} (hl:σ.heap[l]? =some (.loop k slots st sk)) (hφ:φ l= .func (.yield (D+1)) #[] #[])
 (hw:w.heap[D+1]? =some (.loop rec)):mA C φ {σ with heap:=σ.heap.set l (.loop k slots st' Ka)} a (w.putObj (D+1) (.loop {rec with state:=st',pending:=oP k.js Ka})):=by
 have hlt:l<σ.heap.length:=(cO.1 hl).1
 have YF:=(cY.1 hw).1
 have mL: ∀ (j:Nat) (x:AObj),(σ.heap.set l (.loop k slots st' Ka))[j]? =some x→(j=l∧x= .loop k slots st' Ka)∨(j≠l∧σ.heap[j]? =some x):=by
  intro j x hx
  by_cases e:j=l
  ·subst e;rw[dj hlt] at hx;cases hx;exact .inl ⟨rfl,rfl⟩
  ·rw[c9 (fun h=>e h.symm)] at hx;exact .inr ⟨e,hx⟩
 have hbb:(AObj.loop k slots st sk).block (φ l) (D+1):=by rw[hφ];exact .inl rfl
 have hmb: ∀o,(AObj.loop k slots st sk).muts (φ l) (D+1) o:=by intro o;rw[hφ];exact .inl rfl
 have yx: ∀b,b≠D+1→(w.putObj (D+1) (.loop {rec with state:=st',pending:=oP k.js Ka})).heap[b]? =w.heap[b]? :=fun b hb=>World.putObj_heap_other hb
 have hcell: ∀b o,(w.putObj (D+1) (.loop {rec with state:=st',pending:=oP k.js Ka})).cell? ⟨b,o,none⟩=w.cell? ⟨b,o,none⟩:=by
  intro b o
  by_cases e:b=D+1
  ·subst e;simp only[World.cell?,hw,World.putObj_heap_same YF]
  ·simp only[World.cell?,yx b e]
 have DS: ∀b,(AObj.loop k slots st' Ka).block (φ l) b→(AObj.loop k slots st sk).block (φ l) b:=by intro b hb;rw[hφ] at hb ⊢;exact hb
 have hmts: ∀b o,(AObj.loop k slots st' Ka).muts (φ l) b o→(AObj.loop k slots st sk).muts (φ l) b o:=by intro b o hb;rw[hφ] at hb ⊢;exact hb
 have EE: ∀b o,ET φ (σ.heap.set l (.loop k slots st' Ka)) b o→ET φ σ.heap b o:=by
  rintro b o ⟨j,x,hx,hm⟩
  rcases mL j x hx with ⟨rfl,rfl⟩|⟨_,hx⟩
  ·exact ⟨j,_,hl,hmts b o hm⟩
  ·exact ⟨j,x,hx,hm⟩
 have hlen: ∀j:Nat,lN (σ.heap.set l (.loop k slots st' Ka))[j]? =lN σ.heap[j]? :=by
  intro j
  by_cases e:j=l
  ·subst e;rw[dj hlt,hl];rfl
  ·rw[c9 (fun h=>e h.symm)]
 have le:(C.env φ σ.heap w).Le σ.heap.length (C.env φ (σ.heap.set l (.loop k slots st' Ka)) (w.putObj (D+1) (.loop {rec with state:=st',pending:=oP k.js Ka}))):=
  Ctx.Bi (by simp) (fun j _=>⟨rfl,hlen j⟩) (fun b o u hm hc=>⟨fun h=>hm (h.imp (EE b o) id),by rw[hcell];exact hc⟩)
 have Ch:rB C φ (σ.heap.set l (.loop k slots st' Ka)) (w.putObj (D+1) (.loop {rec with state:=st',pending:=oP k.js Ka})) σ.df a.defers:=by
  refine S.defers.step le (fun b _ hno=>yx b (fun e=>by subst e;exact hno l _ hl hbb)) (fun j x b hx hb=> ?_)
  rcases mL j x hx with ⟨rfl,rfl⟩|⟨_,hx⟩
  ·exact .inl ⟨j,_,hl,DS b hb⟩
  ·exact .inl ⟨j,x,hx,hb⟩
 refine {slots:=k6.mono le _ _ (k6.nb _ _ S.slots) S.slots,defers:=Ch,objs:= ?_,apart:= ?_,s6:= ?_,size:=by rw[World.putObj_size];exact S.size,old:=fun b o hb hm=>by rw[hcell];exact S.old b o hb hm,ni:= ?_,C5:= ?_,vT:= ?_,rest:=S.rest,low:=⟨S.low.1,by simpa using S.low.2⟩,names:= ?_}
 ·intro j x hx
  rcases mL j x hx with ⟨rfl,rfl⟩|⟨hne,hx⟩
  ·obtain ⟨D',Sf,e1,g1,g2,g3,rl⟩:=S.objs j _ hl
   rw[hφ] at e1
   simp only[Value.func.injEq,Fn.yield.injEq,ec,and_true] at e1
   subst e1
   have hwr:Sf=rec:=by
    have g1:w.heap[D+1]? =some (.loop Sf):=g1
    rw[hw] at g1;cases g1;rfl
   subst hwr
   refine ⟨D,_,hφ,World.putObj_heap_same YF,?_,⟨g3.1,g3.2.1,g3.2.2.1,rfl,rfl,g3.2.2.2.2.2⟩,k6.mono le _ _ (k6.nb _ _ rl) rl⟩
   show (w.putObj (D+1) _).heap[D]? =_
   rw[yx D (by omega)];exact g2
  ·exact nk.mono (S.objs j x hx) le (fun b hb=>yx b (fun e=>by subst e;exact hne (S.apart j l x _ (D+1) hx hl hb hbb)))
 ·intro j j' x x' b hx hx' hb hb'
  rcases mL j x hx with ⟨rfl,rfl⟩|⟨hne,hx1⟩<;>rcases mL j' x' hx' with ⟨e2,rfl⟩|⟨hne',Mg⟩
  ·exact e2.symm
  ·exact S.apart j j' _ x' b hl Mg (DS b hb) hb'
  ·rw[e2] at hb' ⊢;exact S.apart j l x _ b hx1 hl hb (DS b hb')
  ·exact S.apart j j' x x' b hx1 Mg hb hb'
 ·intro j x b o hx hb
  rcases mL j x hx with ⟨rfl,rfl⟩|⟨_,hx⟩
  ·exact S.s6 j _ b o hl (DS b hb)
  ·exact S.s6 j x b o hx hb
 ·intro b hb hm
  rw[yx b (fun e=>by subst e;exact hm 0 (S.C5 l _ (D+1) 0 hl (hmb 0) hb))]
  exact S.ni b hb hm
 ·intro j x b o hx hm hb
  rcases mL j x hx with ⟨rfl,rfl⟩|⟨_,hx⟩
  ·exact S.C5 j _ b o hl (hmts b o hm) hb
  ·exact S.C5 j x b o hx hm hb
 ·intro x hx
  rw[←S.vT x hx]
  by_cases e:x.block=D+1
  ·simp only[World.frozen?]
   rw[e,hw,World.putObj_heap_same YF]
  ·simp only[World.frozen?]
   rw[yx x.block e]
 ·intro j hj
  have:=S.names j hj
  rw[hlen j];exact this
theorem mA.endLoop (S:mA C φ σ a w) {l D:Nat} {k:wQ} {slots:List AV} {st:LoopState} {sk:Int} (hl:σ.heap[l]? =some (.loop k slots st sk)) (hφ:φ l= .func (.yield (D+1)) #[] #[]) (hD:C.w0.heap.size≤D):
 mA C φ {σ with heap:=σ.heap.set l .dead} {a with defers:=⟨.collected D,#[]⟩::a.defers} w:=by
 have hlt:l<σ.heap.length:=(cO.1 hl).1
 have EF:C.N0≤l∨l<C.N0:=by omega
 have hmutw: ∀b o,ET φ (σ.heap.set l .dead) b o→ET φ σ.heap b o:=by
  rintro b o ⟨j,x,hx,hm⟩
  by_cases e:j=l
  ·subst e;rw[dj hlt] at hx;cases hx;exact absurd hm (by simp [AObj.muts])
  ·rw[c9 (fun h=>e h.symm)] at hx;exact ⟨j,x,hx,hm⟩
 have mL: ∀ (j:Nat) (x:AObj),(σ.heap.set l .dead)[j]? =some x→(j=l∧x= .dead)∨(j≠l∧σ.heap[j]? =some x):=by
  intro j x hx
  by_cases e:j=l
  ·subst e;rw[dj hlt] at hx;cases hx;exact .inl ⟨rfl,rfl⟩
  ·rw[c9 (fun h=>e h.symm)] at hx;exact .inr ⟨e,hx⟩
 have hlen: ∀j:Nat,lN (σ.heap.set l .dead)[j]? =lN σ.heap[j]? :=by
  intro j
  by_cases e:j=l
  ·subst e;rw[dj hlt,hl];rfl
  ·rw[c9 (fun h=>e h.symm)]
 have le:(C.env φ σ.heap w).Le σ.heap.length (C.env φ (σ.heap.set l .dead) w):=
  Ctx.Bi (by simp) (fun j _=>⟨rfl,hlen j⟩) (fun b o u hm hc=>⟨fun h=>hm (h.imp (hmutw b o) id),hc⟩)
 have hbD:(AObj.loop k slots st sk).block (φ l) D:=by rw[hφ];exact .inr rfl
 have Ch:rB C φ (σ.heap.set l .dead) w σ.df (⟨.collected D,#[]⟩::a.defers):=by
  obtain ⟨hnd,hall,hrd⟩:=S.defers
  have hmk:VX (⟨.collected D,#[]⟩:Deferred)=true:=rfl
  refine ⟨?_,fun d hd hm=> ?_,?_⟩
  ·simp only[eN,hmk,if_true]
   refine List.nodup_cons.2 ⟨fun hm=> ?_,hnd⟩
   obtain ⟨D',e,_,_,h4⟩:=hall _ (dX.1 hm).1 rfl
   simp only[Deferred.mk.injEq,Target.collected.injEq,and_true] at e
   subst e
   exact h4 l _ hl hbD
  ·rcases cW.1 hd with rfl|hd
   ·refine ⟨D,rfl,?_,hD,fun j x hx hb=> ?_⟩
    ·obtain ⟨D',Sf,e1,g1,g2,_⟩:=S.objs l _ hl
     rw[hφ] at e1
     simp only[Value.func.injEq,Fn.yield.injEq,ec,and_true] at e1
     subst e1;exact g2
    ·rcases mL j x hx with ⟨rfl,rfl⟩|⟨hne,hx⟩
     ·simp [AObj.block] at hb
     ·exact hne (S.apart j l x _ D hx hl hb hbD)
   ·obtain ⟨D',e,h2,h3,h4⟩:=hall d hd hm
    refine ⟨D',e,h2,h3,fun j x hx hb=> ?_⟩
    rcases mL j x hx with ⟨rfl,rfl⟩|⟨hne,hx⟩
    ·simp [AObj.block] at hb
    ·exact h4 j x hx hb
  ·simp only[eN,hmk,eF,dK,if_false]
   exact hrd.mono le
 refine {slots:=k6.mono le _ _ (k6.nb _ _ S.slots) S.slots,defers:=Ch,objs:= ?_,apart:= ?_,s6:= ?_,size:=S.size,old:=S.old,ni:=S.ni,C5:= ?_,vT:=S.vT,rest:=S.rest,low:=⟨S.low.1,by simpa using S.low.2⟩,names:= ?_}
 ·intro j x hx
  rcases mL j x hx with ⟨rfl,rfl⟩|⟨_,hx⟩
  ·trivial
  ·exact nk.mono (S.objs j x hx) le (fun _ _=>rfl)
 ·intro j j' x x' b hx hx' hb hb'
  rcases mL j x hx with ⟨rfl,rfl⟩|⟨_,hx⟩
  ·simp [AObj.block] at hb
  ·rcases mL j' x' hx' with ⟨rfl,rfl⟩|⟨_,hx'⟩
   ·simp [AObj.block] at hb'
   ·exact S.apart j j' x x' b hx hx' hb hb'
 ·intro j x b o hx hb
  rcases mL j x hx with ⟨rfl,rfl⟩|⟨_,hx⟩
  ·simp [AObj.block] at hb
  ·exact S.s6 j x b o hx hb
 ·intro j x b o hx hm hb
  rcases mL j x hx with ⟨rfl,rfl⟩|⟨_,hx⟩
  ·simp [AObj.muts] at hm
  ·exact S.C5 j x b o hx hm hb
 ·intro j hj
  have:=S.names j hj
  rw[hlen j];exact this
def jumpQ (Q:mX→AState→Prop) (σ:AState):Option Code→Prop
 |none=>Q .normal σ
 |some .ret=>Q .ret σ
 |some (.exit id)=>Q (.exit id) σ
 |_=>False
theorem rangeA_call {P:Program} {g:Operand} {ps:Array Tmp} {as body:Code} {js:List (Int×Code)} {Q:mX→AState→Prop} {σ:AState} {f:FuncId} {first cap:List AV} (hg:σ.ev g= .func (.func f) first cap)
 (ya:yO P f (first++[.map σ.heap.length]++cap) {σ with slots:=σ.slots++[.map σ.heap.length],heap:=σ.heap++[.loop ⟨ps,as,body,js⟩ σ.slots .ready 0]}
   (fun o H'=> ∃r k s sk,o= .ret r∧H'[σ.heap.length]? =some (.loop k s (stP (oP k.js sk)) sk)∧jumpQ Q {σ with heap:=H'.set σ.heap.length .dead} (oP k.js sk))):RangeA P g ps as body Q σ:=by
 intro C φ a w hP S
 subst hP
 refine wpIn_rangeFunc ?_
 intro fn _
 have hx:=S.ev g
 rw[hg] at hx
 obtain ⟨f',c',hx,rf,rc⟩:=hx
 let lp:Loop:={state:= .ready,pending:=none,fn,tmps:=a.tmps,params:=ps,assign:=as,body,defers:=w.heap.size}
 let w1:=(w.alloc (.deferred (some []))).alloc (.loop lp)
 let Y:Value:= .func (.yield (w.heap.size+1)) #[] #[]
 have S1:=S.nameLoop ⟨ps,as,body,js⟩ lp S.slots ⟨rfl,rfl,rfl,rfl,rfl,rfl⟩
 have rY:nO (C.env (fun l=>if l=σ.heap.length then Y else φ l) (σ.heap++[.loop ⟨ps,as,body,js⟩ σ.slots .ready 0]) w1) (.map σ.heap.length) Y:=by
  refine ⟨by simp [Ctx.env],by simp [Ctx.env,Y],w.heap.size+1,?_⟩
  simp [Ctx.env,Y,hdl]
 have S2:mA C (fun l=>if l=σ.heap.length then Y else φ l) {σ with slots:=σ.slots++[.map σ.heap.length],heap:=σ.heap++[.loop ⟨ps,as,body,js⟩ σ.slots .ready 0]} {a with tmps:=a.tmps.push Y} w1:=by
  refine {S1 with slots:= ?_,defers:=S1.defers}
  simp only[eJ]
  exact S1.slots.append ⟨Y,[],rfl,rY,rfl⟩
 have hle:(C.env φ σ.heap w).Le σ.heap.length (C.env (fun l=>if l=σ.heap.length then Y else φ l) (σ.heap++[.loop ⟨ps,as,body,js⟩ σ.slots .ready 0]) w1):=by
  refine Ctx.Bi (by simp) (fun l hl=>⟨by rw[if_neg (by omega)],by rw[cQ hl]⟩) (fun b i u hm hc=> ?_)
  have hb:=F7 hc
  have hold:w1.heap[b]? =w.heap[b]? :=by
   show (World.more (World.more w _) _).heap[b]? =_
   rw[sN _ _ (by simp [World.more];omega),sN _ _ hb]
  refine ⟨fun h=> ?_,by simp only[World.cell?,hold];exact hc⟩
  rcases h with ⟨l,x,hx,hm'⟩|h
  ·by_cases hl:l<σ.heap.length
   ·rw[cQ hl] at hx
    have hm':x.muts (if l=σ.heap.length then Y else φ l) b i:=hm'
    rw[if_neg (by omega)] at hm'
    exact hm (.inl ⟨l,x,hx,hm'⟩)
   ·have hl':l=σ.heap.length:=by
     have:=(cO.1 hx).1
     simp at this;omega
    subst hl'
    simp at hx;subst hx
    have hm':(AObj.loop ⟨ps,as,body,js⟩ σ.slots .ready 0).muts (if σ.heap.length=σ.heap.length then Y else φ σ.heap.length) b i:=hm'
    rw[if_pos rfl] at hm'
    rcases hm' with rfl|h<;>omega
  ·exact hm (.inr h)
 have hargs:k6 (C.env (fun l=>if l=σ.heap.length then Y else φ l) (σ.heap++[.loop ⟨ps,as,body,js⟩ σ.slots .ready 0]) w1) (first++[.map σ.heap.length]++cap) (f'++ #[Y]++c').toList:=by
  have hY:k6 (C.env (fun l=>if l=σ.heap.length then Y else φ l) (σ.heap++[.loop ⟨ps,as,body,js⟩ σ.slots .ready 0]) w1) [.map σ.heap.length] [Y]:=⟨Y,[],rfl,rY,rfl⟩
  simp only[eZ]
  exact ((k6.mono hle _ _ (k6.nb _ _ rf) rf).append hY).append (k6.mono hle _ _ (k6.nb _ _ rc) rc)
 obtain ⟨he,hc⟩:=ya
 have hbody: ∃fnc,C.P.funcs[f]? =some fnc∧fnc.name≠ "runtime.NumGoroutine" ∧fnc.body≠none:=by
  unfold enters at he
  split at he
  ·rename_i fnc hf
   simp only[cM,bne_iff_ne,ne_eq] at he
   exact ⟨fnc,hf,he.2,fun hb=>by simp [hb] at he⟩
  ·cases he
 obtain ⟨fnc,hf,hname,hnone⟩:=hbody
 refine ⟨w.heap.size+1,[⟨.collected w.heap.size,#[]⟩],w1,{target:= .fn (.func f) c',args:=f'++ #[Y]},w1,f,f'++ #[Y]++c',w1,?_,?_,fun _ _=>trivial,?_,fun h=>by simp [Hq,eo] at h,?_⟩
 ·exact run_enterLoop_outer _ _ _ _ _
 ·have Ho:a.eval g= .func (.func f) f' c':=hx
  have hY2:a.eval (.const Y)=Y:=rfl
  simp [resolve,Ho,Deferred.ofValue]
  rfl
 ·simp [invoke,callFunc,hf,hname,hnone]
 ·refine J8.2 ((hc C _ _ w1 rfl S2 _ hargs).mono ?_)
  rintro e w' ⟨o,φ2,H',⟨r,k,s,sk,rfl,hH,hj⟩,S3,rR⟩
  cases e with
  |panicked chain=>exact rR.elim
  |outgrown=>exact rR.elim
  |returned v=>
   have hlast:φ2 σ.heap.length=Y:=by
    have UD:=S3.slots
    have hlen:a.tmps.toList.length=σ.slots.length:=S.slots.length
    have:=UD.drop σ.slots.length
    simp only[eJ] at this
    rw[ez rfl,ez hlen] at this
    obtain ⟨u,us,he2,r1,_⟩:=this
    simp only[dU] at he2
    obtain ⟨rfl,_⟩:=he2
    exact r1.2.1.symm
   have S4:mA C φ2 {σ with heap:=H'} a w':=by
    have UD:=S3.slots
    have hlen:a.tmps.toList.length=σ.slots.length:=S.slots.length
    have:=UD.take σ.slots.length
    simp only[eJ] at this
    rw[ey rfl,ey hlen] at this
    exact {S3 with slots:=this,defers:=S3.defers}
   obtain ⟨D,Sf,e1,g1,g2,g3,_⟩:=S4.objs _ _ hH
   rw[hlast] at e1
   simp only[Y,Value.func.injEq,Fn.yield.injEq,ec,and_true] at e1
   subst e1
   have g1:w'.heap[w.heap.size+1]? =some (.loop Sf):=g1
   have hend:=run_endLoop (P:=C.P) g1 (by rw[g3.2.2.2.1];exact stP_not_busy _)
   rw[g3.2.2.2.2.1] at hend
   refine ⟨oP k.js sk,_,hend,?_⟩
   have S5:mA C φ2 {σ with heap:=H'.set σ.heap.length .dead} {a with defers:=⟨.collected w.heap.size,#[]⟩::a.defers} (w'.putObj (w.heap.size+1) (.loop {Sf with state:= .exhausted,pending:=oP k.js sk})):=by
    have h5:=S4.setLoop (st':= .exhausted) (Ka:=sk) hH hlast g1
    have h6:=h5.endLoop (l:=σ.heap.length) (D:=w.heap.size) (k:=k) (slots:=s) (st:= .exhausted) (sk:=sk) (by
     show (H'.set σ.heap.length _)[σ.heap.length]? =_
     rw[dj (cO.1 hH).1]) hlast S.size
    have e1:({σ with heap:=(H'.set σ.heap.length (.loop k s .exhausted sk)).set σ.heap.length .dead}:AState)={σ with heap:=H'.set σ.heap.length .dead}:=by
     rw[List.set_set]
    exact e1 ▸ h6
   generalize oP k.js sk=pc at*
   cases pc with
   |none=>exact ⟨φ2,_,S5,hj⟩
   |some c=>
    cases c with
    |ret=>exact wpIn_ret ⟨φ2,_,S5,hj⟩
    |exit id=>exact wpIn_exit ⟨φ2,_,S5,hj⟩
    |_=>exact hj.elim
end
end Go.Abs
namespace Go.Abs
inductive CO where
 |ret (e:u7)
 |pan (x:AV) (H:List AObj)
structure lF (R:Type) where
 P:Program
 body:Code
 cl:FuncId→List AV→List AObj→Option (AV×List AObj)
 cd:FuncId→List AV→Option AV
 wU:List Nat→AState→Option AState
 cut:List Nat→AState→Option AState
 n:Nat
 out:AState→Option R
 cy:Nat→List AV→List AObj→Option (AV×List AObj):=fun _ _ _=>none
 qT:mX→AState→Option R:=fun _ _=>none
 js:List Nat→List (Int×Code):=fun _=>[]
 AY:FuncId→Bool:=fun _=>false
 ce:FuncId→List AV→List AObj→Option u7:=fun _ _ _=>none
 Ab:FuncId→Bool:=fun _=>false
 cp:FuncId→List AV→List AObj→Option (ud×List AObj):=fun _ _ _=>none
 AZ:FuncId→Bool:=fun _=>false
 co:FuncId→List AV→List AObj→Option CO:=fun _ _ _=>none
 pJ:AV→AState→Option R:=fun _ _=>none
noncomputable def pcond {R:Type} (p:Prop) (x:Option R):Option R:= @ite _ p (Classical.propDecidable p) x none
theorem lV {R:Type} {p:Prop} {x:Option R} {r:R}:pcond p x=some r↔p∧x=some r:=by
 unfold pcond
 split
 ·rename_i h;simp [h]
 ·rename_i h;simp [h]
theorem pcond_true {R:Type} {x:Option R}:pcond True x=x:=by simp [pcond]
theorem O9 {R:Type} {p q:Prop} {x:Option R}:pcond (p∧q) x=pcond p (pcond q x):=by
 unfold pcond
 by_cases hp:p<;>by_cases hq:q<;>simp [hp,hq]
theorem WX {R:Type} {p:Prop} [Decidable p] {x:Option R}:pcond p x=bif decide p then x else none:=by
 unfold pcond
 by_cases hp:p<;>simp [hp]
def YW (x:Operand) (b:Bool) (σ:AState):AState:=
 match x with
 | .tmp t=>{σ with slots:=σ.slots.set t (.bool b)}
 |_=>σ
theorem setB_eq {x:Operand} {b:Bool} {σ:AState} (h:σ.ev x= .bool b):YW x b σ=σ:=by
 cases x with
 |tmp t=>
  simp only[AState.ev,List.getD] at h
  cases hg:σ.slots[t]? with
  |none=>rw[hg] at h;simp at h
  |some v=>
   rw[hg] at h
   simp only[eu] at h
   subst h
   obtain ⟨hlt,he⟩:=cO.1 hg
   simp only[YW]
   rw[←he,eU]
 |_=>rfl
def rC (ops:Array Oper) (o:Oper) (b:Bool) (σ:AState):AState:=
 match o.guard with
 |none=>σ
 |some (j,want)=>match (ops[j]?).bind (·.dst) with
  |some d=>match σ.slots[d]? with
   |some (.bool _)=>{σ with slots:=σ.slots.set d (.bool (b==want))}
   |_=>σ
  |none=>σ
theorem gset_eq {ops:Array Oper} {o:Oper} {b:Bool} {σ:AState} (h:oR ops o σ=some b):rC ops o b σ=σ:=by
 unfold oR at h
 unfold rC
 split
 ·rfl
 ·rename_i j want hg
  simp only[hg] at h
  split
  ·rename_i d hd
   simp only[hd] at h
   split
   ·rename_i c hc
    simp only[hc,cK] at h
    have:(b==want)=c:=by subst h;cases c<;>cases want<;>rfl
    rw[this]
    obtain ⟨hlt,he⟩:=cO.1 hc
    rw[←he,eU]
   ·rfl
  ·rfl
section
variable {R:Type}
noncomputable def tT (M:lF R) (ops:Array Oper):List Oper→AState→Option (mX×AState)
 |[],σ=>some (.normal,σ)
 |o::rest,σ=>match oR ops o σ with
  |none=>none
  |some b=>bif b then (match mN (rC ops o true σ) o.op with
    |some (f,args)=>bif M.Ab f then (match M.cp f args (rC ops o true σ).heap with
      |some (.ret r,H')=>tT M ops rest (AState.put {rC ops o true σ with heap:=H'} o.dst r)
      |some (.panic x,H')=>some (.panic x,{rC ops o true σ with heap:=H'})
      |none=>none)
     else match M.cl f args (rC ops o true σ).heap with
     |some (r,H')=>tT M ops rest (AState.put {rC ops o true σ with heap:=H'} o.dst r)
     |none=>none
    |none=>match yieldOf (rC ops o true σ) o.op with
     |some (l,args)=>match M.cy l args (rC ops o true σ).heap with
      |some (r,H')=>tT M ops rest (AState.put {rC ops o true σ with heap:=H'} o.dst r)
      |none=>none
     |none=>match lA M.P (rC ops o true σ) o.op with
      |some e=>pcond e.pre (tT M ops rest ((rC ops o true σ).app o.dst e))
      |none=>match Ck (rC ops o true σ) o.op with
       |some p=>tT M ops rest ((rC ops o true σ).dfr p o.dst)
       |none=>match Lw (rC ops o true σ) o.op with
        |some x=>some (.panic x,rC ops o true σ)
        |none=>none)
   else tT M ops rest ((rC ops o false σ).put o.dst (.raw undef))
noncomputable def Hs (M:lF R) (ops:Array Oper):List Oper→Nat→List Tr→AState→Option (mX×AState)
 |[],_,_,σ=>some (.normal,σ)
 |o::rest,j,tr,σ=>match oR ops o σ with
  |none=>none
  |some b=>bif b then (match mN (rC ops o true σ) o.op with
    |some (f,args)=>bif M.AZ f then (match M.co f args (rC ops o true σ).heap with
      |some (.ret e)=>pcond (e.pre∧Dw ops tr j e) (Hs M ops rest (j+1) (Gn tr j (rC ops o true σ).heap.length e) ((rC ops o true σ).app o.dst e))
      |some (.pan x H')=>pcond (La tr=true∧NC M.P ops j rest (j+1) ((rC ops o true σ).put o.dst (.raw undef))) (some (.panic x,{rC ops o true σ with slots:=Vz ops (rC ops o true σ).slots,heap:=H'}))
      |none=>none)
     else bif M.AY f then (match M.ce f args (rC ops o true σ).heap with
      |some e=>pcond (e.pre∧Dw ops tr j e) (Hs M ops rest (j+1) (Gn tr j (rC ops o true σ).heap.length e) ((rC ops o true σ).app o.dst e))
      |none=>none)
     else match M.cd f args with
     |some r=>Hs M ops rest (j+1) tr ((rC ops o true σ).put o.dst r)
     |none=>none
    |none=>match lA M.P (rC ops o true σ) o.op with
     |some e=>pcond (e.pre∧Dw ops tr j e) (Hs M ops rest (j+1) (Gn tr j (rC ops o true σ).heap.length e) ((rC ops o true σ).app o.dst e))
     |none=>none)
   else Hs M ops rest (j+1) tr ((rC ops o false σ).put o.dst (.raw undef))
def lqN (wU:AState→Option AState) (body:AState→Option (mX×AState)):Nat→AState→Option (mX×AState)
 |0,_=>none
 |m+1,σ=>match body σ with
  |some (.normal,σ')=>(wU σ').bind (lqN wU body m)
  |r=>r
def jumpX (σ:AState):Option Code→Option (mX×AState)
 |none=>some (.normal,σ)
 |some .ret=>some (.ret,σ)
 |some (.exit id)=>some (.exit id,σ)
 |_=>none
noncomputable def endX (σ:AState) (H':List AObj):Option AObj→Option (mX×AState)
 |some (.loop lk _ st sk)=>pcond (st=stP (oP lk.js sk)) (jumpX {σ with heap:=H'.set σ.heap.length .dead} (oP lk.js sk))
 |_=>none
noncomputable def rngX (M:lF R) (lk:wQ) (σ:AState):AV→Option (mX×AState)
 | .func (.func f) first cap=>match M.cl f (first++[.map σ.heap.length]++cap) (σ.heap++[.loop lk σ.slots .ready 0]) with
   |some (_,H')=>endX σ H' H'[σ.heap.length]?
   |none=>none
 |_=>none
noncomputable def exec (M:lF R):Code→List Nat→AState→Option (mX×AState)
 | .skip,_,σ=>some (.normal,σ)
 | .region _ ops false,_,σ=>tT M ops ops.toList σ
 | .region _ ops true,_,σ=>pcond (M.P.follows .mixedOrders=true∧Gl ops=true) (Hs M ops ops.toList 0 [] σ)
 | .seq x y,p,σ=>match exec M x (0::p) σ with
   |some (.normal,σ')=>(M.cut (1::p) σ').bind (exec M y (1::p))
   |r=>r
 | .cond c x y,p,σ=>match σ.ev c with
   | .bool b=>bif b then exec M x (0::p) (YW c true σ) else exec M y (1::p) (YW c false σ)
   |_=>none
 | .block id x,p,σ=>match exec M x (0::p) σ with
   |some (.exit id',σ')=>if id'=id then some (.normal,σ') else some (.exit id',σ')
   |r=>r
 | .loop x,p,σ=>(M.wU p σ).bind (lqN (M.wU p) (exec M x (0::p)) M.n)
 | .exit id,_,σ=>some (.exit id,σ)
 | .scope x,p,σ=>exec M x (0::p) σ
 | .label _,_,σ=>some (.normal,σ)
 | .ret,_,σ=>some (.ret,σ)
 | .goto _,_,_=>none
 | .rangeFunc g ps as body,p,σ=>rngX M ⟨ps,as,body,M.js p⟩ σ (σ.ev g)
 | .refuse _,_,_=>none
structure Good (M:lF R):Prop where
 cl: ∀f args σ r H',M.cl f args σ.heap=some (r,H')→yO M.P f args σ (fun o C6=>o= .ret r∧C6=H')
 cd: ∀f args r,M.cd f args=some r→yP M.P f args (fun v=>v=r)
 wU: ∀p σ σ',M.wU p σ=some σ'→Gk σ σ'
 cut: ∀p σ σ',M.cut p σ=some σ'→Gk σ σ'
 cy: ∀l args σ r H',M.cy l args σ.heap=some (r,H')→JD M.P l args σ (fun o C6=>o= .ret r∧C6=H')
 ce: ∀f args σ e,M.ce f args σ.heap=some e→DU M.P f args σ e
 cp: ∀f args σ o H',M.cp f args σ.heap=some (o,H')→yO M.P f args σ (fun o' C6=>o'=o∧C6=H')
 co: ∀f args σ,(∀e,M.co f args σ.heap=some (.ret e)→DU M.P f args σ e)∧ ∀x H',M.co f args σ.heap=some (.pan x H')→PanC M.P f args σ.heap x H'
theorem yz {P:Program}: ∀ (f:FuncId) (args:List AV) (σ:AState) (o:ud) (H':List AObj),(fun _ _ _=>none:FuncId→List AV→List AObj→Option (ud×List AObj)) f args σ.heap=some (o,H')→yO P f args σ (fun o' C6=>o'=o∧C6=H'):=by
 intro f args σ o H' h;cases h
theorem xZ {P:Program}: ∀ (f:FuncId) (args:List AV) (σ:AState),(∀e,(fun _ _ _=>none:FuncId→List AV→List AObj→Option CO) f args σ.heap=some (.ret e)→DU P f args σ e)∧ ∀x H',(fun _ _ _=>none:FuncId→List AV→List AObj→Option CO) f args σ.heap=some (.pan x H')→PanC P f args σ.heap x H':=by
 intro f args σ
 exact ⟨fun e h=>(by cases h),fun x H' h=>(by cases h)⟩
theorem yO.mono {P:Program} {f:FuncId} {args:List AV} {σ:AState} {K K':ud→List AObj→Prop} (h:yO P f args σ K) (hk: ∀o H,K o H→K' o H):yO P f args σ K':=by
 obtain ⟨he,hc⟩:=h
 refine ⟨he,fun C φ a w hP S vs hr=>(hc C φ a w hP S vs hr).mono ?_⟩
 rintro e w' ⟨o,φ',H',h1,h2⟩
 exact ⟨o,φ',H',hk _ _ h1,h2⟩
theorem JD.mono {P:Program} {l:Nat} {args:List AV} {σ:AState} {K K':ud→List AObj→Prop} (h:JD P l args σ K) (hk: ∀o H,K o H→K' o H):JD P l args σ K':=by
 obtain ⟨he,hc⟩:=h
 refine ⟨he,fun C φ a w hP S vs hr D rec h1 h2=>(hc C φ a w hP S vs hr D rec h1 h2).mono ?_⟩
 rintro e w' ⟨o,φ',H',h1,h2⟩
 exact ⟨o,φ',H',hk _ _ h1,h2⟩
theorem wh {P:Program}: ∀ (l:Nat) (args:List AV) (σ:AState) (r:AV) (H':List AObj),(fun _ _ _=>none:Nat→List AV→List AObj→Option (AV×List AObj)) l args σ.heap=some (r,H')→JD P l args σ (fun o C6=>o= .ret r∧C6=H'):=by
 intro l args σ r H' h;cases h
theorem AA {M:lF R} (G:Good M) {ops:Array Oper} {Q:mX→AState→Prop}: ∀ (rest:List Oper) (σ σ':AState) (e:mX),tT M ops rest σ=some (e,σ')→Q e σ'→N5 M.P ops rest Q σ
 |[],σ,σ',e,h,hq=>by simp only[tT,cK,cN] at h;obtain ⟨rfl,rfl⟩:=h;exact hq
 |o::rest,σ,σ',en,h,hq=>by
  simp only[tT] at h
  simp only[N5]
  cases hw:oR ops o σ with
  |none=>simp only[hw] at h;cases h
  |some b=>
   simp only[hw] at h
   have hg:=gset_eq hw
   cases b with
   |false=>
    refine ⟨fun h=>(by cases h),fun _=> ?_⟩
    simp only[cond_false,hg] at h
    exact AA G rest _ σ' _ h hq
   |true=>
    refine ⟨fun _=> ?_,fun h=>by cases h⟩
    simp only[cond_true,hg] at h
    cases hc:mN σ o.op with
    |some p=>
     obtain ⟨f,args⟩:=p
     simp only[hc] at h ⊢
     cases hi:M.Ab f with
     |true=>
      simp only[hi,cond_true] at h
      cases ha:M.cp f args σ.heap with
      |none=>simp only[ha] at h;cases h
      |some q=>
       obtain ⟨r,H'⟩:=q
       refine (G.cp f args σ r H' ha).mono ?_
       cases r with
       |ret r=>
        simp only[ha] at h
        rintro o' C6 ⟨rfl,rfl⟩
        exact AA G rest _ σ' _ h hq
       |panic x=>
        simp only[ha,cK,cN] at h
        obtain ⟨rfl,rfl⟩:=h
        rintro o' C6 ⟨rfl,rfl⟩
        exact hq
     |false=>
      simp only[hi,cond_false] at h
      cases ha:M.cl f args σ.heap with
      |none=>simp only[ha] at h;cases h
      |some q=>
       obtain ⟨r,H'⟩:=q
       simp only[ha] at h
       refine (G.cl f args σ r H' ha).mono ?_
       rintro o' C6 ⟨rfl,rfl⟩
       exact AA G rest _ σ' _ h hq
    |none=>
     simp only[hc] at h ⊢
     cases hy:yieldOf σ o.op with
     |some p=>
      obtain ⟨l,args⟩:=p
      simp only[hy] at h ⊢
      cases ha:M.cy l args σ.heap with
      |none=>simp only[ha] at h;cases h
      |some q=>
       obtain ⟨r,H'⟩:=q
       simp only[ha] at h
       refine (G.cy l args σ r H' ha).mono ?_
       rintro o' C6 ⟨rfl,rfl⟩
       exact AA G rest _ σ' _ h hq
     |none=>
      simp only[hy] at h ⊢
      cases he:lA M.P σ o.op with
      |none=>
       simp only[he] at h ⊢
       cases hd:Ck σ o.op with
       |some p=>
        simp only[hd] at h ⊢
        exact AA G rest _ σ' _ h hq
       |none=>
        simp only[hd] at h ⊢
        cases hp:Lw σ o.op with
        |some x=>
         simp only[hp,cK,cN] at h ⊢
         obtain ⟨rfl,rfl⟩:=h
         exact hq
        |none=>simp only[hp] at h;cases h
      |some e=>
       simp only[he] at h
       rw[lV] at h
       exact ⟨h.1,AA G rest _ σ' _ h.2 hq⟩
theorem GH {M:lF R} (G:Good M) {ops:Array Oper} {Q:mX→AState→Prop}: ∀ (rest:List Oper) (j:Nat) (tr:List Tr) (σ σ':AState) (e:mX),Hs M ops rest j tr σ=some (e,σ')→Q e σ'→V9 M.P ops Q rest j tr σ
 |[],_,_,σ,σ',e,h,hq=>by simp only[Hs,cK,cN] at h;obtain ⟨rfl,rfl⟩:=h;exact hq
 |o::rest,j,tr,σ,σ',en,h,hq=>by
  simp only[Hs] at h
  simp only[V9]
  cases hw:oR ops o σ with
  |none=>simp only[hw] at h;cases h
  |some b=>
   simp only[hw] at h
   have hg:=gset_eq hw
   cases b with
   |false=>
    refine ⟨fun h=>(by cases h),fun _=> ?_⟩
    simp only[cond_false,hg] at h
    exact GH G rest _ _ _ σ' _ h hq
   |true=>
    refine ⟨fun _=> ?_,fun h=>(by cases h)⟩
    simp only[cond_true,hg] at h
    cases hc:mN σ o.op with
    |some p=>
     obtain ⟨f,args⟩:=p
     simp only[hc] at h ⊢
     cases hic:M.AZ f with
     |true=>
      simp only[hic,cond_true] at h
      cases ha:M.co f args σ.heap with
      |none=>simp only[ha] at h;cases h
      |some q=>
       cases q with
       |ret e=>
        simp only[ha] at h
        rw[lV] at h
        exact .inr (.inl ⟨e,(G.co f args σ).1 e ha,h.1.2,GH G rest _ _ _ σ' _ h.2 hq⟩)
       |pan x H'=>
        simp only[ha] at h
        rw[lV] at h
        obtain ⟨⟨h1,h2⟩,h⟩:=h
        simp only[cK,cN] at h
        obtain ⟨rfl,rfl⟩:=h
        exact .inr (.inr ⟨x,H',(G.co f args σ).2 x H' ha,h1,h2,hq⟩)
     |false=>
     simp only[hic,cond_false] at h
     cases hi:M.AY f with
     |true=>
      simp only[hi,cond_true] at h
      cases ha:M.ce f args σ.heap with
      |none=>simp only[ha] at h;cases h
      |some e=>
       simp only[ha] at h
       rw[lV] at h
       exact .inr (.inl ⟨e,G.ce f args σ e ha,h.1.2,GH G rest _ _ _ σ' _ h.2 hq⟩)
     |false=>
     simp only[hi,cond_false] at h
     cases ha:M.cd f args with
     |none=>simp only[ha] at h;cases h
     |some r=>
      simp only[ha] at h
      exact .inl ⟨r,G.cd f args r ha,GH G rest _ _ _ σ' _ h hq⟩
    |none=>
     simp only[hc] at h ⊢
     cases he:lA M.P σ o.op with
     |none=>simp only[he] at h;cases h
     |some e=>
      simp only[he] at h
      rw[lV] at h
      exact ⟨h.1.1,h.1.2,GH G rest _ _ _ σ' _ h.2 hq⟩
theorem YX {wU:AState→Option AState} {body:AState→Option (mX×AState)} (hb: ∀σ l σ',body σ≠some (.goto l,σ')): ∀ (m:Nat) (σ:AState) (l:Nat) (σ':AState),lqN wU body m σ≠some (.goto l,σ')
 |0,_,_,_=>by simp [lqN]
 |m+1,σ,l,σ'=>by
  intro h
  simp only[lqN] at h
  cases hx:body σ with
  |none=>simp only[hx] at h;cases h
  |some r=>
   obtain ⟨e1,σ1⟩:=r
   cases e1 with
   |normal=>
    simp only[hx] at h
    cases hn:wU σ1 with
    |none=>simp only[hn,dG] at h;cases h
    |some σ2=>simp only[hn,dH] at h;exact YX hb m σ2 l σ' h
   |goto l'=>exact hb _ _ _ hx
   |_=>simp only[hx,cK,cN,reduceCtorEq,false_and] at h
theorem execOps_no {M:lF R} {ops:Array Oper}: ∀ (rest:List Oper) (σ:AState) (l:Nat) (σ':AState),tT M ops rest σ≠some (.goto l,σ'):=by
 intro rest
 induction rest with
 |nil=>intro σ l σ' h;simp [tT] at h
 |cons o rest ih=>
  intro σ l σ' h
  simp only[tT] at h
  split at h
  ·cases h
  ·rename_i b _
   cases b with
   |false=>simp only[cond_false] at h;exact ih _ _ _ h
   |true=>
    simp only[cond_true] at h
    split at h
    ·rename_i f args _
     cases hi:M.Ab f with
     |true=>
      simp only[hi,cond_true] at h
      split at h
      ·exact ih _ _ _ h
      ·simp at h
      ·cases h
     |false=>
      simp only[hi,cond_false] at h
      split at h
      ·exact ih _ _ _ h
      ·cases h
    ·split at h
     ·split at h
      ·exact ih _ _ _ h
      ·cases h
     ·split at h
      ·rw[lV] at h;exact ih _ _ _ h.2
      ·split at h
       ·exact ih _ _ _ h
       ·split at h
        ·simp at h
        ·cases h
theorem execD_no {M:lF R} {ops:Array Oper}: ∀ (rest:List Oper) (j:Nat) (tr:List Tr) (σ:AState) (l:Nat) (σ':AState),Hs M ops rest j tr σ≠some (.goto l,σ'):=by
 intro rest
 induction rest with
 |nil=>intro j tr σ l σ' h;simp [Hs] at h
 |cons o rest ih=>
  intro j tr σ l σ' h
  simp only[Hs] at h
  split at h
  ·cases h
  ·rename_i b _
   cases b with
   |false=>simp only[cond_false] at h;exact ih _ _ _ _ _ h
   |true=>
    simp only[cond_true] at h
    split at h
    ·rename_i f args _
     cases hi:M.AZ f with
     |true=>
      simp only[hi,cond_true] at h
      split at h
      ·rw[lV] at h;exact ih _ _ _ _ _ h.2
      ·rw[lV] at h;simp at h
      ·cases h
     |false=>
      simp only[hi,cond_false] at h
      cases hi2:M.AY f with
      |true=>
       simp only[hi2,cond_true] at h
       split at h
       ·rw[lV] at h;exact ih _ _ _ _ _ h.2
       ·cases h
      |false=>
       simp only[hi2,cond_false] at h
       split at h
       ·exact ih _ _ _ _ _ h
       ·cases h
    ·split at h
     ·rw[lV] at h;exact ih _ _ _ _ _ h.2
     ·cases h
theorem jumpX_no {σ:AState} {c:Option Code} {l:Nat} {σ':AState}:jumpX σ c≠some (.goto l,σ'):=by
 intro h
 unfold jumpX at h
 split at h<;>simp at h
theorem rngX_no {M:lF R} {lk:wQ} {σ:AState} {v:AV} {l:Nat} {σ':AState}:rngX M lk σ v≠some (.goto l,σ'):=by
 intro h
 unfold rngX at h
 split at h
 ·split at h
  ·unfold endX at h
   split at h
   ·rw[lV] at h;exact jumpX_no h.2
   ·cases h
  ·cases h
 ·cases h
theorem ND (M:lF R): ∀ (c:Code) (p:List Nat) (σ:AState) (l:Nat) (σ':AState),exec M c p σ≠some (.goto l,σ')
 | .skip,_,_,_,_=>by simp [exec]
 | .label _,_,_,_,_=>by simp [exec]
 | .ret,_,_,_,_=>by simp [exec]
 | .exit id,_,_,_,_=>by simp [exec]
 | .region _ ops false,_,_,_,_=>by simp only[exec];exact execOps_no _ _ _ _
 | .region _ ops true,_,_,_,_=>by
   intro h
   simp only[exec] at h
   rw[lV] at h
   exact execD_no _ _ _ _ _ _ h.2
 | .seq x y,p,σ,l,σ'=>by
   intro h
   simp only[exec] at h
   cases hx:exec M x (0::p) σ with
   |none=>simp only[hx] at h;cases h
   |some r=>
    obtain ⟨e1,σ1⟩:=r
    cases e1 with
    |normal=>
     simp only[hx] at h
     cases hc:M.cut (1::p) σ1 with
     |none=>simp only[hc,dG] at h;cases h
     |some σ2=>simp only[hc,dH] at h;exact ND M y _ _ _ _ h
    |goto l'=>exact ND M x _ _ _ _ hx
    |_=>simp only[hx,cK,cN,reduceCtorEq,false_and] at h
 | .cond c x y,p,σ,l,σ'=>by
   intro h
   simp only[exec] at h
   cases hv:σ.ev c with
   |bool b=>
    simp only[hv] at h
    cases b with
    |true=>exact ND M x _ _ _ _ h
    |false=>exact ND M y _ _ _ _ h
   |_=>simp only[hv] at h;cases h
 | .block id x,p,σ,l,σ'=>by
   intro h
   simp only[exec] at h
   cases hx:exec M x (0::p) σ with
   |none=>simp only[hx] at h;cases h
   |some r=>
    obtain ⟨e1,σ1⟩:=r
    cases e1 with
    |exit id'=>
     simp only[hx] at h
     split at h<;>simp at h
    |goto l'=>exact ND M x _ _ _ _ hx
    |_=>simp only[hx,cK,cN,reduceCtorEq,false_and] at h
 | .loop x,p,σ,l,σ'=>by
   intro h
   simp only[exec] at h
   cases hn:M.wU p σ with
   |none=>simp only[hn,dG] at h;cases h
   |some σ1=>
    simp only[hn,dH] at h
    exact YX (fun _ _ _=>ND M x _ _ _ _) _ _ _ _ h
 | .scope x,p,σ,l,σ'=>by
   intro h
   simp only[exec] at h
   exact ND M x _ _ _ _ h
 | .goto _,_,_,_,_=>by simp [exec]
 | .rangeFunc g ps as body,_,_,_,_=>by simp only[exec];exact rngX_no
 | .refuse _,_,_,_,_=>by simp [exec]
theorem yX {M:lF R} (G:Good M): ∀ (c:Code) (p:List Nat) (Q:mX→AState→Prop) (σ:AState) (e:mX) (σ':AState),exec M c p σ=some (e,σ')→Q e σ'→XQ M.P c Q σ
 | .skip,_,Q,σ,e,σ',h,hq=>by simp only[exec,cK,cN] at h;obtain ⟨rfl,rfl⟩:=h;exact hq
 | .label _,_,Q,σ,e,σ',h,hq=>by simp only[exec,cK,cN] at h;obtain ⟨rfl,rfl⟩:=h;exact hq
 | .ret,_,Q,σ,e,σ',h,hq=>by simp only[exec,cK,cN] at h;obtain ⟨rfl,rfl⟩:=h;exact hq
 | .exit id,_,Q,σ,e,σ',h,hq=>by simp only[exec,cK,cN] at h;obtain ⟨rfl,rfl⟩:=h;exact hq
 | .region _ ops false,_,Q,σ,e,σ',h,hq=>by
   simp only[exec] at h
   exact AA G _ _ _ _ h hq
 | .region _ ops true,_,Q,σ,e,σ',h,hq=>by
   simp only[exec] at h
   rw[lV] at h
   obtain ⟨hp,h⟩:=h
   exact ⟨hp,GH G _ _ _ _ _ _ h hq⟩
 | .seq x y,p,Q,σ,e,σ',h,hq=>by
   simp only[exec] at h
   cases hx:exec M x (0::p) σ with
   |none=>simp only[hx] at h;cases h
   |some r=>
    obtain ⟨e1,σ1⟩:=r
    refine yX G x (0::p) _ σ e1 σ1 hx ?_
    cases e1 with
    |normal=>
     simp only[hx] at h
     cases hc:M.cut (1::p) σ1 with
     |none=>simp only[hc,dG] at h;cases h
     |some σ2=>
      simp only[hc,dH] at h
      exact ⟨σ2,G.cut _ _ _ hc,yX G y (1::p) Q σ2 e σ' h hq⟩
    |_=>
     simp only[hx,cK,cN] at h
     obtain ⟨rfl,rfl⟩:=h
     exact hq
 | .cond c x y,p,Q,σ,e,σ',h,hq=>by
   simp only[exec] at h
   simp only[XQ]
   cases hv:σ.ev c with
   |bool b=>
    simp only[hv] at h ⊢
    cases b with
    |true=>simp only[cond_true,setB_eq hv] at h;exact ⟨fun _=>yX G x (0::p) Q σ e σ' h hq,fun h=>(by cases h)⟩
    |false=>simp only[cond_false,setB_eq hv] at h;exact ⟨fun h=>(by cases h),fun _=>yX G y (1::p) Q σ e σ' h hq⟩
   |_=>simp only[hv] at h;cases h
 | .block id x,p,Q,σ,e,σ',h,hq=>by
   simp only[exec] at h
   cases hx:exec M x (0::p) σ with
   |none=>simp only[hx] at h;cases h
   |some r=>
    obtain ⟨e1,σ1⟩:=r
    refine yX G x (0::p) _ σ e1 σ1 hx ?_
    cases e1 with
    |exit id'=>
     simp only[hx] at h
     simp only[mX.inBlock]
     split at h
     ·rename_i he
      simp only[cK,cN] at h
      obtain ⟨rfl,rfl⟩:=h
      rw[if_pos he];exact hq
     ·rename_i he
      simp only[cK,cN] at h
      obtain ⟨rfl,rfl⟩:=h
      rw[if_neg he];exact hq
    |_=>
     simp only[hx,cK,cN] at h
     obtain ⟨rfl,rfl⟩:=h
     exact hq
 | .loop x,p,Q,σ,e,σ',h,hq=>by
   simp only[exec] at h
   cases hn:M.wU p σ with
   |none=>simp only[hn,dG] at h;cases h
   |some σ1=>
    simp only[hn,dH] at h
    refine ⟨fun m σ2=>lqN (M.wU p) (exec M x (0::p)) m σ2=some (e,σ'),M.n,σ1,G.wU _ _ _ hn,h,?_⟩
    intro m σ2 h2
    cases m with
    |zero=>simp only[lqN] at h2;cases h2
    |succ m=>
     simp only[lqN] at h2
     cases hx:exec M x (0::p) σ2 with
     |none=>simp only[hx] at h2;cases h2
     |some r=>
      obtain ⟨e1,σ3⟩:=r
      refine yX G x (0::p) _ σ2 e1 σ3 hx ?_
      cases e1 with
      |normal=>
       simp only[hx] at h2
       cases hn2:M.wU p σ3 with
       |none=>simp only[hn2,dG] at h2;cases h2
       |some σ4=>
        simp only[hn2,dH] at h2
        exact ⟨m,σ4,Nat.lt_succ_self _,G.wU _ _ _ hn2,h2⟩
      |_=>
       simp only[hx,cK,cN] at h2
       obtain ⟨rfl,rfl⟩:=h2
       exact hq
 | .scope x,p,Q,σ,e,σ',h,hq=>by
   simp only[exec] at h
   refine yX G x (0::p) _ σ e σ' h ?_
   cases e with
   |goto l=>exact absurd h (by
     intro h
     exact ND M x (0::p) σ _ _ h)
   |_=>exact hq
 | .goto _,_,_,_,_,_,h,_=>by simp only[exec] at h;cases h
 | .rangeFunc g ps as body,p,Q,σ,e,σ',h,hq=>by
   simp only[exec] at h
   simp only[XQ]
   unfold rngX at h
   split at h
   ·rename_i f first cap hv
    split at h
    ·rename_i r H' hc
     refine rangeA_call hv ((G.cl f _ {σ with slots:=σ.slots++[.map σ.heap.length],heap:=σ.heap++[.loop ⟨ps,as,body,M.js p⟩ σ.slots .ready 0]} r H' hc).mono ?_)
     rintro o' C6 ⟨rfl,rfl⟩
     unfold endX at h
     split at h
     ·rename_i k s st sk hH
      rw[lV] at h
      obtain ⟨hst,h⟩:=h
      subst hst
      refine ⟨r,k,s,sk,rfl,hH,?_⟩
      generalize oP k.js sk=pc at*
      unfold jumpX at h
      split at h
      ·simp only[cK,cN] at h;obtain ⟨rfl,rfl⟩:=h;exact hq
      ·simp only[cK,cN] at h;obtain ⟨rfl,rfl⟩:=h;exact hq
      ·simp only[cK,cN] at h;obtain ⟨rfl,rfl⟩:=h;exact hq
      ·cases h
     ·cases h
    ·cases h
   ·cases h
 | .refuse _,_,_,_,_,_,h,_=>by simp only[exec] at h;cases h
end
end Go.Abs
