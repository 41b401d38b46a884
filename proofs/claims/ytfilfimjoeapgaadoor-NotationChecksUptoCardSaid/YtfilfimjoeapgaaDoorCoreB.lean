/- A part of the proof: abstract states and the rules for them. -/
import Derived.Test.YtfilfimjoeapgaaDoorCoreA
import Derived.RangeFuncLeaves
set_option linter.all false
open Go.Op renaming operands → cG
open Option.some renaming injEq → cH,inj → dQ
open Bool renaming and_eq_true → cJ,or_eq_true → dj,false_eq_true → dG,not_true → eD,or_false → eW
open Prod.mk renaming injEq → cK
open List renaming getElem?_eq_some_iff → cM,mem_append → cN,getElem?_append_left → cO,mem_singleton → cP,all_eq_true → cQ,eq_nil_of_length_eq_zero → cR,mem_cons → cU,getElem?_eq_getElem → cV,getElem?_set_ne → cY,getElem?_append_right → c9,getElem?_set_self → dc,length_erase_of_mem → dm,map_congr_left → dn,isEmpty_iff → dr,range'_succ → dw,map_nil → dy,getElem?_cons_zero → dD,flatten_cons → dH,not_mem_nil → dJ,length_cons → dK,map_cons → dM,getD_eq_getElem?_getD → dN,mem_filter → dU,pairwise_cons → dW,range → dY,set_comm → ec,mem_of_mem_erase → eo,take_left' → ep,drop_left' → eu,range_eq_range' → ew,tail_drop → ey,length_append → eA,mem_cons_self → eB,append_assoc → eG,mem_map → eJ,filter_cons → eL,tail → eM,pairwise_lt_range → eN,length_singleton → eO,mem_range → eP,replicate → eR,set_getElem_self → eS,erase_cons_head → eT,erase_cons_tail → eU,range' → e9
open Iff renaming rfl → cT
open Array renaming getElem?_eq_some_iff → cW,replicate → dx,getElem?_eq_getElem → dV,toList_push → eH,mem_append → eI,getD → eV,toList_append → eX
open Nat renaming lt_of_lt_of_le → cX,le_refl → cZ,not_lt_zero → dg,add_right_cancel_iff → dX,zero_le → ez,ne_of_lt → eK,sub_self → eY,add_mul → eZ,one_mul → e8
open Option renaming bind_eq_some_iff → dh,bind_none → dz,bind_some → dA,getD_some → eg
open List.cons renaming injEq → dO
open Go.Oper renaming apart_spec → dR,semAt_eq → eE,uponIn_enter → eF
open Go.Fence renaming wide → dZ
namespace Go.Abs
def xS (P:Program) (f:FuncId) (args:List AV) (V:AV→Prop):Prop:=
 enters P f=true∧nbL 0 args∧ ∀ (C:Ctx) (φ:Nat→Value) (w:World),C.P=P→C.w0=w→C.N0=0→(∀b o,¬ C.M0 b o)→ ∀vs:Array Value,m7 (C.env φ [] w) args vs.toList→
  Calls P f vs w fun e w'=> ∃r v φ',V r∧e= .returned v∧rB (C.env φ' [] w') r v∧w.heap.size≤w'.heap.size∧(∀b,b<w.heap.size→w'.heap[b]? =w.heap[b]?)∧
   (∀x,x.block<w.heap.size→w'.frozen? x=w.frozen? x)∧w'.output=w.output∧w'.os=w.os
section grown
variable {C:Ctx} {φ:Nat→Value} {σ:AState} {a:Act} {w w':World}
theorem NY (hh: ∀b,b<w.heap.size→w'.heap[b]? =w.heap[b]?) {b o:Nat} (hb:b<w.heap.size):w'.cell? ⟨b,o,none⟩=w.cell? ⟨b,o,none⟩:=by
 simp only[World.cell?,hh b hb]
theorem qq.grown (S:qq C φ σ a w) (hs:w.heap.size≤w'.heap.size) (hh: ∀b,b<w.heap.size→w'.heap[b]? =w.heap[b]?) (hf: ∀x,x.block<w.heap.size→w'.frozen? x=w.frozen? x) (hr:w'.output=w.output∧w'.os=w.os):
 qq C φ σ a w':=by
 have le:(C.env φ σ.heap w).Le σ.heap.length (C.env φ σ.heap w'):=
  Ctx.zP (cZ _) (fun _ _=>⟨rfl,rfl⟩) (fun b o u hm hc=>⟨hm,by rw[NY hh (CT hc)];exact hc⟩)
 refine {slots:=m7.mono le _ _ (m7.nb _ _ S.slots) S.slots,defers:=S.defers.same le hh,objs:= ?_,apart:=S.apart,vk:=S.vk,size:=Nat.le_trans S.size hs,old:= ?_,qQ:= ?_,A9:=S.A9,wG:=fun x hx=>by rw[hf x (cX hx S.size)];exact S.wG x hx,rest:=⟨by rw[hr.1];exact S.rest.1,by rw[hr.2];exact S.rest.2⟩,low:=S.low,names:=S.names}
 ·intro l x hx
  have r:=S.objs l x hx
  exact qV.mono r le (fun b hb=>hh b (r.th hb))
 ·intro b o hb hm;rw[NY hh (cX hb S.size)];exact S.old b o hb hm
 ·intro b hb hm;rw[hh b (cX hb S.size)];exact S.qQ b hb hm
def qq.callee (S:qq C φ σ a w):Ctx:=
 {P:=C.P,w0:=w,M0:=fun _ _=>False,A:=fun b o=>Ck φ σ.heap b o∨C.A b o,
  hA:=by
   rintro b o (⟨l,x,hx,hm⟩|hA)
   ·exact (S.objs l x hx).th (AObj.qX hm)
   ·exact cX (C.hA b o hA) S.size
  hk:=fun b o h=>let ⟨v,h1,h2,_⟩:=S.know b o h;⟨v,h1,h2,fun f=>f⟩}
theorem qq.Vj (S:qq C φ σ a w) (φ':Nat→Value) (w1:World):(C.env φ σ.heap w1).Le 0 (S.callee.env φ' [] w1):=by
 refine ⟨ez _,fun l hl=>absurd hl (dg _),fun b o u hm hc=>⟨?_,hc⟩⟩
 simp only[Ctx.env,qq.callee] at hm ⊢
 rintro (⟨l,x,hx,_⟩|h)
 ·simp at hx
 ·exact hm h
theorem qq.callee_ge (S:qq C φ σ a w) (φ':Nat→Value) (w1:World):(S.callee.env φ' [] w1).Le 0 (C.env φ σ.heap w1):=by
 refine ⟨ez _,fun l hl=>absurd hl (dg _),fun b o u hm hc=>⟨?_,hc⟩⟩
 simp only[Ctx.env,qq.callee] at hm ⊢
 exact fun h=>hm (.inr h)
theorem J5 {P:Program} {f:FuncId} {args:List AV} {V:AV→Prop} {K:wo→List AObj→Prop} (h:xS P f args V) (hK: ∀r,V r→K (.ret r) σ.heap):AU P f args σ K:=by
 obtain ⟨he,hn,hc⟩:=h
 refine ⟨he,fun C φ a w hP S vs hr=> ?_⟩
 refine (hc S.callee φ w hP rfl rfl (fun _ _ h=>h) vs (m7.mono (S.Vj φ w) _ _ hn hr)).mono ?_
 rintro e w' ⟨r,v,φ',hV,rfl,rep,hs,hh,hf,ho⟩
 refine ⟨.ret r,φ,σ.heap,hK r hV,S.grown hs hh hf ho,?_⟩
 exact rB.mono (S.callee_ge φ' w') _ _ (rB.nb _ _ rep) rep
theorem xS.mono {P:Program} {f:FuncId} {args:List AV} {V V':AV→Prop} (h:xS P f args V) (hv: ∀r,V r→V' r):xS P f args V':=by
 obtain ⟨he,hn,hc⟩:=h
 refine ⟨he,hn,fun C φ w hP h0 hN hM vs hr=>(hc C φ w hP h0 hN hM vs hr).mono ?_⟩
 rintro e w' ⟨r,v,φ',hV,rest⟩
 exact ⟨r,v,φ',hv r hV,rest⟩
end grown
section loc
variable {P:Program} {σ σ':AState}
theorem HK {c:Call} {x:Operand} (h:x∈c.args):x∈(Op.call c).operands:=by
 simp only[cG,Call.operands,eI];exact .inr h
theorem Lq {d:Nat} {x:Option Operand} (h: ∀y,x=some y→σ'.ev y=σ.ev y):bound σ' d x=bound σ d x:=by
 cases x with
 |none=>rfl
 |some y=>simp only[bound,h y rfl]
theorem Mk {H H':List AObj}: ∀ {cs ds:List AV} {ns:List Nat},NT H cs=some (ds,ns)→(∀l∈ns,H'[l]? =H[l]?)→NT H' cs=some (ds,ns)
 |[],_,_,h,_=>by simp only[NT] at h ⊢;exact h
 |c::cs,ds,ns,h,hr=>by
  unfold NT at h ⊢
  split at h
  ·cases ‹_::_=[]›
  ·rename_i l n cs' heq
   simp only[dO] at heq
   obtain ⟨rfl,rfl⟩:=heq
   split at h
   ·rename_i uO sz rows hl
    split at h
    ·rename_i hn
     split at h
     ·rename_i es ms he
      simp only[cH,cK] at h
      obtain ⟨rfl,rfl⟩:=h
      have:=Mk he (fun k hk=>hr k (by simp [hk]))
      simp only[hr l (by simp),hl,hn,if_true,this]
     ·cases h
    ·cases h
   ·cases h
  ·rename_i c' cs' hne heq
   simp only[dO] at heq
   obtain ⟨rfl,rfl⟩:=heq
   split at h
   ·rename_i es ms he
    simp only[cH,cK] at h
    obtain ⟨rfl,rfl⟩:=h
    have:=Mk he hr
    cases c<;>first|(simp only[this];done)|exact (hne _ _ rfl).elim
   ·cases h
theorem Wd {H:List AObj}: ∀ {cs ds:List AV} {ns:List Nat},NT H cs=some (ds,ns)→ ∀l∈ns,l<H.length
 |[],_,_,h=>by simp only[NT,cH,cK] at h;obtain ⟨_,rfl⟩:=h;simp
 |c::cs,ds,ns,h=>by
  unfold NT at h
  split at h
  ·cases ‹_::_=[]›
  ·rename_i l n cs' heq
   simp only[dO] at heq
   obtain ⟨rfl,rfl⟩:=heq
   split at h
   ·rename_i uO sz rows hl
    split at h
    ·split at h
     ·rename_i es ms he
      simp only[cH,cK] at h
      obtain ⟨_,rfl⟩:=h
      intro k hk
      simp only[cU] at hk
      rcases hk with rfl|hk
      ·exact (cM.1 hl).1
      ·exact Wd he k hk
     ·cases h
    ·cases h
   ·cases h
  ·rename_i c' cs' hne heq
   simp only[dO] at heq
   obtain ⟨rfl,rfl⟩:=heq
   split at h
   ·rename_i es ms he
    simp only[cH,cK] at h
    obtain ⟨_,rfl⟩:=h
    exact Wd he
   ·cases h
theorem ldV_local {H H':List AObj} {l:Nat} {v:AV} {e:wg} (h:ldV H l v=some e) (hr: ∀k∈e.rd,H'[k]? =H[k]?):ldV H' l v=some e:=by
 unfold ldV at h ⊢
 split at h
 ·split at h
  ·rename_i ds ns he
   cases h
   rw[Mk he (fun k hk=>hr k (by simp [hk]))]
  ·cases h
 ·exact h
theorem ldV_rd {H:List AObj} {l:Nat} {v:AV} {e:wg} (h:ldV H l v=some e):l∈e.rd∧e.up=[]∧ ∀k∈e.rd,k=l∨k<H.length:=by
 unfold ldV at h
 split at h
 ·split at h
  ·rename_i ds ns he
   cases h
   refine ⟨by simp,rfl,fun k hk=> ?_⟩
   simp only[cU] at hk
   rcases hk with rfl|hk
   ·exact .inl rfl
   ·exact .inr (Wd he k hk)
  ·cases h
 ·cases h
  exact ⟨by simp,rfl,fun k hk=>by simp at hk;exact .inl hk⟩
theorem XJ {o:Op} {e:wg} (h:nW P σ o=some e) (Cl: ∀x∈o.operands,σ'.ev x=σ.ev x) (hrd: ∀l∈e.rd,σ'.heap[l]? =σ.heap[l]?) (hnw:e.nw≠[]→σ'.heap.length=σ.heap.length):
 nW P σ' o=some e:=by
 cases o with
 |move x=>simp only[nW] at h ⊢;rw[Cl x (by simp [cG])];exact h
 |assign x=>simp only[nW] at h ⊢;rw[Cl x (by simp [cG])];exact h
 |pick c x y=>simp only[nW] at h ⊢;rw[Cl c (by simp [cG]),Cl x (by simp [cG]),Cl y (by simp [cG])];exact h
 |alloc t=>
  simp only[nW] at h ⊢
  split at h
  ·cases h;rw[hnw (by simp)]
  ·cases h
 |box t x=>
  simp only[nW] at h ⊢
  rw[Cl x (by simp [cG])]
  split at h
  ·cases h;rw[hnw (by simp)]
  ·cases h
 |build t parts=>
  simp only[nW] at h ⊢
  have:(parts.toList.map fun p=>(p.1,σ'.ev p.2))=(parts.toList.map fun p=>(p.1,σ.ev p.2)):=by
   apply dn
   intro p hp
   rw[Cl p.2 (by simp only[cG,List.mem_toArray,eJ];exact ⟨p,hp,rfl⟩)]
  rw[this];exact h
 |buildSlice t len parts=>
  simp only[nW] at h ⊢
  have:(parts.toList.map fun p=>(p.1,σ'.ev p.2))=(parts.toList.map fun p=>(p.1,σ.ev p.2)):=by
   apply dn
   intro p hp
   rw[Cl p.2 (by simp only[cG,List.mem_toArray,eJ];exact ⟨p,hp,rfl⟩)]
  rw[this];exact h
 |load t x=>
  simp only[nW] at h ⊢
  rw[Cl x (by simp [cG])]
  split at h
  ·rename_i g n l off ht hx
   split at h
   ·rename_i cs hl
    split at h
    ·rename_i v hv
     rw[hrd l (ldV_rd h).1,hl];simp only[hv]
     exact ldV_local h hrd
    ·cases h
   ·cases h
  ·exact h
  ·rename_i g n l i m o' sz ht hx
   split at h
   ·rename_i sz' rows hl
    split at h
    ·rename_i hc
     split at h
     ·rename_i r hr
      split at h
      ·rename_i v hv
       cases h
       rw[hrd l (by simp),hl];simp only[hc,and_self,if_true,hr,hv]
      ·cases h
     ·cases h
    ·cases h
   ·cases h
  ·exact h
  ·cases h
 |store t x y=>
  simp only[nW] at h ⊢
  rw[Cl x (by simp [cG]),Cl y (by simp [cG])]
  split at h
  ·rename_i g n l off ys ht hx hy
   split at h
   ·rename_i cs hl
    split at h
    ·rename_i hc
     cases h
     rw[hrd l (by simp),hl];simp only[hc,and_self,if_true]
    ·cases h
   ·cases h
  ·rename_i g n l i m o' sz ys ht hx hy
   split at h
   ·rename_i sz' rows hl
    split at h
    ·rename_i hc
     split at h
     ·rename_i r hr
      split at h
      ·rename_i hc2
       cases h
       rw[hrd l (by simp),hl];simp only[hc,hc2,and_self,if_true,hr]
      ·cases h
     ·cases h
    ·cases h
   ·cases h
  ·cases h
 |nilCheck x=>simp only[nW] at h ⊢;rw[Cl x (by simp [cG])];exact h
 |binOp op t x y ty=>simp only[nW] at h ⊢;rw[Cl x (by simp [cG]),Cl y (by simp [cG])];exact h
 |unOp op t x=>simp only[nW] at h ⊢;rw[Cl x (by simp [cG])];exact h
 |convert s d x=>simp only[nW] at h ⊢;rw[Cl x (by simp [cG])];exact h
 |makeInterface t x=>simp only[nW] at h ⊢;rw[Cl x (by simp [cG])];exact h
 |makeFunc fn f c=>
  simp only[nW] at h ⊢
  have e1:f.toList.map σ'.ev=f.toList.map σ.ev:=dn fun x hx=>Cl x (by simp only[cG,eI];exact .inl (by simpa using hx))
  have e2:c.toList.map σ'.ev=c.toList.map σ.ev:=dn fun x hx=>Cl x (by simp only[cG,eI];exact .inr (by simpa using hx))
  rw[e1,e2];exact h
 |makeSlice t x y=>
  simp only[nW] at h ⊢
  rw[Cl x (by simp [cG]),Cl y (by simp [cG])]
  split at h
  ·split at h
   ·split at h
    ·rename_i hc
     cases h
     rw[if_pos hc,hnw (by simp)]
    ·cases h
   ·cases h
  ·cases h
 |slice t x lo hi mx=>
  simp only[nW] at h ⊢
  have hx:=Cl x (by simp [cG])
  have h1: ∀d,bound σ' d lo=bound σ d lo:=fun d=>Lq fun y hy=>Cl y (by simp [cG,hy])
  have h2: ∀d,bound σ' d hi=bound σ d hi:=fun d=>Lq fun y hy=>Cl y (by simp [cG,hy])
  have h3: ∀d,bound σ' d mx=bound σ d mx:=fun d=>Lq fun y hy=>Cl y (by simp [cG,hy])
  rw[hx]
  simp only[NS,h1,h2,h3] at h ⊢
  split at h
  ·split at h
   ·cases h
   ·rename_i hmx
    rw[if_neg hmx]
    split at h
    ·exact h
    ·split at h
     ·rename_i hl
      split at h
      ·rename_i Xo hb2 hb3
       split at h
       ·rename_i hc
        cases h
        rw[hrd _ (by simp),hl]
        simp only[Xo,hb2,hb3]
        rw[if_pos hc]
       ·cases h
      ·cases h
     ·cases h
    ·cases h
  ·exact h
 |fieldAddr t x i=>simp only[nW] at h ⊢;rw[Cl x (by simp [cG])];exact h
 |field t x i=>simp only[nW] at h ⊢;rw[Cl x (by simp [cG])];exact h
 |indexAddr t x i=>
  simp only[nW] at h ⊢
  rw[Cl x (by simp [cG]),Cl i (by simp [cG])]
  split at h
  ·split at h
   ·exact h
   ·split at h
    ·rename_i hl
     split at h
     ·rename_i hc
      split at h
      ·rename_i hr
       cases h
       rw[hrd _ (by simp),hl]
       simp only[hr]
       rw[if_pos hc]
      ·cases h
     ·cases h
    ·rename_i hl
     split at h
     ·rename_i hc
      cases h
      rw[hrd _ (by simp),hl]
      simp only
      rw[if_pos hc]
     ·cases h
    ·cases h
   ·cases h
  ·exact h
 |index t x i=>simp only[nW] at h ⊢;rw[Cl x (by simp [cG]),Cl i (by simp [cG])];exact h
 |extract x i=>simp only[nW] at h ⊢;rw[Cl x (by simp [cG])];exact h
 |call c=>
  obtain ⟨cl,args,ts⟩:=c
  cases cl with
  |builtin b=>
   simp only[nW] at h ⊢
   have e1:args.toList.map σ'.ev=args.toList.map σ.ev:=dn fun x hx=>Cl x (HK (by simpa using hx))
   rw[e1]
   revert h
   generalize args.toList.map σ.ev=xs
   generalize ts.toList=tl
   intro h
   unfold EO at h ⊢
   split at h
   ·rename_i t x
    unfold Va at h ⊢
    split at h
    ·exact h
    ·exact h
    ·split at h
     ·rename_i ht
      rw[if_pos ht]
      split at h
      ·rename_i hl
       split at h
       ·rename_i hn
        cases h
        rw[hrd _ (by simp),hl];simp [hn]
       ·cases h
      ·cases h
     ·cases h
    ·cases h
   ·rename_i t u x y
    split at h
    ·rename_i et sz by' ht hu
     split at h
     ·split at h
      ·rename_i hc
       rw[if_pos hc]
       unfold Jk at h ⊢
       split at h
       ·cases h
       ·rename_i rd ys hsrc
        have hsub: ∀l∈rd,l∈e.rd:=by
         split at h
         ·split at h
          ·split at h
           ·cases h;intro l hl;simp [hl]
           ·cases h
          ·cases h
         ·split at h
          ·split at h
           ·cases h;intro l hl;exact hl
           ·cases h;intro l hl;exact hl
          ·cases h
         ·cases h
        have hsrc':J2 σ' sz y=some (rd,ys):=by
         unfold J2 at hsrc ⊢
         split at hsrc
         ·exact hsrc
         ·split at hsrc
          ·rename_i hl
           split at hsrc
           ·rename_i hc
            cases hsrc
            rw[hrd _ (hsub _ (by simp)),hl];simp [hc]
           ·cases hsrc
          ·cases hsrc
         ·exact hsrc
         ·cases hsrc
        rw[hsrc']
        simp only
        split at h
        ·split at h
         ·rename_i hl
          split at h
          ·rename_i Ub
           cases h
           rw[hrd _ (by simp),hl];simp [Ub]
          ·cases h
         ·cases h
        ·split at h
         ·rename_i Ub
          rw[if_pos Ub]
          split at h
          ·rename_i hc2
           cases h
           rw[if_pos hc2,hnw (by simp)]
          ·rename_i hc2
           cases h
           rw[if_neg hc2]
         ·cases h
        ·cases h
      ·cases h
     ·cases h
    ·cases h
   ·exact h
   ·exact h
   ·cases h
  |value f=>cases h
  |invoke r m=>cases h
 |makeMap t r=>
  cases r with
  |some r=>cases h
  |none=>cases h;simp only[nW];rw[hnw (by simp)]
 |typeAssert x u t ok=>
  cases ok with
  |false=>cases h
  |true=>simp only[nW] at h ⊢;rw[Cl x (by simp [cG])];exact h
 |lookup t x k ok=>
  cases ok with
  |true=>
   simp only[nW] at h ⊢
   rw[Cl x (by simp [cG]),Cl k (by simp [cG])]
   split at h
   ·rename_i z l s ht hx' hk'
    unfold O7 at h ⊢
    split at h
    ·rename_i es hl
     split at h
     ·rename_i hs
      cases h
      rw[hrd l (by cases xC s es<;>simp [Vb]),hl];simp [hs]
     ·cases h
    ·cases h
   ·cases h
  |false=>
   simp only[nW] at h ⊢
   rw[Cl x (by simp [cG]),Cl k (by simp [cG])]
   split at h
   ·rename_i z l s ht hx' hk'
    unfold Mg at h ⊢
    split at h
    ·rename_i es hl
     split at h
     ·rename_i hs
      cases h
      rw[hrd l (by simp),hl];simp [hs]
     ·cases h
    ·cases h
   ·cases h
 |range t x=>
  simp only[nW] at h ⊢
  rw[Cl x (by simp [cG])]
  split at h
  ·cases h;rw[hnw (by simp)]
  ·cases h
 |next x st=>
  cases st with
  |false=>cases h
  |true=>
   simp only[nW] at h ⊢
   rw[Cl x (by simp [cG])]
   split at h
   ·rename_i l hv
    unfold Mh at h ⊢
    split at h
    ·rename_i s p hl
     split at h
     ·rename_i hp
      cases h
      rw[hrd l (by simp),hl];simp [hp]
     ·rename_i hp
      cases h
      rw[hrd l (by simp),hl];simp [hp]
    ·cases h
   ·cases h
 |mapUpdate t x k y=>
  simp only[nW] at h ⊢
  rw[Cl x (by simp [cG]),Cl k (by simp [cG]),Cl y (by simp [cG])]
  split at h
  ·rename_i z l s ht hx' hk'
   unfold mapUpEff at h ⊢
   split at h
   ·rename_i es hl
    split at h
    ·rename_i hs
     cases h
     rw[hrd l (by simp),hl];simp [hs]
    ·cases h
   ·cases h
  ·cases h
 |insert t x k y=>
  simp only[nW] at h ⊢
  rw[Cl x (by simp [cG]),Cl k (by simp [cG]),Cl y (by simp [cG])]
  split at h
  ·rename_i z l s ht hx' hk'
   unfold mapUpEff at h ⊢
   split at h
   ·rename_i es hl
    split at h
    ·rename_i hs
     cases h
     rw[hrd l (by simp),hl];simp [hs]
    ·cases h
   ·cases h
  ·cases h
 |_=>cases h
end loc
end Go.Abs
namespace Go.Abs
def xY (o:Oper):List Nat:=(o.after.toList.filter (Region.binds .any)).map (·.on)
def We:List Oper→List Nat→List Nat
 |[],acc=>acc
 |o::os,acc=>We os (acc++[(xY o).foldl (fun s d=>s|||2 ^ d|||acc.getD d 0) 0])
def tj (ops:Array Oper) (i j:Nat):Bool:=((We ops.toList []).getD j 0).testBit i
def Aw:Op→Bool
 | .call {callee:= .builtin _,..}=>false
 | .call _=>true
 |_=>false
def C3 (ops:Array Oper):Bool:=
 Region.noSelect ops&&
 (let r:=We ops.toList []
  (dY ops.size).all fun j=>match ops[j]? with
   |none=>true
   |some oj=>(xY oj).all (· <j)&&(dY j).all fun i=>match ops[i]? with
    |none=>true
    |some oi=>(r.getD j 0).testBit i||(oi.apart ops oj&& !(Aw oi.op&&Aw oj.op)))
structure Tr where
 j:Nat
 n:Nat
 e:wg
def Dm (a b:List Nat):Bool:=a.all fun x=> !b.contains x
def zQ (t:Tr) (e:wg):Bool:=
 Dm (t.e.up.map (·.1)) (e.rd++e.up.map (·.1))&&Dm (e.up.map (·.1)) t.e.rd&&
 (t.e.nw.isEmpty||(e.nw.isEmpty&&(e.rd++e.up.map (·.1)).all fun l=>decide (l<t.n)))&&
 ((!t.e.whole||(e.up.isEmpty&&e.nw.isEmpty))&&(!e.whole||(t.e.up.isEmpty&&t.e.nw.isEmpty)))
def quiet:Op→Bool
 | .move _| .assign _| .pick _ _ _| .load _ _| .store _ _ _| .binOp _ _ _ _ _| .unOp _ _ _| .fieldAddr _ _ _| .field _ _ _| .indexAddr _ _ _| .index _ _ _| .extract _ _=>true
 |_=>false
def J6 (o:Oper):Bool:=(match o.op with| .alloc _=>true|_=>false)&&o.guard.isNone
def KX (ops:Array Oper) (i j:Nat):Bool:=
 match ops[i]?,ops[j]? with
 |some oi,some oj=>J6 oi&&J6 oj&&(xY oi).isEmpty&&(xY oj).isEmpty&&decide (i<j)&&
  (dY ops.size).all fun k=>k==i||k==j||(match ops[k]? with
    |none=>true
    |some o=>quiet o.op&&(tj ops i k==tj ops j k))
 |_,_=>false
def RP (ops:Array Oper) (i j:Nat):Bool:=tj ops i j||KX ops i j
def Bn (ops:Array Oper) (tr:List Tr) (j:Nat) (e:wg):Bool:=tr.all fun t=>zQ t e||RP ops t.j j
def DH (P:Program) (f:FuncId) (args:List AV) (σ:AState) (e:wg):Prop:=
 ((∀l∈e.rd,l<σ.heap.length)∧ ∀l∈e.up.map (·.1),l∈e.rd)∧
 ∀σ':AState,(∀l∈e.rd,σ'.heap[l]? =σ.heap[l]?)→(e.nw≠[]→σ'.heap.length=σ.heap.length)→(e.whole=true→σ'.heap=σ.heap)→AU P f args σ' (fun o H'=>o= .ret e.val∧H'=p4 σ'.heap e.up++e.nw)
theorem DH.move {P:Program} {f:FuncId} {args:List AV} {σ σ':AState} {e:wg} (h:DH P f args σ e) (h1: ∀l∈e.rd,σ'.heap[l]? =σ.heap[l]?) (h2:e.nw≠[]→σ'.heap.length=σ.heap.length) (h3:e.whole=true→σ'.heap=σ.heap):DH P f args σ' e:=by
 refine ⟨⟨fun l hl=> ?_,h.1.2⟩,fun σ2 k1 k2 k3=>h.2 σ2 (fun l hl=>(k1 l hl).trans (h1 l hl)) (fun hn=>(k2 hn).trans (h2 hn)) (fun hw=>(k3 hw).trans (h3 hw))⟩
 have hlt:=h.1.1 l hl
 have:=h1 l hl
 rw[cV hlt] at this
 exact (cM.1 this).1
def xm (P:Program) (ops:Array Oper) (o:Oper) (σ:AState) (S:wg→Prop):Prop:=
 (sr ops o σ=some false∧ ∀e,S e↔e={val:= .raw undef})∨
 (sr ops o σ=some true∧qu σ o.op=none∧ ∃e,nW P σ o.op=some e∧e.pre∧ ∀e',S e'↔e'=e)∨
 (sr ops o σ=some true∧ ∃f args V,qu σ o.op=some (f,args)∧xS P f args V∧(∃r,V r)∧ ∀e,S e↔ ∃r,V r∧e={val:=r})∨
 (sr ops o σ=some true∧ ∃f args e,qu σ o.op=some (f,args)∧DH P f args σ e∧ ∀e',S e'↔e'=e)
def N1 (P:Program) (ops:Array Oper) (K:AState→Prop):List Nat→List Tr→AState→Prop
 |[],_,σ=>K σ
 |j::rest,tr,σ=> ∃o S,ops[j]? =some o∧xm P ops o σ S∧ ∀e,S e→Bn ops tr j e=true∧N1 P ops K rest (tr++[⟨j,σ.heap.length,e⟩]) (σ.app o.dst e)
section
variable {P:Program} {ops:Array Oper} {K:AState→Prop}
theorem RQ: ∀ {R:List Nat} {tr Uo:List Tr} {σ:AState},(∀t∈Uo,t∈tr)→N1 P ops K R tr σ→N1 P ops K R Uo σ
 |[],_,_,_,_,h=>h
 |j::rest,tr,Uo,σ,hs,⟨o,S,ho,hst,h⟩=>by
  refine ⟨o,S,ho,hst,fun e he=> ?_⟩
  obtain ⟨hc,hr⟩:=h e he
  refine ⟨?_,RQ ?_ hr⟩
  ·unfold Bn at*
   rw[cQ] at*
   exact fun t ht=>hc t (hs t ht)
  ·intro t ht
   rcases cN.1 ht with ht|ht
   ·exact cN.2 (.inl (hs t ht))
   ·exact cN.2 (.inr ht)
theorem xm.nonempty {o:Oper} {σ:AState} {S:wg→Prop} (h:xm P ops o σ S): ∃e,S e:=by
 rcases h with ⟨_,h⟩|⟨_,_,e,_,_,h⟩|⟨_,f,args,V,_,_,⟨r,hr⟩,h⟩|⟨_,f,args,e,_,_,h⟩
 ·exact ⟨_,(h _).2 rfl⟩
 ·exact ⟨e,(h e).2 rfl⟩
 ·exact ⟨_,(h _).2 ⟨r,hr,rfl⟩⟩
 ·exact ⟨e,(h e).2 rfl⟩
theorem xm.det {o:Oper} {σ:AState} {S:wg→Prop} (h:xm P ops o σ S) (hc:Aw o.op=false): ∃e,∀e',S e'↔e'=e:=by
 rcases h with ⟨_,h⟩|⟨_,_,e,_,_,h⟩|⟨_,f,args,V,h1,_,_,h⟩|⟨_,f,args,e,_,_,h⟩
 ·exact ⟨_,h⟩
 ·exact ⟨e,h⟩
 rotate_left
 ·exact ⟨e,h⟩
 ·exfalso
  unfold qu at h1
  split at h1
  ·rename_i ho;rw[ho] at hc;simp [Aw] at hc
  ·cases h1
theorem xm.eq {o:Oper} {σ:AState} {S S':wg→Prop} (h:xm P ops o σ S) (h':xm P ops o σ S') (hc:Aw o.op=false): ∀e,S e↔S' e:=by
 have nc: ∀ {f args},qu σ o.op≠some (f,args):=by
  intro f args h1
  unfold qu at h1
  split at h1
  ·rename_i ho;rw[ho] at hc;simp [Aw] at hc
  ·cases h1
 rcases h with ⟨hw,h⟩|⟨hw,_,e,he,_,h⟩|⟨_,f,args,V,h1,_⟩|⟨_,f,args,_,h1,_⟩
 ·rcases h' with ⟨_,h'⟩|⟨hw',_⟩|⟨_,f,args,V,h1,_⟩|⟨_,f,args,_,h1,_⟩
  ·intro e;rw[h,h']
  ·rw[hw] at hw';cases hw'
  ·exact absurd h1 nc
  ·exact absurd h1 nc
 ·rcases h' with ⟨hw',_⟩|⟨_,_,e2,he2,_,h'⟩|⟨_,f,args,V,h1,_⟩|⟨_,f,args,_,h1,_⟩
  ·rw[hw] at hw';cases hw'
  ·intro x;rw[h,h'];rw[he] at he2;cases he2;exact cT
  ·exact absurd h1 nc
  ·exact absurd h1 nc
 ·exact absurd h1 nc
 ·exact absurd h1 nc
theorem Fj {o:Oper} {σ σ':AState} (h: ∀j b d,o.guard=some (j,b)→(ops[j]?).bind (·.dst)=some d→σ'.slots[d]? =σ.slots[d]?):sr ops o σ'=sr ops o σ:=by
 unfold sr
 split
 ·rfl
 ·rename_i j want hg
  split
  ·rename_i d hd;rw[h j want d hg hd]
  ·rfl
theorem DI {o:Op} {σ σ':AState} (h: ∀x∈o.operands,σ'.ev x=σ.ev x):qu σ' o=qu σ o:=by
 unfold qu
 split
 ·rename_i f args ts
  have h1:σ'.ev f=σ.ev f:=h f (by simp [cG,Call.operands])
  have h2:args.toList.map σ'.ev=args.toList.map σ.ev:=dn fun x hx=>h x (HK (by simpa using hx))
  rw[h1,h2]
 ·rfl
theorem xm.local {o:Oper} {σ σ':AState} {S:wg→Prop} (h:xm P ops o σ S) (Cl: ∀x∈o.op.operands,σ'.ev x=σ.ev x) (hw:sr ops o σ'=sr ops o σ)
 (hh: ∀e,S e→((∀l∈e.rd,σ'.heap[l]? =σ.heap[l]?)∧(e.nw≠[]→σ'.heap.length=σ.heap.length))∧(e.whole=true→σ'.heap=σ.heap)):xm P ops o σ' S:=by
 rcases h with ⟨h1,h⟩|⟨h1,h2,e,he,hp,h⟩|⟨h1,f,args,V,h2,h3,h4,h⟩|⟨h1,f,args,e,h2,h3,h⟩
 ·exact .inl ⟨by rw[hw];exact h1,h⟩
 ·refine .inr (.inl ⟨by rw[hw];exact h1,by rw[DI Cl];exact h2,e,?_,hp,h⟩)
  obtain ⟨⟨a,b⟩,_⟩:=hh e ((h e).2 rfl)
  exact XJ he Cl a b
 ·exact .inr (.inr (.inl ⟨by rw[hw];exact h1,f,args,V,by rw[DI Cl];exact h2,h3,h4,h⟩))
 ·obtain ⟨⟨a,b⟩,c⟩:=hh e ((h e).2 rfl)
  exact .inr (.inr (.inr ⟨by rw[hw];exact h1,f,args,e,by rw[DI Cl];exact h2,h3.move a b c,h⟩))
theorem tF: ∀ (ups:List (Nat×AObj)) (H:List AObj),(p4 H ups).length=H.length
 |[],_=>rfl
 |(l,x)::r,H=>by simp [p4,tF r]
theorem N2: ∀ (ups:List (Nat×AObj)) (H:List AObj) (l:Nat),l ∉ ups.map (·.1)→(p4 H ups)[l]? =H[l]?
 |[],_,_,_=>rfl
 |(k,x)::r,H,l,h=>by
  simp only[dM,cU,not_or] at h
  rw[p4,N2 r _ l h.2,cY (fun e=>h.1 e.symm)]
theorem N3 {σ:AState} {dst:Option Tmp} {e:wg} {l:Nat} (h1:l ∉ e.up.map (·.1)) (h2:l<σ.heap.length):(σ.app dst e).heap[l]? =σ.heap[l]? :=by
 have:(σ.app dst e).heap=p4 σ.heap e.up++e.nw:=rfl
 rw[this,cO (by rw[tF];exact h2),N2 _ _ _ h1]
theorem app_ev {σ:AState} {dst:Option Tmp} {e:wg} {x:Operand} (h: ∀d,dst=some d→x≠ .tmp d):(σ.app dst e).ev x=σ.ev x:=by
 cases x with
 |tmp t=>
  cases dst with
  |none=>rfl
  |some d=>
   have hne:d≠t:=fun he=>h d rfl (by rw[he])
   simp only[AState.ev,AState.app,AState.put,List.getD]
   rw[cY hne]
 |const v=>rfl
 |global g=>rfl
 |func f=>rfl
theorem O9 {σ:AState} {dst:Option Tmp} {e:wg} {t:Nat} (h: ∀d,dst=some d→t≠d):(σ.app dst e).slots[t]? =σ.slots[t]? :=by
 cases dst with
 |none=>rfl
 |some d=>
  simp only[AState.app,AState.put]
  rw[cY (fun he=>h d rfl he.symm)]
theorem opEff_lt {σ:AState} {o:Op} {e:wg} (h:nW P σ o=some e):(∀l∈e.rd,l<σ.heap.length)∧ ∀l∈e.up.map (·.1),l<σ.heap.length:=by
 have lt: ∀ {l:Nat} {x:AObj},σ.heap[l]? =some x→l<σ.heap.length:=fun h=>(cM.1 h).1
 cases o with
 |load t x=>
  simp only[nW] at h
  split at h
  ·split at h
   ·rename_i hl
    split at h
    ·obtain ⟨_,h2,h3⟩:=ldV_rd h
     refine ⟨fun k hk=> ?_,by rw[h2];simp⟩
     rcases h3 k hk with rfl|hk
     ·exact lt hl
     ·exact hk
    ·cases h
   ·cases h
  ·split at h
   ·cases h;simp
   ·cases h
  ·split at h
   ·rename_i hl
    split at h
    ·split at h
     ·split at h
      ·cases h;simp only[cP,dy,dJ,false_imp_iff,implies_true,and_true];rintro l rfl;exact lt hl
      ·cases h
     ·cases h
    ·cases h
   ·cases h
  ·unfold RA at h
   split at h
   ·split at h
    ·rw[dh] at h
     obtain ⟨m,_,h⟩:=h
     cases h;simp
    ·cases h
   ·cases h
  ·cases h
 |store t x y=>
  simp only[nW] at h
  split at h
  ·split at h
   ·rename_i hl
    split at h
    ·cases h
     constructor
     ·simp only[cP];rintro l rfl;exact lt hl
     ·simp only[dM,dy,cP];rintro l rfl;exact lt hl
    ·cases h
   ·cases h
  ·split at h
   ·rename_i hl
    split at h
    ·split at h
     ·split at h
      ·cases h
       constructor
       ·simp only[cP];rintro l rfl;exact lt hl
       ·simp only[dM,dy,cP];rintro l rfl;exact lt hl
      ·cases h
     ·cases h
    ·cases h
   ·cases h
  ·cases h
 |indexAddr t x i=>
  simp only[nW] at h
  split at h
  ·split at h
   ·split at h
    ·split at h
     ·cases h;simp
     ·cases h
    ·cases h
   ·split at h
    ·rename_i hl
     split at h
     ·split at h
      ·cases h;simp only[cP,dy,dJ,false_imp_iff,implies_true,and_true];rintro l rfl;exact lt hl
      ·cases h
     ·cases h
    ·rename_i hl
     split at h
     ·cases h;simp only[cP,dy,dJ,false_imp_iff,implies_true,and_true];rintro l rfl;exact lt hl
     ·cases h
    ·cases h
   ·cases h
  ·split at h
   ·split at h
    ·split at h
     ·cases h;simp
     ·cases h
    ·split at h
     ·rw[dh] at h
      obtain ⟨ds,_,he⟩:=h
      obtain rfl:=dQ he
      simp
     ·cases h
    ·split at h
     ·cases h;simp
     ·cases h
    ·cases h
   ·cases h
 |slice t x lo hi mx=>
  simp only[nW] at h
  split at h
  ·split at h
   ·cases h
   ·unfold NS at h
    split at h
    ·split at h
     ·split at h
      ·cases h;simp
      ·cases h
     ·cases h
    ·split at h
     ·rename_i hl
      split at h
      ·split at h
       ·cases h;simp only[cP,dy,dJ,false_imp_iff,implies_true,and_true];rintro l rfl;exact lt hl
       ·cases h
      ·cases h
     ·cases h
    ·cases h
  ·split at h
   ·split at h
    ·split at h
     ·cases h;simp
     ·cases h
    ·cases h
   ·cases h
 |call c=>
  obtain ⟨cl,args,ts⟩:=c
  cases cl with
  |builtin b=>
   simp only[nW] at h
   unfold EO at h
   split at h
   ·unfold Va at h
    split at h
    ·split at h
     ·cases h;simp
     ·cases h
    ·split at h
     ·cases h;simp
     ·cases h
    ·split at h
     ·split at h
      ·rename_i hl
       split at h
       ·cases h;simp only[cP,dy,dJ,false_imp_iff,implies_true,and_true];rintro l rfl;exact lt hl
       ·cases h
      ·cases h
     ·cases h
    ·cases h
   ·split at h
    ·split at h
     ·split at h
      ·unfold Jk at h
       split at h
       ·cases h
       ·rename_i rd ys hsrc
        have hrd: ∀l∈rd,l<σ.heap.length:=by
         unfold J2 at hsrc
         split at hsrc
         ·split at hsrc
          ·cases hsrc;simp
          ·cases hsrc
         ·split at hsrc
          ·rename_i hl
           split at hsrc
           ·cases hsrc;simp only[cP];rintro l rfl;exact lt hl
           ·cases hsrc
          ·cases hsrc
         ·cases hsrc;simp
         ·cases hsrc
        split at h
        ·split at h
         ·rename_i hl
          split at h
          ·cases h
           constructor
           ·intro l hl'
            simp only[cU] at hl'
            rcases hl' with rfl|hl'
            ·exact lt hl
            ·exact hrd l hl'
           ·simp only[dM,dy,cP];rintro l rfl;exact lt hl
          ·cases h
         ·cases h
        ·split at h
         ·split at h<;>cases h<;>exact ⟨hrd,by simp⟩
         ·cases h
        ·cases h
      ·cases h
     ·cases h
    ·cases h
   ·cases h;simp
   ·cases h;simp
   ·cases h
  |value f=>cases h
  |invoke r m=>cases h
 |move x=>cases h;simp
 |assign x=>cases h;simp
 |makeFunc fn f c=>cases h;simp
 |pick c x y=>simp only[nW] at h;split at h<;>cases h;simp
 |alloc t=>simp only[nW] at h;split at h<;>cases h;simp
 |box t x=>simp only[nW] at h;split at h<;>cases h;simp
 |build t parts=>
  simp only[nW] at h
  split at h
  ·split at h<;>cases h;simp
  ·cases h
 |buildSlice t len parts=>
  simp only[nW] at h
  split at h
  ·split at h
   ·split at h
    ·split at h<;>cases h;simp
    ·cases h
   ·cases h
  ·cases h
 |nilCheck x=>simp only[nW] at h;split at h<;>cases h<;>simp
 |binOp op t x y ty=>
  simp only[nW] at h
  split at h
  ·cases h;simp
  ·unfold U9 Nv at h
   split at h
   ·rename_i he
    split at he
    ·split at he<;>cases he;cases h;simp
    ·split at he<;>cases he;cases h;simp
    ·cases he
   unfold O6 at h
   split at h
   ·cases h;simp
   ·cases h;simp
   ·split at h<;>cases h;simp
   ·split at h<;>cases h;simp
   ·split at h<;>cases h;simp
   ·split at h<;>cases h;simp
   ·split at h<;>cases h;simp
   ·split at h<;>cases h;simp
   ·cases h
 |unOp op t x=>simp only[nW] at h;split at h<;>cases h<;>simp
 |convert s d x=>
  simp only[nW] at h
  split at h
  ·split at h<;>cases h;simp
  ·split at h
   ·cases h;simp
   ·split at h<;>cases h;simp
   ·cases h
  ·cases h
 |makeInterface t x=>simp only[nW] at h;split at h<;>cases h;simp
 |makeSlice t x y=>
  simp only[nW] at h
  split at h
  ·split at h
   ·split at h<;>cases h;simp
   ·cases h
  ·cases h
 |fieldAddr t x i=>simp only[nW] at h;split at h<;>cases h<;>simp
 |field t x i=>
  simp only[nW] at h
  split at h
  ·split at h
   ·split at h<;>cases h;simp
   ·cases h
  ·cases h
 |index t x i=>
  simp only[nW] at h
  split at h
  ·split at h
   ·split at h<;>cases h;simp
   ·cases h
  ·cases h
 |extract x i=>
  simp only[nW] at h
  split at h
  ·split at h<;>cases h;simp
  ·cases h
 |makeMap t r=>
  cases r with
  |some r=>cases h
  |none=>cases h;simp
 |typeAssert x u t ok=>
  cases ok with
  |false=>cases h
  |true=>
   simp only[nW] at h
   unfold V7 at h
   split at h
   ·split at h<;>cases h;simp
   ·cases h
 |lookup t x k ok=>
  cases ok with
  |true=>
   simp only[nW] at h
   split at h
   ·unfold O7 at h
    split at h
    ·rename_i hl
     split at h
     ·cases h
      have:=lt hl
      unfold Vb
      split<;>simp [this]
     ·cases h
    ·cases h
   ·cases h
  |false=>
   simp only[nW] at h
   split at h
   ·unfold Mg at h
    split at h
    ·rename_i hl
     split at h
     ·cases h
      have:=lt hl
      simp [this]
     ·cases h
    ·cases h
   ·cases h
 |range t x=>simp only[nW] at h;split at h<;>cases h;simp
 |next x st=>
  cases st with
  |false=>cases h
  |true=>
   simp only[nW] at h
   split at h
   ·unfold Mh at h
    split at h
    ·rename_i hl
     have:=lt hl
     split at h<;>cases h<;>simp [this]
    ·cases h
   ·cases h
 |mapUpdate t x k y=>
  simp only[nW] at h
  split at h
  ·unfold mapUpEff at h
   split at h
   ·rename_i hl
    split at h
    ·cases h
     have:=lt hl
     simp [this]
    ·cases h
   ·cases h
  ·cases h
 |insert t x k y=>
  simp only[nW] at h
  split at h
  ·unfold mapUpEff at h
   split at h
   ·rename_i hl
    split at h
    ·cases h
     have:=lt hl
     simp [this]
    ·cases h
   ·cases h
  ·cases h
 |_=>cases h
end
end Go.Abs
namespace Go.Abs
section
variable {P:Program} {ops:Array Oper} {K:AState→Prop}
theorem Ga: ∀ (ups:List (Nat×AObj)) (H N:List AObj),(∀l∈ups.map (·.1),l<H.length)→p4 (H++N) ups=p4 H ups++N
 |[],_,_,_=>rfl
 |(l,x)::r,H,N,h=>by
  simp only[p4]
  rw[List.set_append_left _ _ (h l (by simp))]
  exact Ga r _ N (fun k hk=>by rw[List.length_set];exact h k (by simp at hk ⊢;exact .inr hk))
theorem N4: ∀ (ups:List (Nat×AObj)) (H:List AObj) (l:Nat) (x:AObj),l ∉ ups.map (·.1)→p4 (H.set l x) ups=(p4 H ups).set l x
 |[],_,_,_,_=>rfl
 |(k,y)::r,H,l,x,h=>by
  simp only[dM,cU,not_or] at h
  simp only[p4]
  rw[ec _ _ h.1,N4 r _ l x h.2]
theorem MR: ∀ (u v:List (Nat×AObj)) (H:List AObj),(∀l∈u.map (·.1),l ∉ v.map (·.1))→p4 (p4 H u) v=p4 (p4 H v) u
 |[],_,_,_=>rfl
 |(l,x)::r,v,H,h=>by
  simp only[p4]
  rw[MR r v _ (fun k hk=>h k (by simp at hk ⊢;exact .inr hk)),N4 v H l x (h l (by simp))]
theorem GS {a b:List Nat} (h:Dm a b=true): ∀l∈a,l ∉ b:=by
 unfold Dm at h
 rw[cQ] at h
 intro l hl hb
 have:=h l hl
 simp [hb] at this
theorem XK {σ:AState} {d d':Option Tmp} {e e':wg} {j:Nat} (hd: ∀x,d=some x→d'≠some x) (hi:zQ ⟨j,σ.heap.length,e⟩ e'=true)
 (h1: ∀l∈e.up.map (·.1),l<σ.heap.length) (h2: ∀l∈e'.up.map (·.1),l<(σ.app d e).heap.length):(σ.app d e).app d' e'=(σ.app d' e').app d e:=by
 unfold zQ at hi
 simp only[cJ,dj] at hi
 obtain ⟨⟨⟨i1,i2⟩,i3⟩,_⟩:=hi
 have dis: ∀l∈e.up.map (·.1),l ∉ e'.up.map (·.1):=fun l hl hl'=>GS i1 l hl (cN.2 (.inr hl'))
 have h2': ∀l∈e'.up.map (·.1),l<σ.heap.length:=by
  intro l hl
  rcases i3 with i3|⟨_,i3⟩
  ·have:=h2 l hl
   have hn:e.nw=[]:=by simpa using i3
   simpa [AState.app,hn,tF] using this
  ·rw[cQ] at i3
   simpa using i3 l (cN.2 (.inr hl))
 have hslots:((σ.app d e).app d' e').slots=((σ.app d' e').app d e).slots:=by
  cases d with
  |none=>cases d'<;>rfl
  |some x=>cases d' with
   |none=>rfl
   |some y=>
    simp only[AState.app,AState.put]
    exact ec _ _ (fun he=>hd x rfl (by rw[he]))
 have Gq:((σ.app d e).app d' e').heap=((σ.app d' e').app d e).heap:=by
  simp only[AState.app]
  rw[Ga _ _ _ (by rw[tF];exact h2'),Ga _ _ _ (by rw[tF];exact h1),MR _ _ _ dis]
  rcases i3 with i3|⟨i3,_⟩
  ·have hn:e.nw=[]:=by simpa using i3
   simp [hn]
  ·have hn:e'.nw=[]:=by simpa using i3
   simp [hn]
 have ext: ∀ (s t:AState),s.slots=t.slots→s.heap=t.heap→s.low=t.low→s.df=t.df→s=t:=by
  intro s t h h' h'' h3;cases s;cases t;simp_all
 refine ext _ _ hslots Gq ?_ ?_<;>cases d<;>cases d'<;>rfl
theorem xm.lt {o:Oper} {σ:AState} {S:wg→Prop} (h:xm P ops o σ S) {e:wg} (he:S e):(∀l∈e.rd,l<σ.heap.length)∧ ∀l∈e.up.map (·.1),l<σ.heap.length:=by
 rcases h with ⟨_,h⟩|⟨_,_,e',he',_,h⟩|⟨_,f,args,V,_,_,_,h⟩|⟨_,f,args,e',_,hl,h⟩
 ·rw[(h e).1 he];simp
 ·rw[(h e).1 he];exact opEff_lt he'
 ·obtain ⟨r,_,rfl⟩:=(h e).1 he;simp
 ·rw[(h e).1 he];exact ⟨hl.1.1,fun l hm=>hl.1.1 l (hl.1.2 l hm)⟩
theorem Fk {o:Oper} {d:Tmp} (h:d ∉ o.looksAt ops): ∀x∈o.op.operands,x≠ .tmp d:=by
 intro x hx e
 subst e
 apply h
 unfold Oper.looksAt
 refine cN.2 (.inl ?_)
 simp only[List.mem_filterMap]
 exact ⟨.tmp d,by simpa using hx,rfl⟩
theorem HL {o:Oper} {d:Tmp} (h:d ∉ o.looksAt ops) {j:Nat} {b:Bool} {k:Tmp} (hg:o.guard=some (j,b)) (hk:(ops[j]?).bind (·.dst)=some k):k≠d:=by
 intro e
 subst e
 apply h
 unfold Oper.looksAt
 refine cN.2 (.inr ?_)
 simp [hg,hk]
theorem xm.back {oi or':Oper} {σ:AState} {S:wg→Prop} {er:wg} {j:Nat} (h:xm P ops oi (σ.app or'.dst er) S) (hap: ∀d,or'.dst=some d→d ∉ oi.looksAt ops)
 (hi: ∀e,S e→zQ ⟨j,σ.heap.length,er⟩ e=true):xm P ops oi σ S:=by
 refine h.local (fun x hx=> ?_) (Fj fun k b d hg hd=> ?_) (fun e he=> ?_)
 ·rw[app_ev];intro d hd;exact Fk (hap d hd) x hx
 ·rw[O9];intro d' hd';exact HL (hap d' hd') hg hd
 ·have hlt:=h.lt he
  have:=hi e he
  unfold zQ at this
  simp only[cJ,dj] at this
  obtain ⟨⟨⟨i1,i2⟩,i3⟩,_,i5⟩:=this
  refine ⟨⟨?_,?_⟩,fun hwh=> ?_⟩
  rotate_left 2
  ·rw[hwh] at i5
   simp only[eD,dG,false_or,dr] at i5
   simp [AState.app,i5.1,i5.2,p4]
  ·intro l hl
   have hl2:l<σ.heap.length:=by
    rcases i3 with i3|⟨_,i3⟩
    ·have hn:er.nw=[]:=by simpa using i3
     have:=hlt.1 l hl
     simpa [AState.app,hn,tF] using this
    ·rw[cQ] at i3
     simpa using i3 l (cN.2 (.inl hl))
   rw[N3 (fun hu=>GS i1 l hu (cN.2 (.inl hl))) hl2]
  ·intro hnw
   rcases i3 with i3|⟨i3,_⟩
   ·have hn:er.nw=[]:=by simpa using i3
    simp [AState.app,hn,tF]
   ·exact absurd (by simpa using i3) hnw
theorem xm.fwd {oi or':Oper} {σ:AState} {S:wg→Prop} {ei:wg} {j:Nat} (h:xm P ops or' σ S) (hap: ∀d,oi.dst=some d→d ∉ or'.looksAt ops)
 (hi: ∀e,S e→zQ ⟨j,σ.heap.length,e⟩ ei=true):xm P ops or' (σ.app oi.dst ei) S:=by
 refine h.local (fun x hx=> ?_) (Fj fun k b d hg hd=> ?_) (fun e he=> ?_)
 ·rw[app_ev];intro d hd;exact Fk (hap d hd) x hx
 ·rw[O9];intro d' hd';exact HL (hap d' hd') hg hd
 ·have hlt:=h.lt he
  have:=hi e he
  unfold zQ at this
  simp only[cJ,dj] at this
  obtain ⟨⟨⟨i1,i2⟩,i3⟩,i4,_⟩:=this
  refine ⟨⟨?_,?_⟩,fun hwh=> ?_⟩
  rotate_left 2
  ·rw[hwh] at i4
   simp only[eD,dG,false_or,dr] at i4
   simp [AState.app,i4.1,i4.2,p4]
  ·intro l hl
   rw[N3 (fun hu=>GS i2 l hu hl) (hlt.1 l hl)]
  ·intro hnw
   rcases i3 with i3|⟨i3,_⟩
   ·exact absurd (by simpa using i3) hnw
   ·have hn:ei.nw=[]:=by simpa using i3
    simp [AState.app,hn,tF]
theorem Dn (h:C3 ops=true):Region.noSelect ops=true∧ ∀ (j:Nat) (oj:Oper),ops[j]? =some oj→(∀d∈xY oj,d<j)∧
 ∀ (i:Nat) (oi:Oper),i<j→ops[i]? =some oi→tj ops i j=false→oi.apart ops oj=true∧ ¬ (Aw oi.op=true∧Aw oj.op=true):=by
 unfold C3 at h
 simp only[cJ] at h
 refine ⟨h.1,fun j oj hj=> ?_⟩
 have h2:=h.2
 rw[cQ] at h2
 have hjs:j<ops.size:=(cW.1 hj).1
 have h3:=h2 j (by simpa using hjs)
 simp only[hj,cJ] at h3
 refine ⟨fun d hd=> ?_,fun i oi hij hi RR=> ?_⟩
 ·have:=h3.1
  rw[cQ] at this
  simpa using this d hd
 ·have:=h3.2
  rw[cQ] at this
  have:=this i (by simpa using hij)
  simp only[hi,dj] at this
  unfold tj at RR
  rcases this with this|this
  ·rw[RR] at this;cases this
  ·simp only[cJ,Bool.not_eq_true',Bool.and_eq_false_iff] at this
   refine ⟨this.1,fun ⟨a,b⟩=> ?_⟩
   rcases this.2 with h|h
   ·rw[h] at a;cases a
   ·rw[h] at b;cases b
theorem indepB_le {j n n':Nat} {e e':wg} (h:n≤n') (hi:zQ ⟨j,n,e⟩ e'=true):zQ ⟨j,n',e⟩ e'=true:=by
 unfold zQ at*
 simp only[cJ,dj] at*
 refine ⟨⟨hi.1.1,hi.1.2.imp id fun ⟨a,b⟩=>⟨a,?_⟩⟩,hi.2⟩
 rw[cQ] at*
 intro l hl
 have:=b l hl
 simp only[decide_eq_true_eq] at*
 omega
theorem RS: ∀ {R:List Nat} {tr Uo:List Tr} {σ:AState},(∀t'∈Uo,∃t∈tr,t.j=t'.j∧t.e=t'.e∧t.n≤t'.n)→N1 P ops K R tr σ→N1 P ops K R Uo σ
 |[],_,_,_,_,h=>h
 |j::rest,tr,Uo,σ,hs,⟨o,S,ho,hst,h⟩=>by
  refine ⟨o,S,ho,hst,fun e he=> ?_⟩
  obtain ⟨hc,hr⟩:=h e he
  refine ⟨?_,RS ?_ hr⟩
  ·unfold Bn at*
   rw[cQ] at*
   intro t' ht'
   obtain ⟨t,ht,h1,h2,h3⟩:=hs t' ht'
   have:=hc t ht
   simp only[dj] at*
   rw[←h1]
   refine this.imp (fun hi=> ?_) id
   obtain ⟨a,b,c⟩:=t
   obtain ⟨a',b',c'⟩:=t'
   simp only at h1 h2 h3
   subst h1 h2
   exact indepB_le h3 hi
  ·intro t' ht'
   rcases cN.1 ht' with ht'|ht'
   ·obtain ⟨t,ht,h⟩:=hs t' ht'
    exact ⟨t,cN.2 (.inl ht),h⟩
   ·exact ⟨t',cN.2 (.inr ht'),rfl,rfl,cZ _⟩
theorem ordB_left {i j:Nat} (h:RP ops i j=false):tj ops i j=false:=by
 unfold RP at h;simp only[Bool.or_eq_false_iff] at h;exact h.1
theorem pull (hok:C3 ops=true) {i:Nat}: ∀ {R:List Nat} {tr:List Tr} {σ:AState},N1 P ops K R tr σ→i∈R→R.Pairwise (· < ·)→(∀r∈R,r<i→RP ops r i=false)→
 ∃o S,ops[i]? =some o∧xm P ops o σ S∧ ∀e,S e→Bn ops tr i e=true∧N1 P ops K (R.erase i) tr (σ.app o.dst e)
 |[],_,_,_,hi,_,_=>by simp at hi
 |r::R,tr,σ,⟨or',Sr,hor,hst,h⟩,hi,O0,RR=>by
  by_cases e:r=i
  ·subst e
   refine ⟨or',Sr,hor,hst,fun e he=> ?_⟩
   obtain ⟨hc,hr⟩:=h e he
   refine ⟨hc,?_⟩
   rw[eT]
   exact RQ (fun t ht=>cN.2 (.inl ht)) hr
  ·have Xp:i∈R:=by
    simp only[cU] at hi
    rcases hi with h|h
    ·exact absurd h.symm e
    ·exact h
   rw[dW] at O0
   have XL:r<i:=O0.1 i Xp
   have hor_i:RP ops r i=false:=RR r (by simp) XL
   have ih: ∀er,Sr er→_:=fun er her=>pull hok (h er her).2 Xp O0.2 (fun q hq hlt=>RR q (by simp [hq]) hlt)
   obtain ⟨er0,her0⟩:=hst.nonempty
   obtain ⟨oi,S0,Iz,hst0,h0⟩:=ih er0 her0
   obtain ⟨_,hspec⟩:=Dn hok
   obtain ⟨RT,hcalls⟩:=(hspec i oi Iz).2 r or' XL hor (ordB_left hor_i)
   obtain ⟨a1,a2,a3⟩:=dR RT
   have hind: ∀ {er:wg} {S:wg→Prop},(∀e,S e→Bn ops (tr++[⟨r,σ.heap.length,er⟩]) i e=true∧N1 P ops K (R.erase i) (tr++[⟨r,σ.heap.length,er⟩]) ((σ.app or'.dst er).app oi.dst e))→
    ∀e,S e→zQ ⟨r,σ.heap.length,er⟩ e=true:=by
    intro er S hS e he
    have:=(hS e he).1
    unfold Bn at this
    rw[cQ] at this
    have:=this ⟨r,σ.heap.length,er⟩ (by simp)
    simp only[hor_i,eW] at this
    exact this
   have Lr:xm P ops oi σ S0:=hst0.back (j:=r) a1 (hind h0)
   refine ⟨oi,S0,Iz,Lr,fun ei hei=> ?_⟩
   have same: ∀er,Sr er→Bn ops (tr++[⟨r,σ.heap.length,er⟩]) i ei=true∧N1 P ops K (R.erase i) (tr++[⟨r,σ.heap.length,er⟩]) ((σ.app or'.dst er).app oi.dst ei):=by
    intro er her
    obtain ⟨oi',S',hoi',hst',h'⟩:=ih er her
    rw[Iz] at hoi';cases hoi'
    by_cases hc:Aw oi.op=true
    ·
     have hcr:Aw or'.op=false:=by
      cases hq:Aw or'.op with
      |false=>rfl
      |true=>exact absurd ⟨hq,hc⟩ hcalls
     obtain ⟨ex,hex⟩:=hst.det hcr
     have:er=er0:=by rw[(hex er).1 her,(hex er0).1 her0]
     subst this
     exact h0 ei hei
    ·have Ub:Aw oi.op=false:=by simpa using hc
     have hb':xm P ops oi σ S':=hst'.back (j:=r) a1 (hind h')
     exact h' ei ((Lr.eq hb' Ub ei).1 hei)
   have hfwd:xm P ops or' (σ.app oi.dst ei) Sr:=by
    refine hst.fwd (j:=r) a3 (fun er her=> ?_)
    have:=(same er her).1
    unfold Bn at this
    rw[cQ] at this
    have:=this ⟨r,σ.heap.length,er⟩ (by simp)
    simp only[hor_i,eW] at this
    exact this
   refine ⟨?_,?_⟩
   ·have:=(same er0 her0).1
    unfold Bn at*
    rw[cQ] at*
    exact fun t ht=>this t (cN.2 (.inl ht))
   ·have hne:(r::R).erase i=r::R.erase i:=eU (by simpa using e)
    rw[hne]
    refine ⟨or',Sr,hor,hfwd,fun er her=>⟨(h er her).1,?_⟩⟩
    have hs:=same er her
    have hi':zQ ⟨r,σ.heap.length,er⟩ ei=true:=by
     have:=hs.1
     unfold Bn at this
     rw[cQ] at this
     have:=this ⟨r,σ.heap.length,er⟩ (by simp)
     simp only[hor_i,eW] at this
     exact this
    have hcomm:=XK (d:=or'.dst) (d':=oi.dst) a2 hi' (hst.lt her).2 (by
     intro l hl
     have:=(Lr.lt hei).2 l hl
     simp only[AState.app,eA,tF];omega)
    rw[←hcomm]
    refine RS ?_ hs.2
    intro t' ht'
    rcases cN.1 ht' with ht'|ht'
    ·exact ⟨t',cN.2 (.inl ht'),rfl,rfl,cZ _⟩
    ·simp only[cP] at ht'
     subst ht'
     exact ⟨⟨r,σ.heap.length,er⟩,by simp,rfl,rfl,by simp [AState.app,tF]⟩
theorem Jm {f:Nat→Nat} {r:Nat}: ∀ (ds:List Nat) (s:Nat),(ds.foldl (fun s d=>s|||2 ^ d|||f d) s).testBit r=true→s.testBit r=true∨ ∃d∈ds,d=r∨(f d).testBit r=true
 |[],s,h=> .inl h
 |d::ds,s,h=>by
  simp only[List.foldl_cons] at h
  rcases Jm ds _ h with h|⟨d',hd',h⟩
  ·rw[Nat.testBit_or,Nat.testBit_or,dj,dj] at h
   rcases h with (h|h)|h
   ·exact .inl h
   ·right
    refine ⟨d,by simp,.inl ?_⟩
    rw[Nat.testBit_two_pow] at h
    simpa using h
   ·exact .inr ⟨d,by simp,.inr h⟩
  ·exact .inr ⟨d',by simp [hd'],h⟩
theorem Qh {L:Nat→Prop} {all:List Oper} (hclosed: ∀j o,all[j]? =some o→L j→ ∀d∈xY o,L d): ∀ (os:List Oper) (acc:List Nat),all.drop acc.length=os→
 (∀k o,all[k]? =some o→k<acc.length→(∀d∈xY o,L d)→ ∀r,(acc.getD k 0).testBit r=true→L r)→(∀k o,all[k]? =some o→ ∀d∈xY o,d<k)→
 ∀k o,all[k]? =some o→(∀d∈xY o,L d)→ ∀r,((We os acc).getD k 0).testBit r=true→L r
 |[],acc,hd,h,_=>by
  intro k o hk Bz r hr
  refine h k o hk ?_ Bz r hr
  have h1:all.length≤acc.length:=by simpa using hd
  have h2:=(cM.1 hk).1
  omega
 |o::os,acc,hd,h,hlt=>by
  refine Qh hclosed os _ ?_ ?_ hlt
  ·have:=congrArg eM hd
   simpa [ey] using this
  ·intro k o' hk hkl Bz r hr
   have ho:all[acc.length]? =some o:=by
    have:=congrArg (fun l:List Oper=>l[0]?) hd
    simpa using this
   by_cases e:k<acc.length
   ·rw[dN,cO e,←dN] at hr
    exact h k o' hk e Bz r hr
   ·have e2:k=acc.length:=by simp at hkl;omega
    subst e2
    rw[ho] at hk;cases hk
    rw[dN,c9 (cZ _)] at hr
    simp only[eY,dD,eg] at hr
    rcases Jm (f:=fun d=>acc.getD d 0) _ _ hr with h0|⟨d,hd',rfl|h1⟩
    ·simp at h0
    ·exact Bz d hd'
    ·have hdl:d<acc.length:=hlt _ _ ho d hd'
     have hdl2:d<all.length:=by have:=(cM.1 ho).1;omega
     exact h d all[d] (cV hdl2) hdl (hclosed d _ (cV hdl2) (Bz d hd')) r h1
end
theorem getD_replicate_false' (m j:Nat):(dx m false).getD j false=false:=by
 by_cases h:j<m<;>simp [eV,h]
section region
variable {C:Ctx} {ops:Array Oper} {Q:qL→AState→Prop}
theorem GU {ro:Option Nat} {φ:Nat→Value} {σ:AState} {a:Act} {w:World} (S:qq C φ σ a w) {o:Oper} {i:Nat} {E:wg→Prop} (ho:ops[i]? =some o) (h:xm C.P ops o σ E) {K:Act→World→Prop} {Q':Exit→Act→World→Prop}
 (hK: ∀e φ' v w',E e→qq C φ' (σ.app o.dst e) (a.put o.dst v) w'→K (a.put o.dst v) w'):wpOpIn (DG ro) 0 C.P ops Q' i K a w:=by
 unfold wpOpIn
 simp only[ho]
 rcases h with ⟨hw,h⟩|⟨hw,_,e,he,hp,h⟩|⟨hw,f,args,V,hc,hf,_,h⟩|⟨hw,f,args,e,hc,hf,h⟩
 ·rw[zf S hw]
  simp only[dG,if_false]
  refine ⟨fun _ _=>trivial,hK _ φ undef w ((h _).2 rfl) ?_⟩
  rw[CU];exact S.put o.dst rfl
 ·rw[zf S hw]
  simp only[if_true]
  obtain ⟨n,v,w',φ',hr,hn,S'⟩:=HI S he hp
  refine ⟨fun _ _=>trivial,?_⟩
  rw[eE _ _ _ (XG he),hr]
  rcases hn with rfl|⟨rfl,rfl⟩
  ·rw[Oper.uponIn_value];exact hK e φ' v w' ((h e).2 rfl) S'
  ·rw[Oper.uponIn_skip];exact hK e φ' undef w' ((h e).2 rfl) S'
 ·rw[zf S hw]
  simp only[if_true]
  have xX:AU C.P f args σ (fun o' H'=> ∃r,V r∧o'= .ret r∧H'=σ.heap):=J5 hf (fun r hr=>⟨r,hr,rfl,rfl⟩)
  obtain ⟨vs,hrun,hr⟩:=GA S hc xX.1
  refine ⟨fun _ _=>trivial,?_⟩
  rw[eE _ _ _ (HJ hc),hrun,eF]
  refine ⟨fun h=>by simp [DG,dZ] at h,FD.2 ?_⟩
  refine (xX.2 C φ a w rfl S vs hr).mono fun en w' ⟨o',φ',H',⟨r,hV,ho',hH⟩,S',uM⟩=> ?_
  subst ho' hH
  cases en with
  |returned v=>
   refine hK {val:=r} φ' v w' ((h _).2 ⟨r,hV,rfl⟩) ?_
   rw[CU];exact S'.put o.dst uM
  |panicked chain=>exact uM.elim
  |outgrown=>exact uM.elim
 ·rw[zf S hw]
  simp only[if_true]
  have xX:=hf.2 σ (fun _ _=>rfl) (fun _=>rfl) (fun _=>rfl)
  obtain ⟨vs,hrun,hr⟩:=GA S hc xX.1
  refine ⟨fun _ _=>trivial,?_⟩
  rw[eE _ _ _ (HJ hc),hrun,eF]
  refine ⟨fun h=>by simp [DG,dZ] at h,FD.2 ?_⟩
  refine (xX.2 C φ a w rfl S vs hr).mono fun en w' ⟨o',φ',H',⟨ho',hH⟩,S',uM⟩=> ?_
  subst ho' hH
  cases en with
  |returned v=>
   refine hK e φ' v w' ((h _).2 rfl) ?_
   have:=S'.put o.dst uM
   have e1:({σ with heap:=p4 σ.heap e.up++e.nw}:AState).put o.dst e.val=σ.app o.dst e:=by
    cases hd:o.dst<;>rfl
   rw[e1] at this
   exact this
  |panicked chain=>exact uM.elim
  |outgrown=>exact uM.elim
end region
end Go.Abs
namespace Go.Abs
theorem Gb {E:Env} {b:Nat} {c:Array Value} {t:TypeId} {fr:Nat×Nat} (hcb:E.w.heap[b]? =some (.cells c t fr)): ∀ (cs:List AV) (off:Nat),(∀o,off≤o→o<off+cs.length→ ¬ E.mu b o)→
 m7 E cs ((c.toList.drop off).take cs.length)→(∀u∈(c.toList.drop off).take cs.length,u.oneCell'=true)→qD E b off cs
 |[],_,_,_,_=>trivial
 |x::cs,off,hm,r,h1=>by
  obtain ⟨u,us,hu,r1,r2⟩:=r
  have hcu:c[off]? =some u:=by
   have:(c.toList.drop off)[0]? =some u:=by
    have:=congrArg (fun l:List Value=>l[0]?) hu
    simpa using this
   simpa using this
  have htl:us=(c.toList.drop (off+1)).take cs.length:=by
   have h1:=congrArg eM hu
   simp only[List.tail_cons] at h1
   rw[←h1]
   cases hd:c.toList.drop off with
   |nil=>rw[hd] at hu;simp at hu
   |cons y ys=>
    have:c.toList.drop (off+1)=ys:=by
     have:=congrArg eM hd
     simpa [ey] using this
    rw[this];simp
  refine ⟨⟨hm off (cZ _) (by simp),u,by simp only[World.cell?,hcb];simpa using hcu,h1 u (by rw[hu];simp),r1⟩,Gb hcb cs (off+1) (fun o h2 h3=>hm o (by omega) (by simp;omega)) (by rw[←htl];exact r2) (fun v hv=>h1 v (by rw[hu,htl];simp [hv]))⟩
theorem Jn {E:Env} {b sz:Nat} {c:Array Value} {t:TypeId} {fr:Nat×Nat} (hcb:E.w.heap[b]? =some (.cells c t fr)): ∀ (rs:List (List AV)) (off:Nat),(∀r∈rs,r.length=sz)→
 (∀o,off≤o→o<off+rs.length*sz→ ¬ E.mu b o)→m7 E rs.flatten ((c.toList.drop off).take (rs.length*sz))→(∀u∈(c.toList.drop off).take (rs.length*sz),u.oneCell'=true)→qm E sz b off rs
 |[],_,_,_,_,_=>trivial
 |r::rs,off,hl,hm,h,h1=>by
  have hr:r.length=sz:=hl r (by simp)
  simp only[dH] at h
  have h3:=m7.take r.length h
  have h2:=m7.drop r.length h
  simp only[ep,eu,List.take_take,List.drop_take,List.drop_drop] at h3 h2
  have e1:min r.length ((r::rs).length*sz)=r.length:=by
   simp only[dK,eZ,e8];omega
  have e2:(r::rs).length*sz-r.length=rs.length*sz:=by simp only[dK,eZ,e8];omega
  have e3:(r::rs).length*sz=rs.length*sz+sz:=by simp only[dK,eZ,e8]
  rw[e1] at h3
  rw[e2,hr] at h2
  refine ⟨hr,Gb hcb r off (fun o h4 h5=>hm o h4 (by omega)) h3 (fun u hu=>h1 u ?_),Jn hcb rs (off+sz) (fun q hq=>hl q (by simp [hq])) (fun o h4 h5=>hm o (by omega) (by omega)) h2 (fun u hu=>h1 u ?_)⟩
  ·have:(c.toList.drop off).take r.length=((c.toList.drop off).take ((r::rs).length*sz)).take r.length:=by rw[List.take_take,e1]
   rw[this] at hu
   exact List.mem_of_mem_take hu
  ·have:(c.toList.drop (off+sz)).take (rs.length*sz)=((c.toList.drop off).take ((r::rs).length*sz)).drop sz:=by
    rw[List.drop_take,List.drop_drop]
    congr 1
    rw[←e2,hr]
   rw[this] at hu
   exact List.mem_of_mem_drop hu
def objNb (n:Nat):AObj→Prop
 | .cells cs=>nbL n cs
 | .acc _ _ rows=>GJ n rows
 | .map es=> ∀p∈es,p.1.nb n∧p.2.nb n
 | .loop _ slots _ _=>nbL n slots
 | .iter _ _=>True
 | .dead=>True
def Sub (x y:AV):Prop:= ∀ (E:Env) (v:Value),rB E x v→rB E y v
def tQ (xs ys:List AV):Prop:= ∀ (E:Env) (vs:List Value),m7 E xs vs→m7 E ys vs
def J7 (xs ys:List (List AV)):Prop:=xs.length=ys.length∧ ∀ (E:Env) (sz b off:Nat),qm E sz b off xs→qm E sz b off ys
def Pa (xs ys:List AV):Prop:=xs.length=ys.length∧ ∀ (E:Env) (b off:Nat),qD E b off xs→qD E b off ys
theorem Sub.refl (x:AV):Sub x x:=fun _ _ h=>h
theorem Sub.of_eq {x y:AV} (h:x=y):Sub x y:=h ▸ Sub.refl x
theorem Sub.any (x:AV):Sub x .any:=fun _ _ _=>trivial
theorem Sub.trans {x y z:AV} (h:Sub x y) (h':Sub y z):Sub x z:=fun E v r=>h' E v (h E v r)
theorem tQ.refl (xs:List AV):tQ xs xs:=fun _ _ h=>h
theorem tQ.nil:tQ [] []:=fun _ _ h=>h
theorem tQ.cons {x y:AV} {xs ys:List AV} (h:Sub x y) (hs:tQ xs ys):tQ (x::xs) (y::ys):=fun E _ ⟨u,us,hv,r1,r2⟩=>⟨u,us,hv,h E u r1,hs E us r2⟩
theorem Pa.refl (xs:List AV):Pa xs xs:=⟨rfl,fun _ _ _ h=>h⟩
theorem Pa.nil:Pa [] []:=Pa.refl []
theorem Pa.cons {x y:AV} {xs ys:List AV} (h:Sub x y) (hs:Pa xs ys):Pa (x::xs) (y::ys):=
 ⟨by simp [hs.1],fun E b off ⟨⟨hm,u,hu,h1,r⟩,r2⟩=>⟨⟨hm,u,hu,h1,h E u r⟩,hs.2 E b _ r2⟩⟩
theorem J7.refl (xs:List (List AV)):J7 xs xs:=⟨rfl,fun _ _ _ _ h=>h⟩
theorem J7.nil:J7 [] []:=J7.refl []
theorem J7.cons {x y:List AV} {xs ys:List (List AV)} (h:Pa x y) (hs:J7 xs ys):J7 (x::xs) (y::ys):=
 ⟨by simp [hs.1],fun E sz b off ⟨h1,r,r2⟩=>⟨by rw[←h.1];exact h1,h.2 E b off r,hs.2 E sz b _ r2⟩⟩
theorem Sub.agg {xs ys:List AV} (h:tQ xs ys):Sub (.agg xs) (.agg ys):=fun E _ ⟨vs,hv,r⟩=>⟨vs,hv,h E _ r⟩
theorem Sub.tup {xs ys:List AV} (h:tQ xs ys):Sub (.tup xs) (.tup ys):=fun E _ ⟨vs,hv,r⟩=>⟨vs,hv,h E _ r⟩
theorem Sub.pp {xs ys:List AV} (h:Pa xs ys):Sub (.pp xs) (.pp ys):=fun E _ ⟨b,off,hv,r⟩=>⟨b,off,hv,h.2 E b off r⟩
theorem Sub.iface {t:TypeId} {x y:AV} (h:Sub x y):Sub (.iface t x) (.iface t y):=fun E _ ⟨u,hv,r⟩=>⟨u,hv,h E u r⟩
theorem Sub.func {fn:Fn} {f f' c c':List AV} (h:tQ f f') (h':tQ c c'):Sub (.func fn f c) (.func fn f' c'):=fun E _ ⟨a,b,hv,r1,r2⟩=>⟨a,b,hv,h E _ r1,h' E _ r2⟩
theorem Sub.nE {t:Bool} {sz:Nat} {xs ys:List (List AV)} (h:J7 xs ys):Sub (.nE t sz xs) (.nE false sz ys):=fun E v ⟨base,cap,h1,h2,h3,h4,h5,h6⟩=>
 ⟨base,cap,by rw[←h.1];exact h1,by rw[←h.1];exact h2,(by intro h;cases h),h4,fun a ha hne=>h5 a ha (fun e=>hne (by have:=h.1;rw[e] at this;exact cR this.symm)),fun a ha=>h.2 E sz _ _ (h6 a ha)⟩
theorem Sub.empty (t:Bool) (sz sz':Nat):Sub (.nE t sz []) (.nE false sz' []):=fun _ _ ⟨base,cap,h1,h2,_,h4,_,_⟩=>
 ⟨base,cap,h1,h2,(by intro h;cases h),h4,(by intro a _ h;exact absurd rfl h),fun _ _=>trivial⟩
def Vk (H:List AObj) (n:Nat) (x y:AV):Prop:=
 (Sub x y∧y.nb n)∨ ∃l m sz rows,x= .acc l m∧H[l]? =some (.acc true sz rows)∧rows.length=m∧Sub (.nE false sz rows) y∧y.nb n
def sW (H:List AObj) (n:Nat):List AV→List AV→Prop
 |[],ys=>ys=[]
 |x::xs,ys=> ∃y zs,ys=y::zs∧Vk H n x y∧sW H n xs zs
def Co (H:List AObj) (n:Nat) (x y:AV):Prop:=Vk H n x y∨ ∃cs ds,x= .agg cs∧y= .agg ds∧sW H n cs ds
def zD (H:List AObj) (n:Nat):List AV→List AV→Prop
 |[],ys=>ys=[]
 |x::xs,ys=> ∃y zs,ys=y::zs∧Co H n x y∧zD H n xs zs
theorem GV {n:Nat}: ∀ {p q:List AV},nbL n p→nbL n q→nbL n (p++q)
 |[],_,_,hq=>hq
 |_::_,_,hp,hq=>⟨hp.1,GV hp.2 hq⟩
theorem Dp {n:Nat}: ∀ {rows:List (List AV)},GJ n rows→nbL n rows.flatten
 |[],_=>trivial
 |_::_,h=>by simp only[dH];exact GV h.1 (Dp h.2)
def CV:List (List AV)→List (List AV)→Prop
 |[],ys=>ys=[]
 |x::xs,ys=> ∃y zs,ys=y::zs∧(x.length=y.length∧tQ x y)∧CV xs zs
theorem CV.length: ∀ {xs ys:List (List AV)},CV xs ys→ys.length=xs.length
 |[],_,rfl=>rfl
 |_::_,_,⟨_,_,rfl,_,h⟩=>by simp [CV.length h]
theorem CV.sz {sz:Nat}: ∀ {xs ys:List (List AV)},CV xs ys→(∀r∈xs,r.length=sz)→ ∀r∈ys,r.length=sz
 |[],_,rfl,_=>by simp
 |x::_,_,⟨y,_,rfl,h1,h⟩,hl=>by
  intro r hr
  simp only[cU] at hr
  rcases hr with rfl|hr
  ·rw[←h1.1];exact hl x (by simp)
  ·exact CV.sz h (fun q hq=>hl q (by simp [hq])) r hr
theorem CV.flat {E:Env}: ∀ {xs ys:List (List AV)} {vs:List Value},CV xs ys→m7 E xs.flatten vs→m7 E ys.flatten vs
 |[],_,_,rfl,r=>r
 |x::xs,_,vs,⟨y,zs,rfl,h1,h⟩,r=>by
  simp only[dH] at r ⊢
  have h3:=m7.take x.length r
  have h2:=m7.drop x.length r
  simp only[ep,eu] at h3 h2
  have:=m7.append (h1.2 _ _ h3) (CV.flat h h2)
  rwa [List.take_append_drop] at this
def GW (H:List AObj) (n:Nat) (x y:AObj):Prop:=
 y= .dead∨(y=x∧objNb n x)∨(∃cs ds,x= .cells cs∧y= .cells ds∧zD H n cs ds)∨(∃uO sz rows vF,x= .acc uO sz rows∧y= .acc uO sz vF∧CV rows vF∧GJ n vF)∨
  ∃k s s' st uL,x= .loop k s st uL∧y= .loop k s' st uL∧zD H n s s'
def Ml (H:List AObj) (n:Nat):List AObj→List AObj→Prop
 |_,[]=>True
 |[],_::_=>False
 |x::xs,y::ys=>GW H n x y∧Ml H n xs ys
def Wf (n:Nat) (df:List (FuncId×List AV)):Prop:= ∀p∈df,nbL n p.2
theorem N5 {n:Nat}:Wf n []:=fun _ h=>by cases h
def Up (σ σ':AState):Prop:=((σ'.low=σ.low∧σ.low≤σ'.heap.length)∧σ'.df=σ.df∧Wf σ'.heap.length σ.df)∧zD σ.heap σ'.heap.length σ.slots σ'.slots∧Ml σ.heap σ'.heap.length σ.heap σ'.heap
theorem Ml.get {H:List AObj} {n:Nat}: ∀ {xs ys:List AObj} {l:Nat} {y:AObj},Ml H n xs ys→ys[l]? =some y→ ∃x,xs[l]? =some x∧GW H n x y
 |_,[],_,_,_,h=>by simp at h
 |[],_::_,_,_,h,_=>h.elim
 |x::_,_::_,0,_,⟨h,_⟩,hy=>by simp at hy;subst hy;exact ⟨x,by simp,h⟩
 |_::_,_::_,l+1,_,⟨_,h⟩,hy=>by
  simp at hy
  obtain ⟨x,hx,hc⟩:=Ml.get h hy
  exact ⟨x,by simpa using hx,hc⟩
section weak
variable {C:Ctx} {φ:Nat→Value} {σ σ':AState} {a:Act} {w:World}
theorem zD.rep {E E':Env} {H:List AObj} {n:Nat} (hone: ∀x y v,Co H n x y→rB E x v→rB E' y v): ∀ {xs ys:List AV} {vs:List Value},zD H n xs ys→m7 E xs vs→m7 E' ys vs
 |[],_,_,rfl,r=>r
 |_::_,_,_,⟨y,zs,rfl,hc,hr⟩,⟨u,us,rfl,r1,r2⟩=>⟨u,us,rfl,hone _ y u hc r1,zD.rep hone hr r2⟩
theorem sW.rep {E E':Env} {H:List AObj} {n:Nat} (hone: ∀x y v,Vk H n x y→rB E x v→rB E' y v): ∀ {xs ys:List AV} {vs:List Value},sW H n xs ys→m7 E xs vs→m7 E' ys vs
 |[],_,_,rfl,r=>r
 |_::_,_,_,⟨y,zs,rfl,hc,hr⟩,⟨u,us,rfl,r1,r2⟩=>⟨u,us,rfl,hone _ y u hc r1,sW.rep hone hr r2⟩
theorem Co.Vl {E E':Env} {H:List AObj} {n:Nat} (hone: ∀x y v,Vk H n x y→rB E x v→rB E' y v) (x y:AV) (v:Value) (h:Co H n x y) (r:rB E x v):rB E' y v:=by
 rcases h with h|⟨cs,ds,rfl,rfl,h⟩
 ·exact hone x y v h r
 ·obtain ⟨vs,hv,rl⟩:=r
  exact ⟨vs,hv,sW.rep hone h rl⟩
theorem Co.rep (S:qq C φ σ a w) {n:Nat} {x y:AV} {v:Value} (h:Co σ.heap n x y) (r:rB (C.env φ σ.heap w) x v):rB (C.env φ σ.heap w) y v:=by
 refine Co.Vl ?_ x y v h r
 intro x y v hc r
 rcases hc with ⟨hsub,hn⟩|⟨l,m,sz,rows,rfl,hl,hm,hsub,hn⟩
 ·exact hsub _ _ r
 ·have hv:=Fh S hl hm r
  subst hv
  exact hsub _ _ (Ln S hl)
theorem zD.repS (S:qq C φ σ a w) {n:Nat} {xs ys:List AV} {vs:List Value} (h:zD σ.heap n xs ys) (r:m7 (C.env φ σ.heap w) xs vs):m7 (C.env φ σ.heap w) ys vs:=
 zD.rep (fun _ _ _ h r=>Co.rep S h r) h r
theorem Up.sim (h:Up σ σ') (S:qq C φ σ a w):qq C φ σ' a w:=by
 obtain ⟨⟨DD,hdf,hdn⟩,hs,hh⟩:=h
 have DF: ∀ (l:Nat) (y:AObj),σ'.heap[l]? =some y→ ∃x,σ.heap[l]? =some x∧GW σ.heap σ'.heap.length x y:=fun l y hy=>hh.get hy
 have Qe: ∀ {x y:AObj} {h:Value} {b o:Nat},GW σ.heap σ'.heap.length x y→y.muts h b o→x.muts h b o:=by
  intro x y h b o hc hm
  rcases hc with rfl|⟨rfl,_⟩|⟨cs,ds,rfl,rfl,_⟩|⟨uO,sz,rows,vF,rfl,rfl,_,_⟩|⟨lk,s1,s2,st,uL,rfl,rfl,_⟩
  ·simp [AObj.muts] at hm
  ·exact hm
  ·cases h with
   |pointer p=>cases p<;>exact hm
   |_=>exact hm
  ·cases h with
   |slice p _ _=>cases p<;>exact hm
   |_=>exact hm
  ·cases h with
   |func q _ _=>cases q<;>exact hm
   |_=>exact hm
 have Cv: ∀ {x y:AObj} {h:Value} {b:Nat},GW σ.heap σ'.heap.length x y→y.block h b→x.block h b:=by
  intro x y h b hc hm
  rcases hc with rfl|⟨rfl,_⟩|⟨cs,ds,rfl,rfl,_⟩|⟨uO,sz,rows,vF,rfl,rfl,_,_⟩|⟨lk,s1,s2,st,uL,rfl,rfl,_⟩
  ·simp [AObj.block] at hm
  ·exact hm
  ·cases h with
   |pointer p=>cases p<;>exact hm
   |_=>exact hm
  ·cases h with
   |slice p _ _=>cases p<;>exact hm
   |_=>exact hm
  ·cases h with
   |func q _ _=>cases q<;>exact hm
   |_=>exact hm
 have B6: ∀b o,Ck φ σ'.heap b o→Ck φ σ.heap b o:=by
  rintro b o ⟨l,y,hy,hm⟩
  obtain ⟨x,hx,hc⟩:=DF l y hy
  exact ⟨l,x,hx,Qe hc hm⟩
 have le:(C.env φ σ.heap w).Le σ'.heap.length (C.env φ σ'.heap w):=by
  refine ⟨cZ _,fun l hl=> .inl ⟨rfl,?_⟩,fun b o u hm hc=>⟨fun h=>hm (h.imp (B6 b o) id),hc⟩⟩
  obtain ⟨x,hx,hc⟩:=DF l σ'.heap[l] (cV hl)
  simp only[Ctx.env]
  rw[cV hl,hx]
  rcases hc with h|⟨h,_⟩|⟨cs,ds,rfl,h,_⟩|⟨uO,sz,rows,vF,rfl,h,hr,_⟩|⟨lk,s1,s2,st,uL,rfl,h,_⟩
  ·right;rw[h];rfl
  ·left;rw[h]
  ·left;rw[h];rfl
  ·left;rw[h];simp only[oR,hr.length]
  ·left;rw[h];rfl
 have hone: ∀x y v,Co σ.heap σ'.heap.length x y→rB (C.env φ σ.heap w) x v→rB (C.env φ σ'.heap w) y v:=by
  refine Co.Vl ?_
  intro x y v hc r
  rcases hc with ⟨hsub,hn⟩|⟨l,m,sz,rows,rfl,hl,hm,hsub,hn⟩
  ·exact rB.mono le _ _ hn (hsub _ _ r)
  ·have hv:=Fh S hl hm r
   subst hv
   exact rB.mono le _ _ hn (hsub _ _ (Ln S hl))
 have At:uG C φ σ'.heap w σ'.df a.defers:=by
  rw[hdf]
  exact S.defers.step' (fun xs vs ⟨f,hf⟩ r=>m7.mono le _ _ (hdn _ hf) r) (fun _ _ _=>rfl) (fun l x b hx hb=>by
   obtain ⟨y,hy,hc⟩:=DF l x hx
   exact .inl ⟨l,y,hy,Cv hc hb⟩)
 refine {slots:=zD.rep hone hs S.slots,defers:=At,objs:= ?_,apart:= ?_,vk:= ?_,size:=S.size,old:=S.old,qQ:=S.qQ,A9:= ?_,wG:=S.wG,rest:=S.rest,low:=⟨by rw[DD.1];exact S.low.1,by rw[DD.1];exact DD.2⟩,names:= ?_}
 ·intro l y hy
  obtain ⟨x,hx,hc⟩:=DF l y hy
  have r:=S.objs l x hx
  rcases hc with rfl|⟨rfl,hn⟩|⟨cs,ds,rfl,rfl,V8⟩|⟨uO,sz,rows,vF,rfl,rfl,hr,hn⟩|⟨lk,s1,s2,st,uL,rfl,rfl,V8⟩
  ·exact trivial
  ·cases y with
   |cells cs=>
    obtain ⟨b,c,t,h1,h2,rl,h3⟩:=r
    exact ⟨b,c,t,h1,h2,m7.mono le _ _ hn rl,h3⟩
   |acc uO sz rows=>
    obtain ⟨base,cap,h1,h2,h3,h4,h5⟩:=r
    refine ⟨base,cap,h1,h2,h3,h4,fun a0 ha hc=> ?_⟩
    obtain ⟨h6,c,t,h7,h8,rl,h9⟩:=h5 a0 ha hc
    exact ⟨h6,c,t,h7,h8,m7.mono le _ _ (by
     clear rl h9 h8 h7 h6 hc ha h5 h4 h3 h2 h1
     revert hn
     simp only[objNb]
     clear hy hx
     induction rows with
     |nil=>intro _;trivial
     |cons r rs ih=>
      intro hn
      simp only[dH]
      have: ∀ (p q:List AV),nbL σ'.heap.length p→nbL σ'.heap.length q→nbL σ'.heap.length (p++q):=by
       intro p q hp hq
       induction p with
       |nil=>exact hq
       |cons z p ihp=>exact ⟨hp.1,ihp hp.2⟩
      exact this r _ hn.1 (ih hn.2)) rl,h9⟩
   |map es=>
    obtain ⟨r',en,cl,h1,h2,rp⟩:=r
    exact ⟨r',en,cl,h1,h2,tX.mono le hn rp⟩
   |loop lk s1 st uL=>
    obtain ⟨D,rec,h1,h2,h3,h4,rl⟩:=r
    exact ⟨D,rec,h1,h2,h3,h4,m7.mono le _ _ hn rl⟩
   |iter s p=>exact r
   |dead=>trivial
  ·obtain ⟨b,c,t,h1,h2,rl,h3⟩:=r
   exact ⟨b,c,t,h1,h2,zD.rep hone V8 rl,h3⟩
  ·obtain ⟨base,cap,h1,h2,h3,h4,h5⟩:=r
   have hlen:=hr.length
   refine ⟨base,cap,by rw[hlen];exact h1,by rw[hlen];exact h2,h3,hr.sz h4,fun a0 ha hc=> ?_⟩
   obtain ⟨h6,c,t,h7,h8,rl,h9⟩:=h5 a0 ha hc
   rw[hlen]
   exact ⟨h6,c,t,h7,h8,m7.mono le _ _ (Dp hn) (hr.flat rl),h9⟩
  ·obtain ⟨D,rec,h1,h2,h3,h4,rl⟩:=r
   exact ⟨D,rec,h1,h2,h3,h4,zD.rep hone V8 rl⟩
 ·intro l l' x x' b hx hx' hb hb'
  obtain ⟨y,hy,hc⟩:=DF l x hx
  obtain ⟨y',hy',Ub⟩:=DF l' x' hx'
  exact S.apart l l' y y' b hy hy' (Cv hc hb) (Cv Ub hb')
 ·intro l x b o hx hb
  obtain ⟨y,hy,hc⟩:=DF l x hx
  exact S.vk l y b o hy (Cv hc hb)
 ·intro l x b o hx hm hb
  obtain ⟨y,hy,hc⟩:=DF l x hx
  exact S.A9 l y b o hy (Qe hc hm) hb
 ·intro l hl
  have hlt:l<σ'.heap.length:=by have:=S.low;omega
  obtain ⟨x,hx,hc⟩:=DF l σ'.heap[l] (cV hlt)
  have hn:=S.names l hl
  rw[hx] at hn
  rw[cV hlt]
  have XM:oR (some σ'.heap[l])=oR (some x)∨oR (some σ'.heap[l])=none:=by
   rcases hc with h|⟨h,_⟩|⟨cs,ds,rfl,h,_⟩|⟨uO,sz,rows,vF,rfl,h,hr,_⟩|⟨lk,s1,s2,st,uL,rfl,h,_⟩
   ·right;rw[h];rfl
   ·left;rw[h]
   ·left;rw[h];rfl
   ·left;rw[h];simp only[oR,hr.length]
   ·left;rw[h];rfl
  rcases XM with h|h
  ·rw[h];exact hn
  ·rw[h]
   rcases hn with ⟨h1,_⟩|⟨⟨k,h1,_⟩,h3⟩
   ·exact .inl ⟨h1,.inr rfl⟩
   ·exact .inr ⟨⟨k,h1,fun k' hk'=>by cases hk'⟩,h3⟩
theorem Up.imp (h:Up σ σ'):Fi σ σ':=fun _ φ _ _ S=>⟨φ,h.sim S⟩
theorem XN {i s sz:Nat} {uO:Bool} (h:σ.slots[i]? =some (.nE true s [])):Fi σ {σ with slots:=σ.slots.set i (.acc σ.heap.length 0),heap:=σ.heap++[.acc uO sz []]}:=by
 intro C φ a w S
 obtain ⟨v,hv,base,cap,rfl,_,hc,_⟩:=S.slots.get h
 have hcap:cap=0:=hc rfl
 subst hcap
 have S':=S.NW (uO:=uO) (sz:=sz) (rows:=[]) (w':=w) (h':= .slice base 0 0) (cZ _) (fun _ _=>rfl) (fun _=>rfl) ⟨rfl,rfl⟩ (by
  intro b hb
  cases base<;>simp [AObj.block] at hb) (fun E' _ _=>⟨base,0,rfl,cZ _,fun _=>rfl,by simp,fun b _ h0=>absurd rfl h0⟩)
 refine ⟨(fun k=>if k=σ.heap.length then .slice base 0 0 else φ k),?_⟩
 have:=S'.put (some i) (x:= .acc σ.heap.length 0) (v:= .slice base 0 0) ⟨by simp [Ctx.env],⟨_,_,_,rfl⟩,fun k hk=>by
  simp only[Ctx.env,c9 (cZ _),eY,dD,oR,cH] at hk
  exact ⟨by simp,fun _=>by simp [Ctx.env]⟩⟩
 refine {this with slots:= ?_,defers:=this.defers}
 have hs:=this.slots
 have ha:(a.put (some i) (.slice base 0 0)).tmps.toList=a.tmps.toList:=by
  simp only[Act.put,Array.toList_setIfInBounds]
  apply List.ext_getElem?
  intro k
  by_cases e:i=k
  ·subst e
   have hlt:i<a.tmps.toList.length:=(cM.1 hv).1
   rw[dc hlt];exact hv.symm
  ·rw[cY e]
 rw[ha] at hs
 exact hs
end weak
def chunks (sz:Nat):Nat→List AV→List (List AV)
 |0,_=>[]
 |n+1,cs=>cs.take sz::chunks sz n (cs.drop sz)
mutual
def O1 (low:Nat) (H:List AObj):AV→AV
 | .acc l n=>if l<low then .acc l n else match H[l]? with
   |some (.acc _ sz rows)=>if rows.length=n then .nE false sz rows else .any
   |_=> .any
 | .own l i n o sz=>if l<low then .own l i n o sz else .any
 | .agg cs=> .agg (Ny low H cs)
 | .tup cs=> .tup (Ny low H cs)
 | .any=> .any
 | .bool b=> .bool b
 | .int k n=> .int k n
 | .str s=> .str s
 | .raw v=> .raw v
 | .nE t sz rows=> .nE t sz rows
 | .ptr l off=> .ptr l off
 | .map l=> .map l
 | .pp cs=> .pp cs
 | .func fn f c=> .func fn f c
 | .iface t x=> .iface t x
def Ny (low:Nat) (H:List AObj):List AV→List AV
 |[]=>[]
 |x::xs=>O1 low H x::Ny low H xs
end
section res
variable {C:Ctx} {φ:Nat→Value} {σ:AState} {a:Act} {w:World}
theorem XO (_S:qq C φ σ a w):(C.env φ σ.heap w).Le 0 (C.env φ [] w):=by
 refine ⟨ez _,fun l hl=>absurd hl (dg _),fun b o u hm hc=>⟨?_,hc⟩⟩
 simp only[Ctx.env] at hm ⊢
 rintro (⟨l,x,hx,_⟩|h)
 ·simp at hx
 ·exact hm (.inr h)
structure Drops (C:Ctx) (φ:Nat→Value) (σ:AState) (w:World) (E':Env):Prop where
 le:(C.env φ σ.heap w).Le σ.low E'
 w:E'.w=w
 free: ∀ (l:Nat) (x:AObj) (b o:Nat),σ.low≤l→σ.heap[l]? =some x→x.block (φ l) b→ ¬ E'.mu b o
theorem qq.drops (S:qq C φ σ a w) (h0:σ.low=0):Drops C φ σ w (C.env φ [] w):=by
 refine ⟨by rw[h0];exact XO S,rfl,fun l x b o _ hx hb=> ?_⟩
 simp only[Ctx.env]
 rintro (⟨l',y,hy,_⟩|hA)
 ·simp at hy
 ·exact S.vk l x b o hx hb hA
mutual
theorem Pb (S:qq C φ σ a w) {E':Env} (D:Drops C φ σ w E'):
 ∀ (x:AV) (v:Value),(O1 σ.low σ.heap x).nb σ.low→rB (C.env φ σ.heap w) x v→rB E' (O1 σ.low σ.heap x) v
 | .acc l n,v,hn,r=>by
   simp only[O1] at hn ⊢
   by_cases DD:l<σ.low
   ·rw[if_pos DD];exact rB.mono D.le (.acc l n) v DD r
   ·rw[if_neg DD] at hn ⊢
    split
    ·rename_i uO sz rows hl
     simp only[hl] at hn
     split
     ·rename_i hlen
      rw[if_pos hlen] at hn
      have hv:=Fh S hl hlen r
      subst hv
      obtain ⟨base,cap,hh,h2,h3,h4,h5⟩:=S.objs l _ hl
      refine ⟨base,cap,hh,h2,(by intro h;cases h),h3,?_,?_⟩
      ·intro b hb hne
       exact (h5 b hb (fun h0=>hne (cR (by omega)))).1
      ·intro b hb
       by_cases hc:cap=0
       ·have:rows=[]:=cR (by omega)
        subst this;trivial
       ·obtain ⟨hsp,c,t,hcb,hsz,rl,h1⟩:=h5 b hb hc
        subst hb
        refine Jn (E:=E') (c:=c) (t:=t) (fr:=(0,0)) (by rw[D.w];exact hcb) rows b.off h4 ?_ (m7.mono D.le _ _ (Dp hn) rl) h1
        intro o _ _
        exact D.free l _ b.block o (by omega) hl (by rw[hh];exact ⟨rfl,hc⟩)
     ·exact trivial
    ·exact trivial
 | .own l i n o sz,v,hn,r=>by
   simp only[O1] at hn ⊢
   by_cases DD:l<σ.low
   ·rw[if_pos DD];exact rB.mono D.le (.own l i n o sz) v DD r
   ·rw[if_neg DD];exact trivial
 | .agg cs,v,hn,⟨vs,hv,rl⟩=>⟨vs,hv,Nz S D cs _ hn rl⟩
 | .tup cs,v,hn,⟨vs,hv,rl⟩=>⟨vs,hv,Nz S D cs _ hn rl⟩
 | .any,_,_,_=>trivial
 | .bool _,_,_,r=>r
 | .int _ _,_,_,r=>r
 | .str _,_,_,r=>r
 | .raw _,_,_,r=>r
 | .nE t sz rows,_,hn,r=>rB.mono D.le (.nE t sz rows) _ hn r
 | .ptr l off,_,hn,r=>rB.mono D.le (.ptr l off) _ hn r
 | .map l,_,hn,r=>rB.mono D.le (.map l) _ hn r
 | .pp cs,_,hn,r=>rB.mono D.le (.pp cs) _ hn r
 | .func fn f c,_,hn,r=>rB.mono D.le (.func fn f c) _ hn r
 | .iface t x,_,hn,r=>rB.mono D.le (.iface t x) _ hn r
theorem Nz (S:qq C φ σ a w) {E':Env} (D:Drops C φ σ w E'):
 ∀ (xs:List AV) (vs:List Value),nbL σ.low (Ny σ.low σ.heap xs)→m7 (C.env φ σ.heap w) xs vs→m7 E' (Ny σ.low σ.heap xs) vs
 |[],_,_,r=>r
 |x::xs,_,hn,⟨u,us,hv,r1,r2⟩=>⟨u,us,hv,Pb S D x u hn.1 r1,Nz S D xs us hn.2 r2⟩
end
mutual
theorem frz_of_nb (low:Nat) (H:List AObj): ∀x:AV,x.nb 0→O1 low H x=x
 | .acc _ _,h=>absurd h (dg _)
 | .own _ _ _ _ _,h=>absurd h (dg _)
 | .agg cs,h=>by rw[O1,zg low H cs h]
 | .tup cs,h=>by rw[O1,zg low H cs h]
 | .any,_| .bool _,_| .int _ _,_| .str _,_| .raw _,_| .nE _ _ _,_| .ptr _ _,_| .map _,_| .pp _,_| .func _ _ _,_| .iface _ _,_=>by rw[O1]
theorem zg (low:Nat) (H:List AObj): ∀xs:List AV,nbL 0 xs→Ny low H xs=xs
 |[],_=>rfl
 |x::xs,h=>by rw[Ny,frz_of_nb low H x h.1,zg low H xs h.2]
end
end res
end Go.Abs
namespace Go.Abs
mutual
def AV.ren (ρ:Nat→Nat):AV→AV
 | .agg cs=> .agg (renL ρ cs)
 | .tup cs=> .tup (renL ρ cs)
 | .pp cs=> .pp (renL ρ cs)
 | .nE t sz rows=> .nE t sz (Bw ρ rows)
 | .acc l n=> .acc (ρ l) n
 | .own l off len cap sz=> .own (ρ l) off len cap sz
 | .ptr l off=> .ptr (ρ l) off
 | .map l=> .map (ρ l)
 | .func fn f c=> .func fn (renL ρ f) (renL ρ c)
 | .iface t x=> .iface t (x.ren ρ)
 | .any=> .any
 | .bool b=> .bool b
 | .int k n=> .int k n
 | .str s=> .str s
 | .raw v=> .raw v
def renL (ρ:Nat→Nat):List AV→List AV
 |[]=>[]
 |c::cs=>c.ren ρ::renL ρ cs
def Bw (ρ:Nat→Nat):List (List AV)→List (List AV)
 |[]=>[]
 |r::rs=>renL ρ r::Bw ρ rs
end
theorem renL_length (ρ:Nat→Nat): ∀cs:List AV,(renL ρ cs).length=cs.length
 |[]=>rfl
 |_::cs=>by simp [renL,renL_length ρ cs]
theorem vn (ρ:Nat→Nat): ∀cs:List (List AV),(Bw ρ cs).length=cs.length
 |[]=>rfl
 |_::cs=>by simp [Bw,vn ρ cs]
theorem Ls (ρ:Nat→Nat): ∀a b:List AV,renL ρ (a++b)=renL ρ a++renL ρ b
 |[],_=>rfl
 |_::a,b=>by simp [renL,Ls ρ a b]
theorem J8 (ρ:Nat→Nat): ∀rs:List (List AV),(Bw ρ rs).flatten=renL ρ rs.flatten
 |[]=>rfl
 |r::rs=>by simp [Bw,Ls,J8 ρ rs]
mutual
theorem ET (ρ:Nat→Nat): ∀x:AV,x.nb 0→x.ren ρ=x
 | .acc _ _,h=>absurd h (dg _)
 | .own _ _ _ _ _,h=>absurd h (dg _)
 | .ptr _ _,h=>absurd h (dg _)
 | .map _,h=>absurd h (dg _)
 | .agg cs,h=>by rw[AV.ren,tR ρ cs h]
 | .tup cs,h=>by rw[AV.ren,tR ρ cs h]
 | .pp cs,h=>by rw[AV.ren,tR ρ cs h]
 | .nE _ _ rows,h=>by rw[AV.ren,vG ρ rows h]
 | .func _ f c,h=>by rw[AV.ren,tR ρ f h.1,tR ρ c h.2]
 | .iface _ x,h=>by rw[AV.ren,ET ρ x h]
 | .any,_| .bool _,_| .int _ _,_| .str _,_| .raw _,_=>by rw[AV.ren]
theorem tR (ρ:Nat→Nat): ∀xs:List AV,nbL 0 xs→renL ρ xs=xs
 |[],_=>rfl
 |x::xs,h=>by rw[renL,ET ρ x h.1,tR ρ xs h.2]
theorem vG (ρ:Nat→Nat): ∀xs:List (List AV),GJ 0 xs→Bw ρ xs=xs
 |[],_=>rfl
 |x::xs,h=>by rw[Bw,tR ρ x h.1,vG ρ xs h.2]
end
def AObj.ren (ρ:Nat→Nat):AObj→AObj
 | .cells cs=> .cells (renL ρ cs)
 | .acc uO sz rows=> .acc uO sz (Bw ρ rows)
 | .map es=> .map (es.map fun p=>(p.1.ren ρ,p.2.ren ρ))
 | .loop k slots st uL=> .loop k (renL ρ slots) st uL
 | .iter s p=> .iter s p
 | .dead=> .dead
def wo.ren (ρ:Nat→Nat):wo→wo
 | .ret r=> .ret (r.ren ρ)
 | .panic x=> .panic (x.ren ρ)
structure N6 (N:Nat) (ρ:Nat→Nat) (E E':Env):Prop where
 n: ∀l,l<N→ρ l<E'.n
 names: ∀l,l<N→E'.φ (ρ l)=E.φ l∧(E'.ln (ρ l)=E.ln l∨E'.ln (ρ l)=none)
 mem: ∀b o u,¬ E.mu b o→E.w.cell? ⟨b,o,none⟩=some u→ ¬ E'.mu b o∧E'.w.cell? ⟨b,o,none⟩=some u
section
variable {E E':Env} {N:Nat} {ρ:Nat→Nat}
mutual
theorem rB.ren (h:N6 N ρ E E'): ∀ (x:AV) (v:Value),x.nb N→rB E x v→rB E' (x.ren ρ) v
 | .any,_,_,_=>trivial
 | .bool _,_,_,r=>r
 | .int _ _,_,_,r=>r
 | .str _,_,_,r=>r
 | .raw _,_,_,r=>r
 | .agg cs,_,hb,⟨vs,hv,hr⟩=>⟨vs,hv,m7.ren h cs _ hb hr⟩
 | .tup cs,_,hb,⟨vs,hv,hr⟩=>⟨vs,hv,m7.ren h cs _ hb hr⟩
 | .nE t sz rows,_,hb,⟨base,cap,h1,h2,h3,h4,h5,h6⟩=>
   ⟨base,cap,by rw[vn];exact h1,by rw[vn];exact h2,fun e=>by rw[vn];exact h3 e,h4,fun a ha hne=>h5 a ha (fun e=>hne (by rw[e];rfl)),fun a ha=>qm.ren h rows _ hb (h6 a ha)⟩
 | .acc l n,v,hb,⟨_,MA,r⟩=>⟨h.n l hb,MA,fun k hk=>by
     rcases (h.names l hb).2 with e|e
     ·rw[e] at hk;rw[(h.names l hb).1];exact r k hk
     ·rw[e] at hk;cases hk⟩
 | .own l i n o sz,v,hb,⟨_,MA,r⟩=>⟨h.n l hb,MA,fun k hk=>by
     rcases (h.names l hb).2 with e|e
     ·rw[e] at hk;rw[(h.names l hb).1];exact r k hk
     ·rw[e] at hk;cases hk⟩
 | .ptr l off,v,hb,⟨_,b,hφ,hv⟩=>⟨h.n l hb,b,by rw[(h.names l hb).1];exact hφ,hv⟩
 | .map l,v,hb,⟨_,hv,r,hφ⟩=>⟨h.n l hb,by rw[(h.names l hb).1];exact hv,r,by rw[(h.names l hb).1];exact hφ⟩
 | .pp cs,_,hb,⟨b,off,hv,r⟩=>⟨b,off,hv,qD.ren h cs _ hb r⟩
 | .func _ f c,_,hb,⟨f',c',hv,r1,r2⟩=>⟨f',c',hv,m7.ren h f _ hb.1 r1,m7.ren h c _ hb.2 r2⟩
 | .iface _ x,_,hb,⟨u,hv,r⟩=>⟨u,hv,rB.ren h x _ hb r⟩
theorem m7.ren (h:N6 N ρ E E'): ∀ (cs:List AV) (vs:List Value),nbL N cs→m7 E cs vs→m7 E' (renL ρ cs) vs
 |[],_,_,r=>r
 |c::cs,_,hb,⟨u,us,hv,r1,r2⟩=>⟨u,us,hv,rB.ren h c _ hb.1 r1,m7.ren h cs _ hb.2 r2⟩
theorem qD.ren (h:N6 N ρ E E') {b:Nat}: ∀ (cs:List AV) (off:Nat),nbL N cs→qD E b off cs→qD E' b off (renL ρ cs)
 |[],_,_,_=>trivial
 |c::cs,off,hb,⟨⟨hm,u,hu,h1,r1⟩,r2⟩=>
  let ⟨m,c'⟩:=h.mem b off u hm hu
  ⟨⟨m,u,c',h1,rB.ren h c _ hb.1 r1⟩,qD.ren h cs _ hb.2 r2⟩
theorem qm.ren (h:N6 N ρ E E') {sz b:Nat}: ∀ (rs:List (List AV)) (off:Nat),GJ N rs→qm E sz b off rs→qm E' sz b off (Bw ρ rs)
 |[],_,_,_=>trivial
 |r::rs,off,hb,⟨hl,r1,r2⟩=>⟨by rw[renL_length];exact hl,qD.ren h r _ hb.1 r1,qm.ren h rs _ hb.2 r2⟩
end
structure UnLe (N:Nat) (ρ:Nat→Nat) (E' E:Env):Prop where
 n:N≤E.n
 names: ∀l,l<N→E.φ l=E'.φ (ρ l)∧E.ln l=E'.ln (ρ l)
 mem: ∀b o u,¬ E'.mu b o→E'.w.cell? ⟨b,o,none⟩=some u→ ¬ E.mu b o∧E.w.cell? ⟨b,o,none⟩=some u
mutual
theorem rB.Aq (h:UnLe N ρ E' E): ∀ (x:AV) (v:Value),x.nb N→rB E' (x.ren ρ) v→rB E x v
 | .any,_,_,_=>trivial
 | .bool _,_,_,r=>r
 | .int _ _,_,_,r=>r
 | .str _,_,_,r=>r
 | .raw _,_,_,r=>r
 | .agg cs,_,hb,⟨vs,hv,hr⟩=>⟨vs,hv,m7.Aq h cs _ hb hr⟩
 | .tup cs,_,hb,⟨vs,hv,hr⟩=>⟨vs,hv,m7.Aq h cs _ hb hr⟩
 | .nE t sz rows,_,hb,⟨base,cap,h1,h2,h3,h4,h5,h6⟩=>by
   rw[vn] at h1 h2 h3
   refine ⟨base,cap,h1,h2,h3,h4,fun a ha hne=>h5 a ha (fun e=>hne ?_),fun a ha=>qm.Aq h rows _ hb (h6 a ha)⟩
   have:=congrArg List.length e
   rw[vn] at this
   exact cR this
 | .acc l n,v,hb,⟨_,MA,r⟩=>⟨cX hb h.n,MA,fun k hk=>by rw[(h.names l hb).2] at hk;rw[(h.names l hb).1];exact r k hk⟩
 | .own l i n o sz,v,hb,⟨_,MA,r⟩=>⟨cX hb h.n,MA,fun k hk=>by rw[(h.names l hb).2] at hk;rw[(h.names l hb).1];exact r k hk⟩
 | .ptr l off,v,hb,⟨_,b,hφ,hv⟩=>⟨cX hb h.n,b,by rw[(h.names l hb).1];exact hφ,hv⟩
 | .map l,v,hb,⟨_,hv,r,hφ⟩=>⟨cX hb h.n,by rw[(h.names l hb).1];exact hv,r,by rw[(h.names l hb).1];exact hφ⟩
 | .pp cs,_,hb,⟨b,off,hv,r⟩=>⟨b,off,hv,qD.Aq h cs _ hb r⟩
 | .func _ f c,_,hb,⟨f',c',hv,r1,r2⟩=>⟨f',c',hv,m7.Aq h f _ hb.1 r1,m7.Aq h c _ hb.2 r2⟩
 | .iface _ x,_,hb,⟨u,hv,r⟩=>⟨u,hv,rB.Aq h x _ hb r⟩
theorem m7.Aq (h:UnLe N ρ E' E): ∀ (cs:List AV) (vs:List Value),nbL N cs→m7 E' (renL ρ cs) vs→m7 E cs vs
 |[],_,_,r=>r
 |c::cs,_,hb,⟨u,us,hv,r1,r2⟩=>⟨u,us,hv,rB.Aq h c _ hb.1 r1,m7.Aq h cs _ hb.2 r2⟩
theorem qD.Aq (h:UnLe N ρ E' E) {b:Nat}: ∀ (cs:List AV) (off:Nat),nbL N cs→qD E' b off (renL ρ cs)→qD E b off cs
 |[],_,_,_=>trivial
 |c::cs,off,hb,⟨⟨hm,u,hu,h1,r1⟩,r2⟩=>
  let ⟨m,c'⟩:=h.mem b off u hm hu
  ⟨⟨m,u,c',h1,rB.Aq h c _ hb.1 r1⟩,qD.Aq h cs _ hb.2 r2⟩
theorem qm.Aq (h:UnLe N ρ E' E) {sz b:Nat}: ∀ (rs:List (List AV)) (off:Nat),GJ N rs→qm E' sz b off (Bw ρ rs)→qm E sz b off rs
 |[],_,_,_=>trivial
 |r::rs,off,hb,⟨hl,r1,r2⟩=>⟨by rw[renL_length] at hl;exact hl,qD.Aq h r _ hb.1 r1,qm.Aq h rs _ hb.2 r2⟩
end
end
theorem XP {E E':Env} {N:Nat} {ρ:Nat→Nat} (h:N6 N ρ E E'): ∀ {es:List (AV×AV)} {xs:List MapEntry},(∀p∈es,p.1.nb N∧p.2.nb N)→tX E es xs→tX E' (es.map fun p=>(p.1.ren ρ,p.2.ren ρ)) xs
 |[],_,_,r=>r
 |(k,v)::_,_,hb,⟨e,s,he,r1,r2,r3⟩=>
  ⟨e,s,he,rB.ren h k _ (hb (k,v) (by simp)).1 r1,rB.ren h v _ (hb (k,v) (by simp)).2 r2,XP h (fun p hp=>hb p (by simp [hp])) r3⟩
theorem RU {E E':Env} {N:Nat} {ρ:Nat→Nat} (h:UnLe N ρ E' E): ∀ {es:List (AV×AV)} {xs:List MapEntry},(∀p∈es,p.1.nb N∧p.2.nb N)→tX E' (es.map fun p=>(p.1.ren ρ,p.2.ren ρ)) xs→tX E es xs
 |[],_,_,r=>r
 |(k,v)::_,_,hb,⟨e,s,he,r1,r2,r3⟩=>
  ⟨e,s,he,rB.Aq h k _ (hb (k,v) (by simp)).1 r1,rB.Aq h v _ (hb (k,v) (by simp)).2 r2,RU h (fun p hp=>hb p (by simp [hp])) r3⟩
theorem qV.ren {E E':Env} {N:Nat} {ρ:Nat→Nat} (h:N6 N ρ E E') {x:AObj} {hd:Value} (hb:objNb N x) (hw: ∀b,x.block hd b→E'.w.heap[b]? =E.w.heap[b]?) (r:qV E x hd):qV E' (x.ren ρ) hd:=by
 cases x with
 |cells cs=>
  obtain ⟨b,c,t,rfl,h2,rl,h3⟩:=r
  exact ⟨b,c,t,rfl,by rw[hw b rfl];exact h2,m7.ren h _ _ hb rl,h3⟩
 |acc uO sz rows=>
  obtain ⟨base,cap,rfl,h2,h3,h4,h5⟩:=r
  refine ⟨base,cap,by rw[vn],by rw[vn];exact h2,h3,?_,fun a0 ha hc=> ?_⟩
  ·have key: ∀rs:List (List AV),(∀r∈rs,r.length=sz)→ ∀r∈Bw ρ rs,r.length=sz:=by
    intro rs
    induction rs with
    |nil=>intro _ r hr;simp [Bw] at hr
    |cons q rs ih=>
     intro hl r hr
     simp only[Bw,cU] at hr
     rcases hr with rfl|hr
     ·rw[renL_length];exact hl q (by simp)
     ·exact ih (fun p hp=>hl p (by simp [hp])) r hr
   exact key rows h4
  ·obtain ⟨h6,c,t,h7,h8,rl,h9⟩:=h5 a0 ha hc
   subst ha
   rw[vn,J8]
   exact ⟨h6,c,t,by rw[hw _ ⟨rfl,hc⟩];exact h7,h8,m7.ren h _ _ (Dp hb) rl,h9⟩
 |map es=>
  obtain ⟨r',en,cl,rfl,h2,rp⟩:=r
  exact ⟨r',en,cl,rfl,by rw[hw r' rfl];exact h2,XP h hb rp⟩
 |loop k slots st uL=>
  obtain ⟨D,rec,rfl,h1,h2,h3,rl⟩:=r
  exact ⟨D,rec,rfl,by rw[hw (D+1) (.inl rfl)];exact h1,by rw[hw D (.inr rfl)];exact h2,h3,m7.ren h _ _ hb rl⟩
 |iter s p=>
  obtain ⟨b,rfl,h2⟩:=r
  exact ⟨b,rfl,by rw[hw b rfl];exact h2⟩
 |dead=>trivial
theorem qV.Aq {E E':Env} {N:Nat} {ρ:Nat→Nat} (h:UnLe N ρ E' E) {x:AObj} {hd:Value} (hb:objNb N x) (hw: ∀b,(x.ren ρ).block hd b→E.w.heap[b]? =E'.w.heap[b]?) (r:qV E' (x.ren ρ) hd):qV E x hd:=by
 cases x with
 |cells cs=>
  obtain ⟨b,c,t,rfl,h2,rl,h3⟩:=r
  exact ⟨b,c,t,rfl,by rw[hw b rfl];exact h2,m7.Aq h _ _ hb rl,h3⟩
 |acc uO sz rows=>
  obtain ⟨base,cap,rfl,h2,h3,h4,h5⟩:=r
  rw[vn] at h2 hw
  refine ⟨base,cap,by rw[vn],h2,h3,?_,fun a0 ha hc=> ?_⟩
  ·have key: ∀rs:List (List AV),(∀r∈Bw ρ rs,r.length=sz)→ ∀r∈rs,r.length=sz:=by
    intro rs
    induction rs with
    |nil=>intro _ r hr;simp at hr
    |cons q rs ih=>
     intro hl r hr
     simp only[cU] at hr
     rcases hr with rfl|hr
     ·have:=hl (renL ρ r) (by simp [Bw]);rw[renL_length] at this;exact this
     ·exact ih (fun p hp=>hl p (by simp [Bw,hp])) r hr
   exact key rows h4
  ·obtain ⟨h6,c,t,h7,h8,rl,h9⟩:=h5 a0 ha hc
   subst ha
   rw[vn] at rl h9
   rw[J8] at rl
   exact ⟨h6,c,t,by rw[hw _ ⟨rfl,hc⟩];exact h7,h8,m7.Aq h _ _ (Dp hb) rl,h9⟩
 |map es=>
  obtain ⟨r',en,cl,rfl,h2,rp⟩:=r
  exact ⟨r',en,cl,rfl,by rw[hw r' rfl];exact h2,RU h hb rp⟩
 |loop k slots st uL=>
  obtain ⟨D,rec,rfl,h1,h2,h3,rl⟩:=r
  exact ⟨D,rec,rfl,by rw[hw (D+1) (.inl rfl)];exact h1,by rw[hw D (.inr rfl)];exact h2,h3,m7.Aq h _ _ hb rl⟩
 |iter s p=>
  obtain ⟨b,rfl,h2⟩:=r
  exact ⟨b,rfl,by rw[hw b rfl];exact h2⟩
 |dead=>trivial
theorem Jo {ρ:Nat→Nat} {x:AObj} {h:Value} {b o:Nat}:(x.ren ρ).muts h b o↔x.muts h b o:=by
 cases x with
 |cells cs=>cases h with
  |pointer p=>cases p<;>exact cT
  |_=>exact cT
 |acc uO sz rows=>cases h with
  |slice p n c=>cases p<;>exact cT
  |_=>exact cT
 |map es=>cases h with
  |map p=>cases p<;>exact cT
  |_=>exact cT
 |loop k slots st uL=>cases h with
  |func q _ _=>cases q<;>exact cT
  |_=>exact cT
 |iter s p=>cases h with
  |pointer p=>cases p<;>exact cT
  |_=>exact cT
 |dead=>exact cT
theorem zR {ρ:Nat→Nat} {x:AObj} {h:Value} {b:Nat}:(x.ren ρ).block h b↔x.block h b:=by
 cases x with
 |cells cs=>cases h with
  |pointer p=>cases p<;>exact cT
  |_=>exact cT
 |acc uO sz rows=>cases h with
  |slice p n c=>cases p<;>exact cT
  |_=>exact cT
 |map es=>cases h with
  |map p=>cases p<;>exact cT
  |_=>exact cT
 |loop k slots st uL=>cases h with
  |func q _ _=>cases q<;>exact cT
  |_=>exact cT
 |iter s p=>cases h with
  |pointer p=>cases p<;>exact cT
  |_=>exact cT
 |dead=>exact cT
theorem BA {ρ:Nat→Nat} {x:AObj}:oR (some (x.ren ρ))=oR (some x):=by
 cases x<;>simp [oR,AObj.ren,vn]
theorem IA {x:AObj} {h:Value} {b:Nat} (hb:x.block h b): ∃o,x.muts h b o:=by
 cases x with
 |cells cs=>
  cases h with
  |pointer p=>cases p with
   |none=>exact absurd hb id
   |some a=>exact ⟨0,hb⟩
  |_=>exact absurd hb id
 |acc uO sz rows=>
  cases h with
  |slice base n cap=>cases base with
   |none=>exact absurd hb id
   |some a=>exact ⟨a.off+n*sz,hb,fun _=>cZ _⟩
  |_=>exact absurd hb id
 |map es=>
  cases h with
  |map r=>cases r with
   |none=>exact absurd hb id
   |some a=>exact ⟨0,hb⟩
  |_=>exact absurd hb id
 |loop k slots st uL=>
  cases h with
  |func q _ _=>cases q with
   |yield r=>exact ⟨0,hb⟩
   |_=>exact absurd hb id
  |_=>exact absurd hb id
 |iter s p=>
  cases h with
  |pointer p=>cases p with
   |none=>exact absurd hb id
   |some a=>exact ⟨0,hb⟩
  |_=>exact absurd hb id
 |dead=>exact absurd hb id
end Go.Abs
namespace Go.Abs
theorem quiet_nw {P:Program} {σ:AState} {op:Op} {e:wg} (hq:quiet op=true) (h:nW P σ op=some e):e.nw=[]:=by
 cases op with
 |move x=>cases h;rfl
 |assign x=>cases h;rfl
 |pick c x y=>simp only[nW] at h;split at h<;>cases h;rfl
 |unOp op t x=>simp only[nW] at h;split at h<;>cases h<;>rfl
 |fieldAddr t x i=>simp only[nW] at h;split at h<;>cases h<;>rfl
 |extract x i=>
  simp only[nW] at h
  split at h
  ·split at h<;>cases h;rfl
  ·cases h
 |binOp op t x y u=>
  simp only[nW] at h
  split at h
  ·cases h;rfl
  ·unfold U9 Nv at h
   split at h
   ·rename_i he
    split at he
    ·split at he<;>cases he;cases h;rfl
    ·split at he<;>cases he;cases h;rfl
    ·cases he
   unfold O6 at h
   split at h
   ·cases h;rfl
   ·cases h;rfl
   ·split at h<;>cases h;rfl
   ·split at h<;>cases h;rfl
   ·split at h<;>cases h;rfl
   ·split at h<;>cases h;rfl
   ·split at h<;>cases h;rfl
   ·split at h<;>cases h;rfl
   ·cases h
 |load t x=>
  simp only[nW] at h
  split at h
  ·split at h
   ·split at h
    ·unfold ldV at h
     split at h
     ·split at h<;>cases h;rfl
     ·cases h;rfl
    ·cases h
   ·cases h
  ·split at h<;>cases h;rfl
  ·split at h
   ·split at h
    ·split at h
     ·split at h<;>cases h;rfl
     ·cases h
    ·cases h
   ·cases h
  ·unfold RA at h
   split at h
   ·split at h
    ·rw[dh] at h
     obtain ⟨m,_,he⟩:=h
     obtain rfl:=dQ he
     rfl
    ·cases h
   ·cases h
  ·cases h
 |store t x y=>
  simp only[nW] at h
  split at h
  ·split at h
   ·split at h<;>cases h;rfl
   ·cases h
  ·split at h
   ·split at h
    ·split at h
     ·split at h<;>cases h;rfl
     ·cases h
    ·cases h
   ·cases h
  ·cases h
 |field t x i=>
  simp only[nW] at h
  split at h
  ·split at h
   ·split at h<;>cases h;rfl
   ·cases h
  ·cases h
 |index t x i=>
  simp only[nW] at h
  split at h
  ·split at h
   ·split at h<;>cases h;rfl
   ·cases h
  ·cases h
 |indexAddr t x i=>
  simp only[nW] at h
  split at h
  ·split at h
   ·split at h
    ·split at h<;>cases h;rfl
    ·cases h
   ·split at h
    ·split at h
     ·split at h<;>cases h;rfl
     ·cases h
    ·split at h<;>cases h;rfl
    ·cases h
   ·cases h
  ·split at h
   ·split at h
    ·split at h<;>cases h;rfl
    ·split at h
     ·rw[dh] at h
      obtain ⟨ds,_,he⟩:=h
      obtain rfl:=dQ he
      rfl
     ·cases h
    ·split at h<;>cases h;rfl
    ·cases h
   ·cases h
 |_=>simp [quiet] at hq
theorem quiet_wh {P:Program} {σ:AState} {op:Op} {e:wg} (hq:quiet op=true) (h:nW P σ op=some e):e.whole=false:=by
 cases op with
 |move x=>cases h;rfl
 |assign x=>cases h;rfl
 |pick c x y=>simp only[nW] at h;split at h<;>cases h;rfl
 |unOp op t x=>simp only[nW] at h;split at h<;>cases h<;>rfl
 |fieldAddr t x i=>simp only[nW] at h;split at h<;>cases h<;>rfl
 |extract x i=>
  simp only[nW] at h
  split at h
  ·split at h<;>cases h;rfl
  ·cases h
 |binOp op t x y u=>
  simp only[nW] at h
  split at h
  ·cases h;rfl
  ·unfold U9 Nv at h
   split at h
   ·rename_i he
    split at he
    ·split at he<;>cases he;cases h;rfl
    ·split at he<;>cases he;cases h;rfl
    ·cases he
   unfold O6 at h
   split at h
   ·cases h;rfl
   ·cases h;rfl
   ·split at h<;>cases h;rfl
   ·split at h<;>cases h;rfl
   ·split at h<;>cases h;rfl
   ·split at h<;>cases h;rfl
   ·split at h<;>cases h;rfl
   ·split at h<;>cases h;rfl
   ·cases h
 |load t x=>
  simp only[nW] at h
  split at h
  ·split at h
   ·split at h
    ·unfold ldV at h
     split at h
     ·split at h<;>cases h;rfl
     ·cases h;rfl
    ·cases h
   ·cases h
  ·split at h<;>cases h;rfl
  ·split at h
   ·split at h
    ·split at h
     ·split at h<;>cases h;rfl
     ·cases h
    ·cases h
   ·cases h
  ·unfold RA at h
   split at h
   ·split at h
    ·rw[dh] at h
     obtain ⟨m,_,he⟩:=h
     obtain rfl:=dQ he
     rfl
    ·cases h
   ·cases h
  ·cases h
 |store t x y=>
  simp only[nW] at h
  split at h
  ·split at h
   ·split at h<;>cases h;rfl
   ·cases h
  ·split at h
   ·split at h
    ·split at h
     ·split at h<;>cases h;rfl
     ·cases h
    ·cases h
   ·cases h
  ·cases h
 |field t x i=>
  simp only[nW] at h
  split at h
  ·split at h
   ·split at h<;>cases h;rfl
   ·cases h
  ·cases h
 |index t x i=>
  simp only[nW] at h
  split at h
  ·split at h
   ·split at h<;>cases h;rfl
   ·cases h
  ·cases h
 |indexAddr t x i=>
  simp only[nW] at h
  split at h
  ·split at h
   ·split at h
    ·split at h<;>cases h;rfl
    ·cases h
   ·split at h
    ·split at h
     ·split at h<;>cases h;rfl
     ·cases h
    ·split at h<;>cases h;rfl
    ·cases h
   ·cases h
  ·split at h
   ·split at h
    ·split at h<;>cases h;rfl
    ·split at h
     ·rw[dh] at h
      obtain ⟨ds,_,he⟩:=h
      obtain rfl:=dQ he
      rfl
     ·cases h
    ·split at h<;>cases h;rfl
    ·cases h
   ·cases h
 |_=>simp [quiet] at hq
mutual
theorem Rh {ρ:Nat→Nat} {n:Nat} (hf: ∀l,l<n→ρ l=l): ∀x:AV,x.nb n→x.ren ρ=x
 | .acc l _,h=>by rw[AV.ren,hf l h]
 | .own l _ _ _ _,h=>by rw[AV.ren,hf l h]
 | .ptr l _,h=>by rw[AV.ren,hf l h]
 | .map l,h=>by rw[AV.ren,hf l h]
 | .agg cs,h=>by rw[AV.ren,BB hf cs h]
 | .tup cs,h=>by rw[AV.ren,BB hf cs h]
 | .pp cs,h=>by rw[AV.ren,BB hf cs h]
 | .nE _ _ rows,h=>by rw[AV.ren,RV hf rows h]
 | .func _ f c,h=>by rw[AV.ren,BB hf f h.1,BB hf c h.2]
 | .iface _ x,h=>by rw[AV.ren,Rh hf x h]
 | .any,_| .bool _,_| .int _ _,_| .str _,_| .raw _,_=>by rw[AV.ren]
theorem BB {ρ:Nat→Nat} {n:Nat} (hf: ∀l,l<n→ρ l=l): ∀xs:List AV,nbL n xs→renL ρ xs=xs
 |[],_=>rfl
 |x::xs,h=>by rw[renL,Rh hf x h.1,BB hf xs h.2]
theorem RV {ρ:Nat→Nat} {n:Nat} (hf: ∀l,l<n→ρ l=l): ∀xs:List (List AV),GJ n xs→Bw ρ xs=xs
 |[],_=>rfl
 |x::xs,h=>by rw[Bw,BB hf x h.1,RV hf xs h.2]
end
theorem obj_fix {ρ:Nat→Nat} {n:Nat} (hf: ∀l,l<n→ρ l=l) (x:AObj) (h:objNb n x):x.ren ρ=x:=by
 cases x with
 |cells cs=>simp only[AObj.ren,BB hf cs h]
 |acc uO sz rows=>simp only[AObj.ren,RV hf rows h]
 |map es=>
  simp only[AObj.ren,AObj.map.injEq]
  have h: ∀p∈es,p.1.nb n∧p.2.nb n:=h
  induction es with
  |nil=>rfl
  |cons p es ih=>
   have hp:=h p (by simp)
   rw[dM,ih (fun q hq=>h q (by simp [hq])) (fun q hq=>h q (by simp [hq])),Rh hf _ hp.1,Rh hf _ hp.2]
 |loop k slots st uL=>simp only[AObj.ren,BB hf slots h]
 |iter s p=>rfl
 |dead=>rfl
theorem RW {n m:Nat} (h:n≤m) (x:AObj) (hx:objNb n x):objNb m x:=by
 cases x with
 |cells cs=>exact sE h _ hx
 |acc uO sz rows=>exact V6 h _ hx
 |map es=>exact fun p hp=>⟨AV.P9 h _ (hx p hp).1,AV.P9 h _ (hx p hp).2⟩
 |loop k slots st uL=>exact sE h _ hx
 |iter s p=>trivial
 |dead=>trivial
def O2 (n l:Nat):Nat:=if l=n then n+1 else if l=n+1 then n else l
theorem Wg (n l:Nat):O2 n (O2 n l)=l:=by unfold O2;split<;>(try split)<;>(try split)<;>(try split)<;>omega
theorem N7 {n l:Nat} (h:l<n):O2 n l=l:=by unfold O2;split<;>(try split)<;>omega
theorem tau_lt {n l:Nat} (h:l<n+2):O2 n l<n+2:=by unfold O2;split<;>(try split)<;>omega
theorem tau_get {α:Type} {H:List α} {x y z:α} {l:Nat} (h:(H++[x]++[y])[l]? =some z):(H++[y]++[x])[O2 H.length l]? =some z:=by
 have hl:l<H.length+2:=by have:=(cM.1 h).1;simpa using this
 rw[eG] at h ⊢
 by_cases h1:l<H.length
 ·rw[N7 h1,cO h1]
  rwa [cO h1] at h
 ·rw[c9 (by omega)] at h
  by_cases h2:l=H.length
  ·subst h2
   simp only[eY,List.cons_append,dD] at h
   simp only[O2,if_true]
   rw[c9 (by omega)]
   simpa using h
  ·have h3:l=H.length+1:=by omega
   subst h3
   simp only[show H.length+1-H.length=1 by omega,List.cons_append,List.nil_append,List.getElem?_cons_succ,dD] at h
   simp only[O2,if_true,Nat.add_eq_left,Nat.one_ne_zero,if_false]
   rw[c9 (by omega)]
   simpa using h
theorem qq.swap {C:Ctx} {φ:Nat→Value} {a:Act} {w:World} {s:List AV} {H:List AObj} {x y:AObj} {low:Nat} {df:List (FuncId×List AV)} (hdf:Wf H.length df) (DD:low≤H.length) (hH: ∀z∈H,objNb H.length z) (hx:objNb 0 x) (hy:objNb 0 y)
 (S:qq C φ ⟨s,H++[x]++[y],low,df⟩ a w):qq C (fun l=>φ (O2 H.length l)) ⟨renL (O2 H.length) s,H++[y]++[x],low,df⟩ a w:=by
 have DF: ∀z∈H++[x]++[y],objNb H.length z:=by
  intro z hz
  simp only[cN,cP] at hz
  rcases hz with (hz|rfl)|rfl
  ·exact hH z hz
  ·exact RW (ez _) _ hx
  ·exact RW (ez _) _ hy
 have back: ∀ (l:Nat) (z:AObj),(H++[y]++[x])[l]? =some z→(H++[x]++[y])[O2 H.length l]? =some z:=fun l z h=>tau_get h
 have fwd: ∀ (l:Nat) (z:AObj),(H++[x]++[y])[l]? =some z→(H++[y]++[x])[O2 H.length l]? =some z:=fun l z h=>tau_get h
 have B6: ∀b o,Ck (fun l=>φ (O2 H.length l)) (H++[y]++[x]) b o↔Ck φ (H++[x]++[y]) b o:=by
  intro b o
  constructor
  ·rintro ⟨l,z,hz,hm⟩
   exact ⟨_,z,back l z hz,hm⟩
  ·rintro ⟨l,z,hz,hm⟩
   refine ⟨_,z,fwd l z hz,?_⟩
   simp only[Wg];exact hm
 have ren:N6 (H.length+2) (O2 H.length) (C.env φ (H++[x]++[y]) w) (C.env (fun l=>φ (O2 H.length l)) (H++[y]++[x]) w):=by
  refine ⟨fun l hl=> ?_,fun l hl=> ?_,fun b o u hm hc=>⟨?_,hc⟩⟩
  ·simp only[Ctx.env,eA,eO];exact tau_lt hl
  ·simp only[Ctx.env,Wg,true_and]
   have hl':l<(H++[x]++[y]).length:=by simpa using hl
   have h1:=cV hl'
   rw[h1,fwd l _ h1]
   exact .inl rfl
  ·simp only[Ctx.env] at hm ⊢
   rw[B6];exact hm
 have At:uG C (fun l=>φ (O2 H.length l)) (H++[y]++[x]) w df a.defers:=S.defers.step' (fun xs vs ⟨f,hf⟩ r=>by
  have:=m7.ren ren xs vs (sE (by omega) _ (hdf _ hf)) r
  rwa [BB (fun l hl=>N7 hl) xs (hdf _ hf)] at this) (fun _ _ _=>rfl) (fun l z b hz hb=> .inl ⟨_,z,back l z hz,hb⟩)
 refine {slots:= ?_,defers:=At,objs:= ?_,apart:= ?_,vk:= ?_,size:=S.size,old:=S.old,qQ:=S.qQ,A9:= ?_,wG:=S.wG,rest:=S.rest,low:=⟨S.low.1,by simp only[eA,eO];omega⟩,names:= ?_}
 ·refine m7.ren ren _ _ ?_ S.slots
  have:=m7.nb _ _ S.slots
  simpa [Ctx.env] using this
 ·intro l z hz
  have h1:=back l z hz
  have hm:=DF z (List.mem_of_getElem? h1)
  have:=qV.ren ren (RW (by omega) _ hm) (fun _ _=>rfl) (S.objs _ z h1)
  rw[obj_fix (fun l hl=>N7 hl) z hm] at this
  exact this
 ·intro l l' z z' b hz XB hb hb'
  have:=S.apart _ _ z z' b (back l z hz) (back l' z' XB) hb hb'
  have h2:=congrArg (O2 H.length) this
  simpa only[Wg] using h2
 ·intro l z b o hz hb
  exact S.vk _ z b o (back l z hz) hb
 ·intro l z b o hz hm
  exact S.A9 _ z b o (back l z hz) hm
 ·intro l hl
  have hN:C.N0=low:=S.low.1
  have hlt:l<H.length:=by omega
  have:=S.names l hl
  have e1:(H++[y]++[x])[l]? =(H++[x]++[y])[l]? :=by
   rw[eG,eG,cO hlt,cO hlt]
  simp only[N7 hlt] at this ⊢
  rw[e1]
  exact this
theorem Wh {E:Env} {x:AObj} {h:Value} (r:qV E x h) (hx: ∀uO sz rows,x= .acc uO sz rows→(∃base n cap,h= .slice base n cap∧cap≠0∧base≠none)∨rows=[]):objNb E.n x:=by
 cases x with
 |cells cs=>obtain ⟨_,_,_,_,_,rl,_⟩:=r;exact m7.nb _ _ rl
 |acc uO sz rows=>
  rcases hx uO sz rows rfl with ⟨base,n,cap,rfl,hc,hb⟩|rfl
  ·obtain ⟨base',cap',h1,h2,h3,h4,h5⟩:=r
   simp only[Value.slice.injEq] at h1
   obtain ⟨rfl,rfl,rfl⟩:=h1
   cases base with
   |none=>exact absurd rfl hb
   |some a0=>
    obtain ⟨_,c,t,_,_,rl,_⟩:=h5 a0 rfl hc
    have hn:=m7.nb _ _ rl
    have key: ∀rows:List (List AV),nbL E.n rows.flatten→GJ E.n rows:=by
     intro rows
     induction rows with
     |nil=>intro _;trivial
     |cons q rs ih=>
      intro this
      simp only[dH] at this
      have split: ∀ (p q:List AV),nbL E.n (p++q)→nbL E.n p∧nbL E.n q:=by
       intro p
       induction p with
       |nil=>intro q h;exact ⟨trivial,h⟩
       |cons z p ihp=>intro q h;exact ⟨⟨h.1,(ihp q h.2).1⟩,(ihp q h.2).2⟩
      exact ⟨(split _ _ this).1,ih (split _ _ this).2⟩
    exact key rows hn
  ·trivial
 |map es=>obtain ⟨_,_,_,_,_,rp⟩:=r;exact tX.nb rp
 |loop k slots st uL=>obtain ⟨_,_,_,_,_,_,rl⟩:=r;exact m7.nb _ _ rl
 |iter s p=>trivial
 |dead=>trivial
theorem Jp {E:Env} {x:AObj} {h:Value} (r:qV E x h):objNb E.n x:=by
 refine Wh r ?_
 rintro uO sz rows rfl
 obtain ⟨base,cap,rfl,h2,h3,_⟩:=r
 cases base with
 |none=>
  right
  have:=h3 rfl
  exact cR (by omega)
 |some a0=>
  by_cases hc:cap=0
  ·right;exact cR (by omega)
  ·exact .inl ⟨_,_,_,rfl,hc,by simp⟩
theorem XQ {P:Program} {t:TypeId} {z:List AV} (w:World) (h:rP P t=some z):nbL 0 z:=by
 obtain ⟨v,_,hr,_⟩:=Mi (w:=w) h
 exact m7.nb _ _ (hr {w,mu:=fun _ _=>False,φ:=fun _=> .tuple #[],ln:=fun _=>none,n:=0})
end Go.Abs
namespace Go.Abs
section
variable {P:Program} {ops:Array Oper}
theorem KY {o:Oper} (h:J6 o=true): ∃t,o.op= .alloc t∧o.guard=none:=by
 unfold J6 at h
 simp only[cJ,Option.isNone_iff_eq_none] at h
 obtain ⟨h1,h2⟩:=h
 cases ho:o.op with
 |alloc t=>exact ⟨t,rfl,h2⟩
 |_=>simp [ho] at h1
def u5 (n:Nat) (z:List AV):wg:={val:= .ptr n 0,nw:=[.cells z]}
theorem Qi {o:Oper} {σ:AState} {t:TypeId} {z:List AV} (ho:o.op= .alloc t) (hg:o.guard=none) (hz:rP P t=some z):xm P ops o σ (fun e=>e=u5 σ.heap.length z):=by
 refine .inr (.inl ⟨?_,?_,u5 σ.heap.length z,?_,?_,fun _=>cT⟩)
 ·unfold sr;rw[hg]
 ·rw[ho];rfl
 ·rw[ho];simp only[nW,hz];rfl
 ·exact trivial
theorem CW {o:Oper} {σ:AState} {t:TypeId} {S:wg→Prop} (ho:o.op= .alloc t) (hg:o.guard=none) (h:xm P ops o σ S): ∃z,rP P t=some z∧ ∀e,S e↔e=u5 σ.heap.length z:=by
 rcases h with ⟨hw,_⟩|⟨_,_,e,he,_,h⟩|⟨_,f,args,V,hc,_⟩|⟨_,f,args,e,hc,_⟩
 ·unfold sr at hw;rw[hg] at hw;cases hw
 ·rw[ho] at he
  simp only[nW] at he
  split at he
  ·rename_i z hz
   cases he
   exact ⟨z,hz,h⟩
  ·cases he
 ·rw[ho] at hc;cases hc
 ·rw[ho] at hc;cases hc
theorem C4 {p q:Nat} (h:KX ops p q=true):p<q∧(∃op oq tp tq,ops[p]? =some op∧ops[q]? =some oq∧op.op= .alloc tp∧oq.op= .alloc tq∧op.guard=none∧oq.guard=none∧xY op=[]∧xY oq=[])∧
 ∀k o,ops[k]? =some o→k≠p→k≠q→quiet o.op=true∧tj ops p k=tj ops q k:=by
 unfold KX at h
 split at h
 ·rename_i op oq hp hq
  simp only[cJ,decide_eq_true_eq,dr] at h
  obtain ⟨⟨⟨⟨⟨h1,h2⟩,h3⟩,h4⟩,h5⟩,h6⟩:=h
  obtain ⟨tp,a1,a2⟩:=KY h1
  obtain ⟨tq,b1,b2⟩:=KY h2
  refine ⟨h5,⟨op,oq,tp,tq,hp,hq,a1,b1,a2,b2,h3,h4⟩,fun k o hk n1 n2=> ?_⟩
  rw[cQ] at h6
  have:=h6 k (by simpa using (cW.1 hk).1)
  simp only[hk,dj,beq_iff_eq,cJ] at this
  rcases this with (h|h)|h
  ·exact absurd h n1
  ·exact absurd h n2
  ·exact h
 ·cases h
theorem EU {i j:Nat} (h1:tj ops i j=false) (h2:KX ops i j=false):RP ops i j=false:=by
 unfold RP;rw[h1,h2];rfl
theorem AW {op:Op} {t:TypeId} (h:quiet op=true):op≠ .alloc t:=by
 rintro rfl;cases h
theorem zU {op:Op} (h:quiet op=true):Aw op=false:=by
 cases op<;>first|rfl|(simp [quiet] at h)
end
section region
variable {C:Ctx} {ops:Array Oper} {Q:qL→AState→Prop}
theorem Vm (o:Oper) (listed:Array Bool):(o.after.all fun e=> !Region.binds .any e||listed.getD e.on false)=true↔ ∀d∈xY o,listed.getD d false=true:=by
 rw[Array.all_eq_true_iff_forall_mem]
 constructor
 ·intro h d hd
  unfold xY at hd
  simp only[eJ,dU] at hd
  obtain ⟨e,⟨he,hb⟩,rfl⟩:=hd
  have:=h e (by simpa using he)
  simpa [hb] using this
 ·intro h e he
  cases hb:Region.binds .any e with
  |false=>simp
  |true=>
   have:=h e.on (by unfold xY;simp only[eJ,dU];exact ⟨e,⟨by simpa using he,hb⟩,rfl⟩)
   simpa using this
theorem GX (listed:Array Bool) (i:Nat) (hsz:listed.size=ops.size):i∈Region.ready .any ops listed↔i<ops.size∧listed.getD i false=false∧ ∃o,ops[i]? =some o∧ ∀d∈xY o,listed.getD d false=true:=by
 unfold Region.ready
 simp only[dU,eP]
 constructor
 ·rintro ⟨h1,h2⟩
  rw[cJ] at h2
  have ho:ops[i]? =some ops[i]:=dV h1
  refine ⟨h1,?_,ops[i],ho,?_⟩
  ·have h3:=h2.1
   have hlt:i<listed.size:=by omega
   simp only[eV,hlt,dif_pos] at h3 ⊢
   simpa using h3
  ·have h3:=h2.2
   rw[ho] at h3
   simp only[Option.map_some,eg] at h3
   exact (Vm _ _).1 h3
 ·rintro ⟨h1,h2,o,ho,h3⟩
  refine ⟨h1,?_⟩
  rw[cJ]
  constructor
  ·have hlt:i<listed.size:=by omega
   simp only[eV,hlt,dif_pos] at h2 ⊢
   simpa using h2
  ·rw[ho]
   simp only[Option.map_some,eg]
   exact (Vm _ _).2 h3
theorem xE (hok:C3 ops=true) {listed:Array Bool} (V8: ∀j o,ops[j]? =some o→listed.getD j false=true→ ∀d∈xY o,listed.getD d false=true) {i r:Nat} {oi:Oper} (Iz:ops[i]? =some oi)
 (Bz: ∀d∈xY oi,listed.getD d false=true) (hq:tj ops r i=true):listed.getD r false=true:=by
 obtain ⟨_,hspec⟩:=Dn hok
 exact Qh (L:=fun d=>listed.getD d false=true) (all:=ops.toList) (fun j o hj hL=>V8 j o (by simpa using hj) hL) ops.toList [] (by simp) (by simp) (fun k o hk=>(hspec k o (by simpa using hk)).1) i oi (by simpa using Iz) Bz r hq
theorem HM {listed:Array Bool} {i:Nat} {oi:Oper} (Iz:ops[i]? =some oi) (Bz: ∀d∈xY oi,listed.getD d false=true) (V8: ∀j o,ops[j]? =some o→listed.getD j false=true→ ∀d∈xY o,listed.getD d false=true):
 ∀j o,ops[j]? =some o→(listed.setIfInBounds i true).getD j false=true→ ∀d∈xY o,(listed.setIfInBounds i true).getD d false=true:=by
 intro j o' hj hL d hd
 by_cases e:j=i
 ·subst e
  rw[Iz] at hj;cases hj
  exact getD_set_true (Bz d hd)
 ·rw[getD_set_ne false (fun e'=>e e'.symm)] at hL
  exact getD_set_true (V8 j o' hj hL d hd)
theorem Mm {listed:Array Bool} {i:Nat} (h:i<listed.size):(listed.setIfInBounds i true).getD i false=true:=by
 simp [eV,h]
structure RX (ops:Array Oper) (R:List Nat) (listed:Array Bool):Prop where
 pw:R.Pairwise (· < ·)
 sz:listed.size=ops.size
 mem: ∀i,i∈R↔i<ops.size∧listed.getD i false=false
 cl: ∀j o,ops[j]? =some o→listed.getD j false=true→ ∀d∈xY o,listed.getD d false=true
theorem RX.next {R:List Nat} {listed:Array Bool} (F:RX ops R listed) {i:Nat} {oi:Oper} (Iz:ops[i]? =some oi) (Bz: ∀d∈xY oi,listed.getD d false=true):RX ops (R.erase i) (listed.setIfInBounds i true):=by
 refine ⟨F.pw.erase i,by simpa using F.sz,fun k=> ?_,HM Iz Bz F.cl⟩
 have hnd:R.Nodup:=F.pw.imp (fun h=>eK h)
 have hi:i<listed.size:=by have:=(cW.1 Iz).1;rw[F.sz];exact this
 rw[hnd.mem_erase_iff,F.mem k]
 constructor
 ·rintro ⟨hne,h1,h2⟩
  refine ⟨h1,?_⟩
  rw[getD_set_ne false (fun e=>hne e.symm)];exact h2
 ·rintro ⟨h1,h2⟩
  have hne:k≠i:=by
   intro e
   subst e
   rw[Mm hi] at h2;cases h2
  refine ⟨hne,h1,?_⟩
  rw[getD_set_ne false (fun e=>hne e.symm)] at h2;exact h2
theorem draw_pend {ro:Option Nat} (hok:C3 ops=true) {p q:Nat} (htw:KX ops p q=true) (fuel:Nat)
 (back: ∀ (f:Nat) (R:List Nat) (listed:Array Bool) (φ:Nat→Value) (σ:AState) (a:Act) (w:World),f≤fuel→R.length=f→RX ops R listed→(p ∉ R)→qq C φ σ a w→N1 C.P ops (Q .normal) R [] σ→wpAnyIn (DG ro) 0 C.P .any ops (QC C Q) f listed a w)
 {oq:Oper} {tq:TypeId} {zq:List AV} (hoq:ops[q]? =some oq) (htq:oq.op= .alloc tq) (hgq:oq.guard=none) (hzq:rP C.P tq=some zq):
 ∀ (f:Nat) (R:List Nat) (listed:Array Bool) (φ φ0:Nat→Value) (σ:AState) (a a0:Act) (w w0:World),f≤fuel→R.length=f+1→R.Pairwise (· < ·)→listed.size=ops.size→p∈R→q∈R→listed.getD q false=true→
 (∀i,i∈R↔i<ops.size∧(listed.getD i false=false∨i=q))→(∀j o,ops[j]? =some o→listed.getD j false=true→ ∀d∈xY o,listed.getD d false=true)→
 qq C φ (σ.app oq.dst (u5 σ.heap.length zq)) a w→qq C φ0 σ a0 w0→N1 C.P ops (Q .normal) R [] σ→wpAnyIn (DG ro) 0 C.P .any ops (QC C Q) f listed a w:=by
 obtain ⟨hpq,⟨op,oq',tp,tq',hop,hoq',htp,htq',hgp,hgq',hdp,hdq⟩,hoth⟩:=C4 htw
 rw[hoq] at hoq';cases hoq'
 obtain ⟨_,hspec⟩:=Dn hok
 intro f
 induction f with
 |zero=>
  intro R listed φ φ0 σ a a0 w w0 hf hlen O0 hsz hpR hqR hlq hR V8 S S0 h
  exfalso
  match R,hlen with
  |[x],_=>
   simp only[cP] at hpR hqR
   omega
 |succ f ih=>
  intro R listed φ φ0 σ a a0 w w0 hf hlen O0 hsz hpR hqR hlq hR V8 S S0 h
  have hnd:R.Nodup:=O0.imp (fun h=>eK h)
  have hpl:listed.getD p false=false:=by
   rcases ((hR p).1 hpR).2 with h|h
   ·exact h
   ·omega
  have hps:p<ops.size:=((hR p).1 hpR).1
  refine ⟨?_,?_⟩
  ·intro RY
   exfalso
   have:p∈Region.ready .any ops listed:=(GX listed p hsz).2 ⟨hps,hpl,op,hop,by rw[hdp];intro d hd;cases hd⟩
   rw[RY] at this;cases this
  ·intro i hi
   rw[GX listed i hsz] at hi
   obtain ⟨hi1,hi2,oi,Iz,Bz⟩:=hi
   have hiq:i≠q:=by rintro rfl;rw[hlq] at hi2;cases hi2
   have Xp:i∈R:=(hR i).2 ⟨hi1,.inl hi2⟩
   have Wi: ∀r∈R,tj ops r i=false:=by
    intro r hr
    cases hq':tj ops r i with
    |false=>rfl
    |true=>
     exfalso
     have hl:=xE hok V8 Iz Bz hq'
     rcases ((hR r).1 hr).2 with h|h
     ·rw[hl] at h;cases h
     ·subst h
      by_cases e:i=p
      ·subst e
       rw[hop] at Iz;cases Iz
       have:=xE hok (listed:=dx ops.size false) (by intro j o _ hj;rw[getD_replicate_false'] at hj;cases hj) hop (by rw[hdp];intro d hd;cases hd) hq'
       rw[getD_replicate_false'] at this;cases this
      ·have:=(hoth i oi Iz e hiq).2
       rw[hq'] at this
       have hl:=xE hok V8 Iz Bz this
       rw[hpl] at hl;cases hl
   by_cases eip:i=p
   ·
    subst eip
    rw[hop] at Iz;cases Iz
    have hno: ∀r∈R,r<i→RP ops r i=false:=by
     intro r hr hlt
     refine EU (Wi r hr) ?_
     cases ht:KX ops r i with
     |false=>rfl
     |true=>
      exfalso
      obtain ⟨_,⟨o1,_,t1,_,Wj,_,ht1,_⟩,_⟩:=C4 ht
      exact AW (hoth r o1 Wj (by omega) (by omega)).1 ht1
    obtain ⟨o1,E1,Wj,Wk,hE1⟩:=pull hok h Xp O0 hno
    rw[hop] at Wj;cases Wj
    obtain ⟨zp,hzp,hd1⟩:=CW htp hgp Wk
    obtain ⟨_,h1⟩:=hE1 _ ((hd1 _).2 rfl)
    have hqR':q∈R.erase i:=(hnd.mem_erase_iff).2 ⟨by omega,hqR⟩
    obtain ⟨o2,E2,ho2,hst2,hE2⟩:=pull hok h1 hqR' (O0.erase i) (by
     intro r hr hlt
     have hr':=eo hr
     have XL:r≠i:=fun e=>by subst e;exact (hnd.not_mem_erase) hr
     refine EU ?_ ?_
     ·cases ho':tj ops r q with
      |false=>rfl
      |true=>
       exfalso
       have:=xE hok (listed:=dx ops.size false) (by intro j o _ hj;rw[getD_replicate_false'] at hj;cases hj) hoq (by rw[hdq];intro d hd;cases hd) ho'
       rw[getD_replicate_false'] at this;cases this
     ·cases ht:KX ops r q with
      |false=>rfl
      |true=>
       exfalso
       obtain ⟨_,⟨o1,_,t1,_,Wj,_,ht1,_⟩,_⟩:=C4 ht
       exact AW (hoth r o1 Wj XL (by omega)).1 ht1)
    rw[hoq] at ho2;cases ho2
    obtain ⟨zq',hzq',hd2⟩:=CW htq hgq hst2
    rw[hzq] at hzq';cases hzq'
    obtain ⟨_,h2⟩:=hE2 _ ((hd2 _).2 rfl)
    refine GU S hop (Qi htp hgp hzp) ?_
    rintro e φ' v w' rfl S'
    have hoQ:tj ops i q=false:=by
     cases ho':tj ops i q with
     |false=>rfl
     |true=>
      exfalso
      have:=xE hok (listed:=dx ops.size false) (by intro j o _ hj;rw[getD_replicate_false'] at hj;cases hj) hoq (by rw[hdq];intro d hd;cases hd) ho'
      rw[getD_replicate_false'] at this;cases this
    obtain ⟨RT,_⟩:=(hspec q oq hoq).2 i op hpq hop hoQ
    obtain ⟨_,ap2,_⟩:=dR RT
    have MA:nbL σ.heap.length σ.slots:=m7.nb _ _ S0.slots
    have hob: ∀z∈σ.heap,objNb σ.heap.length z:=by
     intro z hz
     obtain ⟨l,hl⟩:=List.getElem?_of_mem hz
     exact Jp (S0.objs l z hl)
    have S2:=qq.swap (s:=((σ.app oq.dst (u5 σ.heap.length zq)).app op.dst (u5 (σ.app oq.dst (u5 σ.heap.length zq)).heap.length zp)).slots) (H:=σ.heap) (x:= .cells zq) (y:= .cells zp) (low:=σ.low) (df:=σ.df) (FB.nb S0.defers.2.2) S0.low.2 hob (XQ w0 hzq) (XQ w0 hzp) (by
     have e:(σ.app oq.dst (u5 σ.heap.length zq)).app op.dst (u5 (σ.app oq.dst (u5 σ.heap.length zq)).heap.length zp)=⟨((σ.app oq.dst (u5 σ.heap.length zq)).app op.dst (u5 (σ.app oq.dst (u5 σ.heap.length zq)).heap.length zp)).slots,σ.heap++[.cells zq]++[.cells zp],σ.low,σ.df⟩:=by
      cases oq.dst<;>cases op.dst<;>simp [AState.app,AState.put,u5,p4]
     rw[←e];exact S')
    have e2:(⟨renL (O2 σ.heap.length) ((σ.app oq.dst (u5 σ.heap.length zq)).app op.dst (u5 (σ.app oq.dst (u5 σ.heap.length zq)).heap.length zp)).slots,σ.heap++[.cells zp]++[.cells zq],σ.low,σ.df⟩:AState)
     =(σ.app op.dst (u5 σ.heap.length zp)).app oq.dst (u5 (σ.app op.dst (u5 σ.heap.length zp)).heap.length zq):=by
     have hren:=BB (ρ:=O2 σ.heap.length) (fun l hl=>N7 hl) σ.slots MA
     have Uq: ∀ (d:Nat) (c:AV) (cs:List AV),renL (O2 σ.heap.length) (cs.set d c)=(renL (O2 σ.heap.length) cs).set d (c.ren (O2 σ.heap.length)):=by
      intro d c cs
      induction cs generalizing d with
      |nil=>simp [renL]
      |cons x cs ih=>cases d with
       |zero=>simp [renL]
       |succ d=>simp [renL,ih]
     have hlen1:(σ.app oq.dst (u5 σ.heap.length zq)).heap.length=σ.heap.length+1:=by simp [AState.app,u5,p4]
     have hlen2:(σ.app op.dst (u5 σ.heap.length zp)).heap.length=σ.heap.length+1:=by simp [AState.app,u5,p4]
     have t0:O2 σ.heap.length σ.heap.length=σ.heap.length+1:=by simp [O2]
     have t1:O2 σ.heap.length (σ.heap.length+1)=σ.heap.length:=by simp [O2]
     rw[hlen1,hlen2]
     cases h1:oq.dst with
     |none=>cases h2:op.dst with
      |none=>simp [AState.app,AState.put,u5,p4,hren]
      |some dp=>simp [AState.app,AState.put,u5,p4,hren,Uq,AV.ren,t0,t1]
     |some dq=>cases h2:op.dst with
      |none=>simp [AState.app,AState.put,u5,p4,hren,Uq,AV.ren,t0,t1]
      |some dp=>
       have hne:dp≠dq:=fun e=>ap2 dp h2 (by rw[h1,e])
       simp only[AState.app,AState.put,u5,p4,hren,Uq,AV.ren,t0,t1,List.nil_append,List.append_nil]
       rw[ec _ _ hne]
    rw[e2] at S2
    have hF:RX ops ((R.erase i).erase q) (listed.setIfInBounds i true):=by
     refine ⟨(O0.erase i).erase q,by simpa using hsz,fun k=> ?_,HM hop Bz V8⟩
     have hnd':(R.erase i).Nodup:=hnd.erase i
     rw[hnd'.mem_erase_iff,hnd.mem_erase_iff,hR k]
     constructor
     ·rintro ⟨hne,hne2,h1,h2⟩
      refine ⟨h1,?_⟩
      rw[getD_set_ne false (fun e=>hne2 e.symm)]
      rcases h2 with h2|h2
      ·exact h2
      ·exact absurd h2 hne
     ·rintro ⟨h1,h2⟩
      have hne:k≠i:=by
       intro e
       subst e
       rw[Mm (by rw[hsz];exact hi1)] at h2;cases h2
      rw[getD_set_ne false (fun e=>hne e.symm)] at h2
      refine ⟨?_,hne,h1,.inl h2⟩
      intro ekq
      rw[ekq,hlq] at h2;cases h2
    refine back f _ _ _ _ _ w' (by omega) ?_ hF ?_ S2 (RQ (by simp) h2)
    ·rw[dm hqR',dm Xp];omega
    ·intro hm
     exact (hnd.not_mem_erase) (eo hm)
   ·
    obtain ⟨hqi,_⟩:=hoth i oi Iz eip hiq
    have hno: ∀r∈R,r<i→RP ops r i=false:=by
     intro r hr hlt
     refine EU (Wi r hr) ?_
     cases ht:KX ops r i with
     |false=>rfl
     |true=>
      exfalso
      obtain ⟨_,⟨_,o1,_,t1,_,Wj,_,ht1,_⟩,_⟩:=C4 ht
      rw[Iz] at Wj;cases Wj
      exact AW hqi ht1
    obtain ⟨o1,E1,Wj,Wk,hE1⟩:=pull hok h Xp O0 hno
    rw[Iz] at Wj;cases Wj
    have hnw: ∀e,E1 e→e.nw=[]:=by
     intro e he
     rcases Wk with ⟨_,h⟩|⟨_,_,e',he',_,h⟩|⟨_,f',args,V,hc,_,_,_⟩|⟨_,f',args,_,hc,_,_⟩
     ·rw[(h e).1 he]
     ·rw[(h e).1 he];exact quiet_nw hqi he'
     ·exfalso
      have:=zU hqi
      unfold qu at hc
      split at hc
      ·rename_i ho';rw[ho'] at this;simp [Aw] at this
      ·cases hc
     ·exfalso
      have:=zU hqi
      unfold qu at hc
      split at hc
      ·rename_i ho';rw[ho'] at this;simp [Aw] at this
      ·cases hc
    have hwh: ∀e,E1 e→e.whole=false:=by
     intro e he
     rcases Wk with ⟨_,h⟩|⟨_,_,e',he',_,h⟩|⟨_,f',args,V,hc,_,_,_⟩|⟨_,f',args,_,hc,_,_⟩
     ·rw[(h e).1 he]
     ·rw[(h e).1 he];exact quiet_wh hqi he'
     ·exfalso
      have:=zU hqi
      unfold qu at hc
      split at hc
      ·rename_i ho';rw[ho'] at this;simp [Aw] at this
      ·cases hc
     ·exfalso
      have:=zU hqi
      unfold qu at hc
      split at hc
      ·rename_i ho';rw[ho'] at this;simp [Aw] at this
      ·cases hc
    have hap:(∀d,oq.dst=some d→d ∉ oi.looksAt ops)∧(∀d,oi.dst=some d→oq.dst≠some d):=by
     rcases Nat.lt_or_gt_of_ne hiq with hlt|hgt
     ·have ho':tj ops i q=false:=by
       cases ho':tj ops i q with
       |false=>rfl
       |true=>
        exfalso
        have:=xE hok (listed:=dx ops.size false) (by intro j o _ hj;rw[getD_replicate_false'] at hj;cases hj) hoq (by rw[hdq];intro d hd;cases hd) ho'
        rw[getD_replicate_false'] at this;cases this
      obtain ⟨hap,_⟩:=(hspec q oq hoq).2 i oi hlt Iz ho'
      obtain ⟨x1,x2,x3⟩:=dR hap
      exact ⟨x3,x2⟩
     ·obtain ⟨hap,_⟩:=(hspec i oi Iz).2 q oq hgt hoq (Wi q hqR)
      obtain ⟨x1,x2,x3⟩:=dR hap
      exact ⟨x1,fun d hd hd'=>x2 d hd' hd⟩
    have hind: ∀e,E1 e→zQ ⟨i,σ.heap.length,e⟩ (u5 σ.heap.length zq)=true:=by
     intro e he
     simp [zQ,u5,Dm,hnw e he,hwh e he]
    have hfw:xm C.P ops oi (σ.app oq.dst (u5 σ.heap.length zq)) E1:=Wk.fwd (j:=i) hap.1 hind
    refine GU S Iz hfw ?_
    intro e φ' v w' he S'
    obtain ⟨_,sY⟩:=hE1 e he
    have hcomm:=XK (d:=oi.dst) (d':=oq.dst) (j:=i) hap.2 (hind e he) (Wk.lt he).2 (by simp [u5])
    have hle:(σ.app oi.dst e).heap.length=σ.heap.length:=by simp [AState.app,hnw e he,tF]
    rw[←hcomm] at S'
    have hg: ∃φ1 a1 w1,qq C φ1 (σ.app oi.dst e) a1 w1:=by
     rcases Wk with ⟨_,h⟩|⟨_,_,e',he',hp,h⟩|⟨_,f',args,V,hc,_,_,_⟩|⟨_,f',args,_,hc,_,_⟩
     ·rw[(h e).1 he,CU]
      exact ⟨φ0,_,w0,S0.put oi.dst (v:=undef) rfl⟩
     ·rw[(h e).1 he]
      obtain ⟨_,v1,w1,φ1,_,_,S1⟩:=HI S0 he' hp
      exact ⟨φ1,_,w1,S1⟩
     ·exfalso
      have:=zU hqi
      unfold qu at hc
      split at hc
      ·rename_i ho';rw[ho'] at this;simp [Aw] at this
      ·cases hc
     ·exfalso
      have:=zU hqi
      unfold qu at hc
      split at hc
      ·rename_i ho';rw[ho'] at this;simp [Aw] at this
      ·cases hc
    obtain ⟨φ1,a1,w1,S1⟩:=hg
    rw[←hle] at S'
    refine ih (R.erase i) _ φ' φ1 (σ.app oi.dst e) _ a1 w' w1 (by omega) ?_ (O0.erase i) (by simpa using hsz) ((hnd.mem_erase_iff).2 ⟨fun e'=>eip e'.symm,hpR⟩) ((hnd.mem_erase_iff).2 ⟨fun e'=>hiq e'.symm,hqR⟩) ?_ ?_ (HM Iz Bz V8) S' S1 sY
    ·rw[dm Xp];omega
    ·exact getD_set_true hlq
    ·intro k
     rw[hnd.mem_erase_iff,hR k]
     constructor
     ·rintro ⟨hne,h1,h2⟩
      refine ⟨h1,?_⟩
      rw[getD_set_ne false (fun e=>hne e.symm)];exact h2
     ·rintro ⟨h1,h2⟩
      have hne:k≠i:=by
       intro e'
       subst e'
       rcases h2 with h2|h2
       ·rw[Mm (by rw[hsz];exact hi1)] at h2;cases h2
       ·exact hiq h2
      refine ⟨hne,h1,?_⟩
      rw[getD_set_ne false (fun e=>hne e.symm)] at h2;exact h2
theorem draw_any {ro:Option Nat} (hok:C3 ops=true): ∀ (fuel:Nat) (R:List Nat) (listed:Array Bool) (φ:Nat→Value) (σ:AState) (a:Act) (w:World),R.length=fuel→RX ops R listed→
 qq C φ σ a w→N1 C.P ops (Q .normal) R [] σ→wpAnyIn (DG ro) 0 C.P .any ops (QC C Q) fuel listed a w:=by
 obtain ⟨_,hspec⟩:=Dn hok
 intro fuel
 induction fuel using Nat.strongRecOn with
 |ind fuel ih=>
  intro R listed φ σ a w hl F S h
  have O0:=F.pw
  have hsz:=F.sz
  have hR:=F.mem
  have hnd:R.Nodup:=O0.imp (fun h=>eK h)
  cases fuel with
  |zero=>
   have hR0:R=[]:=cR hl
   subst hR0
   refine ⟨?_,φ,σ,S,h⟩
   rw[List.eq_nil_iff_forall_not_mem]
   intro i hi
   rw[GX listed i hsz] at hi
   have:=(hR i).2 ⟨hi.1,hi.2.1⟩
   simp at this
  |succ fuel=>
   refine ⟨?_,?_⟩
   ·intro RY
    exfalso
    cases R with
    |nil=>simp at hl
    |cons r R=>
     have hr:=(hR r).1 (by simp)
     have ho:ops[r]? =some ops[r]:=dV hr.1
     have:r∈Region.ready .any ops listed:=by
      rw[GX listed r hsz]
      refine ⟨hr.1,hr.2,_,ho,fun d hd=> ?_⟩
      have hdr:=(hspec r _ ho).1 d hd
      cases hld:listed.getD d false with
      |true=>rfl
      |false=>
       have hdR:=(hR d).2 ⟨by omega,hld⟩
       rw[dW] at O0
       simp only[cU] at hdR
       rcases hdR with rfl|hdR
       ·omega
       ·have:=O0.1 d hdR;omega
     rw[RY] at this
     simp at this
   ·intro i hi
    rw[GX listed i hsz] at hi
    obtain ⟨hi1,hi2,oi,Iz,Bz⟩:=hi
    have Xp:=(hR i).2 ⟨hi1,hi2⟩
    have Wi: ∀r∈R,tj ops r i=false:=by
     intro r hr
     cases hq:tj ops r i with
     |false=>rfl
     |true=>
      exfalso
      have:=xE hok F.cl Iz Bz hq
      have hr':=((hR r).1 hr).2
      rw[hr'] at this;cases this
    by_cases htw: ∃p∈R,KX ops p i=true
    ·obtain ⟨p,hpR,htw⟩:=htw
     obtain ⟨hpi,⟨op,oq,tp,tq,hop,hoq,htp,htq,hgp,hgq,hdp,hdq⟩,hoth⟩:=C4 htw
     rw[Iz] at hoq;cases hoq
     have hpl:=((hR p).1 hpR).2
     obtain ⟨o1,E1,Wj,Wk,hE1⟩:=pull hok h hpR O0 (by
      intro r hr hlt
      refine EU ?_ ?_
      ·cases ho':tj ops r p with
       |false=>rfl
       |true=>
        exfalso
        have:=xE hok (listed:=dx ops.size false) (by intro j o _ hj;rw[getD_replicate_false'] at hj;cases hj) hop (by rw[hdp];intro d hd;cases hd) ho'
        rw[getD_replicate_false'] at this;cases this
      ·cases ht:KX ops r p with
       |false=>rfl
       |true=>
        exfalso
        obtain ⟨_,⟨o1,_,t1,_,Wj,_,ht1,_⟩,_⟩:=C4 ht
        exact AW (hoth r o1 Wj (by omega) (by omega)).1 ht1)
     rw[hop] at Wj;cases Wj
     obtain ⟨zp,hzp,hd1⟩:=CW htp hgp Wk
     obtain ⟨_,h1⟩:=hE1 _ ((hd1 _).2 rfl)
     have hqR':i∈R.erase p:=(hnd.mem_erase_iff).2 ⟨by omega,Xp⟩
     obtain ⟨o2,E2,ho2,hst2,hE2⟩:=pull hok h1 hqR' (O0.erase p) (by
      intro r hr hlt
      have hr':=eo hr
      have hrp:r≠p:=fun e=>by subst e;exact (hnd.not_mem_erase) hr
      refine EU (Wi r hr') ?_
      cases ht:KX ops r i with
      |false=>rfl
      |true=>
       exfalso
       obtain ⟨_,⟨o1,_,t1,_,Wj,_,ht1,_⟩,_⟩:=C4 ht
       exact AW (hoth r o1 Wj hrp (by omega)).1 ht1)
     rw[Iz] at ho2;cases ho2
     obtain ⟨zq,hzq,_⟩:=CW htq hgq hst2
     refine GU S Iz (Qi htq hgq hzq) ?_
     rintro e φ' v w' rfl S'
     refine draw_pend hok htw fuel (fun f R' listed' φ' σ' a' w' hf hl' F' _ S' h'=>ih f (by omega) R' listed' φ' σ' a' w' hl' F' S' h') Iz htq hgq hzq fuel R _ φ' φ σ _ a w' w (cZ _) hl O0 (by simpa using hsz) hpR Xp (Mm (by rw[hsz];exact hi1)) ?_ (HM Iz Bz F.cl) S' S h
     intro k
     rw[hR k]
     by_cases hk:k=i
     ·subst hk
      constructor
      ·rintro ⟨h1,_⟩;exact ⟨h1,.inr rfl⟩
      ·rintro ⟨h1,_⟩;exact ⟨h1,hi2⟩
     ·rw[getD_set_ne false (fun e=>hk e.symm)]
      constructor
      ·rintro ⟨h1,h2⟩;exact ⟨h1,.inl h2⟩
      ·rintro ⟨h1,h2|h2⟩
       ·exact ⟨h1,h2⟩
       ·exact absurd h2 hk
    ·have hno: ∀r∈R,r<i→RP ops r i=false:=by
      intro r hr _
      refine EU (Wi r hr) ?_
      cases ht:KX ops r i with
      |false=>rfl
      |true=>exact absurd ⟨r,hr,ht⟩ htw
     obtain ⟨o,E,ho,hst,hE⟩:=pull hok h Xp O0 hno
     refine GU S ho hst ?_
     intro e φ' v w' he S'
     obtain ⟨_,sY⟩:=hE e he
     refine ih fuel (by omega) (R.erase i) _ φ' _ _ w' ?_ (F.next Iz Bz) S' sY
     rw[dm Xp];omega
theorem awpD_sound {ro:Option Nat} {φ:Nat→Value} {σ:AState} {a:Act} {w:World} {id:Nat} (hm:C.P.follows .mixedOrders=true) (hok:C3 ops=true) (h:N1 C.P ops (Q .normal) (dY ops.size) [] σ) (S:qq C φ σ a w):
 (Code.region id ops true).wpIn (DG ro) 0 C.P (QC C Q) a w:=by
 refine wpIn_region_any hm ?_
 refine draw_any hok ops.size (dY ops.size) _ φ σ a _ (by simp) ⟨eN,by simp,?_,?_⟩ (S.drew _) h
 ·intro i
  simp only[eP]
  constructor
  ·intro hi;exact ⟨hi,getD_replicate_false' _ _⟩
  ·exact fun h=>h.1
 ·intro j o hj hL
  rw[getD_replicate_false'] at hL;cases hL
end region
end Go.Abs
namespace Go.Abs
section
variable {P:Program} {ops:Array Oper} {c:Nat} {H H':List AObj} {x:AV}
def XR (P:Program) (f:FuncId) (args:List AV) (H:List AObj) (x:AV) (H':List AObj):Prop:= ∀σ':AState,σ'.heap=H→AU P f args σ' (fun o H2=>o= .panic x∧H2=H')
def XS (P:Program) (ops:Array Oper) (c:Nat) (H:List AObj) (x:AV) (H':List AObj) (j:Nat) (o:Oper) (σ:AState) (v:AV):Prop:=
 σ.heap=H∧((j=c∧sr ops o σ=some true∧ ∃f args,qu σ o.op=some (f,args)∧XR P f args H x H')∨
   tj ops c j=true∨
   (j≠c∧ ∃e:wg,e.up=[]∧e.nw=[]∧e.val=v∧xm P ops o σ (fun e'=>e'=e)))
def awpI (P:Program) (ops:Array Oper) (c:Nat) (H:List AObj) (x:AV) (H':List AObj):List Nat→AState→Prop
 |[],_=>True
 |j::rest,σ=> ∃o v,ops[j]? =some o∧XS P ops c H x H' j o σ v∧awpI P ops c H x H' rest (σ.put o.dst v)
theorem GY (σ:AState) (d:Option Tmp) (v:AV):(σ.put d v).heap=σ.heap:=by cases d<;>rfl
theorem put_ev {σ:AState} {d:Option Tmp} {v:AV} {y:Operand} (h: ∀t,d=some t→y≠ .tmp t):(σ.put d v).ev y=σ.ev y:=by
 have:=app_ev (σ:=σ) (dst:=d) (e:={val:=v}) h
 rwa [CU] at this
theorem Vn {σ:AState} {d:Option Tmp} {v:AV} {t:Nat} (h: ∀t',d=some t'→t≠t'):(σ.put d v).slots[t]? =σ.slots[t]? :=by
 have:=O9 (σ:=σ) (dst:=d) (e:={val:=v}) h
 rwa [CU] at this
theorem put_comm {σ:AState} {d d':Option Tmp} {v v':AV} (h: ∀t,d=some t→d'≠some t):(σ.put d v).put d' v'=(σ.put d' v').put d v:=by
 cases d with
 |none=>cases d'<;>rfl
 |some t=>cases d' with
  |none=>rfl
  |some t'=>
   have hne:t≠t':=fun e=>h t rfl (by rw[e])
   simp only[AState.put]
   rw[ec _ _ hne]
theorem XS.move {j:Nat} {o:Oper} {σ σ':AState} {v:AV} (h:XS P ops c H x H' j o σ v) (hh:σ'.heap=σ.heap) (Cl: ∀y∈o.op.operands,σ'.ev y=σ.ev y) (hw:sr ops o σ'=sr ops o σ):XS P ops c H x H' j o σ' v:=by
 obtain ⟨h0,h⟩:=h
 refine ⟨hh.trans h0,?_⟩
 rcases h with ⟨h1,h2,f,args,h3,h4⟩|h1|⟨h1,e,h2,h3,h4,h5⟩
 ·exact .inl ⟨h1,by rw[hw];exact h2,f,args,by rw[DI Cl];exact h3,h4⟩
 ·exact .inr (.inl h1)
 ·exact .inr (.inr ⟨h1,e,h2,h3,h4,h5.local Cl hw (fun _ _=>⟨⟨fun _ _=>by rw[hh],fun _=>by rw[hh]⟩,fun _=>hh⟩)⟩)
theorem pullI (hok:C3 ops=true) {i:Nat}: ∀ {R:List Nat} {σ:AState},awpI P ops c H x H' R σ→i∈R→R.Pairwise (· < ·)→(∀r∈R,r<i→tj ops r i=false)→
 ∃o v,ops[i]? =some o∧XS P ops c H x H' i o σ v∧awpI P ops c H x H' (R.erase i) (σ.put o.dst v)
 |[],_,_,hi,_,_=>by simp at hi
 |r::R,σ,⟨or',vr,hor,hst,h⟩,hi,O0,RR=>by
  by_cases e:r=i
  ·subst e
   refine ⟨or',vr,hor,hst,?_⟩
   rw[eT];exact h
  ·have Xp:i∈R:=by
    simp only[cU] at hi
    rcases hi with h|h
    ·exact absurd h.symm e
    ·exact h
   rw[dW] at O0
   have XL:r<i:=O0.1 i Xp
   obtain ⟨oi,v,Iz,hsti,hr⟩:=pullI hok h Xp O0.2 (fun q hq hlt=>RR q (by simp [hq]) hlt)
   obtain ⟨_,hspec⟩:=Dn hok
   obtain ⟨RT,_⟩:=(hspec i oi Iz).2 r or' XL hor (RR r (by simp) XL)
   obtain ⟨a1,a2,a3⟩:=dR RT
   refine ⟨oi,v,Iz,hsti.move (GY _ _ _).symm (fun y hy=> ?_) (Fj fun k b d hg hd=> ?_),?_⟩
   ·rw[put_ev];intro d hd;exact Fk (a1 d hd) y hy
   ·rw[Vn];intro d' hd';exact HL (a1 d' hd') hg hd
   ·have hne:(r::R).erase i=r::R.erase i:=eU (by simpa using e)
    rw[hne]
    refine ⟨or',vr,hor,hst.move (GY _ _ _) (fun y hy=> ?_) (Fj fun k b d hg hd=> ?_),?_⟩
    ·rw[put_ev];intro d hd;exact Fk (a3 d hd) y hy
    ·rw[Vn];intro d' hd';exact HL (a3 d' hd') hg hd
    ·rw[put_comm (fun t ht=>fun h=>a2 t (by simpa using h) ht)];exact hr
def RZ:List Oper→List AV→List AV
 |[],s=>s
 |o::os,s=>RZ os (match o.dst with|some d=>s.set d .any|none=>s)
def NA (ops:Array Oper) (s:List AV):List AV:=RZ ops.toList s
theorem Pc: ∀ (L:List Oper) (s:List AV) (d:Nat) (v:AV),(∃o∈L,o.dst=some d)→RZ L (s.set d v)=RZ L s
 |[],_,_,_,⟨_,h,_⟩=>by simp at h
 |o::L,s,d,v,h=>by
  simp only[RZ]
  cases hd:o.dst with
  |none=>
   simp only
   refine Pc L s d v ?_
   obtain ⟨o',ho',hd'⟩:=h
   rcases cU.1 ho' with rfl|ho'
   ·rw[hd] at hd';cases hd'
   ·exact ⟨o',ho',hd'⟩
  |some t=>
   simp only
   by_cases e:t=d
   ·subst e;rw[List.set_set]
   ·rw[ec _ _ (fun h=>e h.symm)]
    refine Pc L _ d v ?_
    obtain ⟨o',ho',hd'⟩:=h
    rcases cU.1 ho' with rfl|ho'
    ·rw[hd] at hd';cases hd';exact absurd rfl e
    ·exact ⟨o',ho',hd'⟩
theorem XT {σ:AState} {o:Oper} {i:Nat} (ho:ops[i]? =some o) (v:AV):NA ops (σ.put o.dst v).slots=NA ops σ.slots:=by
 cases hd:o.dst with
 |none=>rfl
 |some d=>
  refine Pc _ _ d v ⟨o,?_,hd⟩
  have:=cW.1 ho
  obtain ⟨h1,h2⟩:=this
  rw[←h2];simp
theorem m7.setAny {E:Env}: ∀ {cs:List AV} {vs:List Value} (d:Nat),m7 E cs vs→m7 E (cs.set d .any) vs
 |[],_,_,h=>h
 |_::_,_,0,⟨v,us,rfl,_,r⟩=>⟨v,us,rfl,trivial,r⟩
 |_::_,_,d+1,⟨v,us,rfl,h1,r⟩=>⟨v,us,rfl,h1,m7.setAny d r⟩
theorem Pd {E:Env}: ∀ (L:List Oper) {cs:List AV} {vs:List Value},m7 E cs vs→m7 E (RZ L cs) vs
 |[],_,_,h=>h
 |o::L,cs,vs,h=>by
  simp only[RZ]
  cases o.dst with
  |none=>exact Pd L h
  |some d=>exact Pd L (m7.setAny d h)
end
section region
variable {C:Ctx} {ops:Array Oper} {Q:qL→AState→Prop}
theorem qq.NA {φ:Nat→Value} {σ:AState} {a:Act} {w:World} (S:qq C φ σ a w) (ops:Array Oper):qq C φ {σ with slots:=NA ops σ.slots} a w:={S with slots:=Pd _ S.slots,defers:=S.defers}
theorem draw_pan {ro:Option Nat} (hok:C3 ops=true) {c:Nat} {H H':List AObj} {x:AV} {s0:List AV} {low:Nat} {df:List (FuncId×List AV)} (hQ:Q (.panic x) {slots:=NA ops s0,heap:=H',low,df}):
 ∀ (fuel:Nat) (R:List Nat) (listed:Array Bool) (φ:Nat→Value) (σ:AState) (a:Act) (w:World),R.length=fuel→RX ops R listed→c∈R→
 qq C φ σ a w→NA ops σ.slots=NA ops s0→σ.low=low→σ.df=df→awpI C.P ops c H x H' R σ→wpAnyIn (DG ro) 0 C.P .any ops (QC C Q) fuel listed a w:=by
 obtain ⟨_,hspec⟩:=Dn hok
 intro fuel
 induction fuel with
 |zero=>
  intro R listed φ σ a w hl F hc S hs DD hdf h
  have hR0:R=[]:=cR hl
  rw[hR0] at hc
  simp at hc
 |succ fuel ih=>
  intro R listed φ σ a w hl F hc S hs DD hdf h
  have O0:=F.pw
  have hsz:=F.sz
  have hR:=F.mem
  have hnd:R.Nodup:=O0.imp (fun h=>eK h)
  refine ⟨?_,?_⟩
  ·intro RY
   exfalso
   cases R with
   |nil=>simp at hl
   |cons r R=>
    have hr:=(hR r).1 (by simp)
    have ho:ops[r]? =some ops[r]:=dV hr.1
    have:r∈Region.ready .any ops listed:=by
     rw[GX listed r hsz]
     refine ⟨hr.1,hr.2,_,ho,fun d hd=> ?_⟩
     have hdr:=(hspec r _ ho).1 d hd
     cases hld:listed.getD d false with
     |true=>rfl
     |false=>
      have hdR:=(hR d).2 ⟨by omega,hld⟩
      rw[dW] at O0
      simp only[cU] at hdR
      rcases hdR with rfl|hdR
      ·omega
      ·have:=O0.1 d hdR;omega
    rw[RY] at this
    simp at this
  ·intro i hi
   rw[GX listed i hsz] at hi
   obtain ⟨hi1,hi2,oi,Iz,Bz⟩:=hi
   have Xp:=(hR i).2 ⟨hi1,hi2⟩
   have Wi: ∀r∈R,tj ops r i=false:=by
    intro r hr
    cases hq:tj ops r i with
    |false=>rfl
    |true=>
     exfalso
     have:=xE hok F.cl Iz Bz hq
     have hr':=((hR r).1 hr).2
     rw[hr'] at this;cases this
   obtain ⟨o,v,ho,⟨hH,hst⟩,sY⟩:=pullI hok h Xp O0 (fun r hr _=>Wi r hr)
   rw[Iz] at ho;cases ho
   rcases hst with ⟨rfl,hw,f,args,hcal,hpan⟩|RR|⟨hne,e,hup,hnw,hval,hS⟩
   ·unfold wpOpIn
    simp only[Iz]
    rw[zf S hw]
    simp only[if_true]
    have xX:=hpan σ hH
    obtain ⟨vs,hrun,hr⟩:=GA S hcal xX.1
    refine ⟨fun _ _=>trivial,?_⟩
    rw[eE _ _ _ (HJ hcal),hrun,eF]
    refine ⟨fun h=>by simp [DG,dZ] at h,FD.2 ?_⟩
    refine (xX.2 C φ a w rfl S vs hr).mono fun en w' ⟨o',φ',H2,⟨ho',hH2⟩,S',uM⟩=> ?_
    subst ho' hH2
    cases en with
    |returned v=>exact uM.elim
    |panicked chain=>
     obtain ⟨u,hu,hr⟩:=uM
     refine ⟨φ',{slots:=NA ops s0,heap:=H2,low,df},x,u,?_,hQ,hu,hr⟩
     have:=S'.NA ops
     rw[←hs,←DD,←hdf]
     exact this
    |outgrown=>exact uM.elim
   ·rw[Wi c hc] at RR;cases RR
   ·refine GU S Iz hS ?_
    rintro e' φ' v' w' rfl S'
    have happ:σ.app oi.dst e'=σ.put oi.dst v:=by
     rw[show σ.app oi.dst e'=σ.app oi.dst {val:=v} by simp [AState.app,hup,hnw,hval],CU]
    rw[happ] at S'
    refine ih (R.erase i) _ φ' _ _ w' ?_ (F.next Iz Bz) ((hnd.mem_erase_iff).2 ⟨fun e=>hne e.symm,hc⟩) S' ?_ ?_ ?_ sY
    ·rw[dm Xp];omega
    ·rw[XT Iz];exact hs
    ·rw[←DD];cases oi.dst<;>rfl
    ·rw[←hdf];cases oi.dst<;>rfl
theorem awpI_sound {ro:Option Nat} {φ:Nat→Value} {σ:AState} {a:Act} {w:World} {id c:Nat} {H':List AObj} {x:AV} (hm:C.P.follows .mixedOrders=true) (hok:C3 ops=true) (hc:c<ops.size) (h:awpI C.P ops c σ.heap x H' (dY ops.size) σ)
 (hQ:Q (.panic x) {σ with slots:=NA ops σ.slots,heap:=H'}) (S:qq C φ σ a w):(Code.region id ops true).wpIn (DG ro) 0 C.P (QC C Q) a w:=by
 refine wpIn_region_any hm ?_
 refine draw_pan hok hQ ops.size (dY ops.size) _ φ σ a _ (by simp) ⟨eN,by simp,?_,?_⟩ (by simpa using hc) (S.drew _) rfl rfl rfl h
 ·intro i
  simp only[eP]
  constructor
  ·intro hi;exact ⟨hi,getD_replicate_false' _ _⟩
  ·exact fun h=>h.1
 ·intro j o hj hL
  rw[getD_replicate_false'] at hL;cases hL
def Gc (tr:List Tr):Bool:=tr.all fun t=>t.e.up.isEmpty&&t.e.nw.isEmpty
def HN (P:Program) (ops:Array Oper) (c:Nat):List Oper→Nat→AState→Prop
 |[],_,_=>True
 |o::rest,j,σ=>match tj ops c j with
  |true=>HN P ops c rest (j+1) (σ.put o.dst (.raw undef))
  |false=>match sr ops o σ with
   |none=>False
   |some false=>HN P ops c rest (j+1) (σ.put o.dst (.raw undef))
   |some true=>qu σ o.op=none∧match nW P σ o.op with
    |some e=>(e.pre∧e.up=[]∧e.nw=[])∧HN P ops c rest (j+1) (σ.put o.dst e.val)
    |none=>False
theorem Fl {P:Program} {c:Nat} {H H':List AObj} {x:AV}: ∀ (rest:List Oper) (j:Nat) (σ:AState),ops.toList.drop j=rest→c<j→σ.heap=H→HN P ops c rest j σ→awpI P ops c H x H' (e9 j rest.length) σ
 |[],_,_,_,_,_,_=>trivial
 |o::rest,j,σ,hd,hcj,hH,h=>by
  have ho:ops[j]? =some o:=by
   have:=congrArg (fun l:List Oper=>l[0]?) hd
   simpa using this
  have sY:ops.toList.drop (j+1)=rest:=by
   have:=congrArg eM hd
   simpa [ey] using this
  simp only[dK,dw]
  simp only[HN] at h
  split at h
  ·rename_i hor
   exact ⟨o,.raw undef,ho,⟨hH,.inr (.inl hor)⟩,Fl rest (j+1) _ sY (by omega) (by rw[GY];exact hH) h⟩
  ·split at h
   ·exact h.elim
   ·rename_i hw
    exact ⟨o,.raw undef,ho,⟨hH,.inr (.inr ⟨by omega,{val:= .raw undef},rfl,rfl,rfl,.inl ⟨hw,fun _=>cT⟩⟩)⟩,Fl rest (j+1) _ sY (by omega) (by rw[GY];exact hH) h⟩
   ·rename_i hw
    obtain ⟨hc,h⟩:=h
    split at h
    ·rename_i e he
     obtain ⟨⟨hp,hu,hn⟩,h⟩:=h
     exact ⟨o,e.val,ho,⟨hH,.inr (.inr ⟨by omega,e,hu,hn,rfl,.inr (.inl ⟨hw,hc,e,he,hp,fun _=>cT⟩)⟩)⟩,Fl rest (j+1) _ sY (by omega) (by rw[GY];exact hH) h⟩
    ·exact h.elim
end region
end Go.Abs
namespace Go.Abs
def qL.then (next:AState→Prop) (Q:qL→AState→Prop):qL→AState→Prop
 | .normal,σ=>next σ
 |e,σ=>Q e σ
def qL.inBlock (id:Nat) (Q:qL→AState→Prop):qL→AState→Prop
 | .exit id',σ=>if id'=id then Q .normal σ else Q (.exit id') σ
 |e,σ=>Q e σ
def qL.noGoto (Q:qL→AState→Prop):qL→AState→Prop
 | .goto _,_=>False
 |e,σ=>Q e σ
def wg.idle (e:wg):Bool:=e.rd.isEmpty&&e.up.isEmpty&&e.nw.isEmpty&& !e.whole
def C5 (tr:List Tr) (j n:Nat) (e:wg):List Tr:=bif e.idle then tr else tr++[⟨j,n,e⟩]
def Bo (ops:Array Oper) (tr:List Tr) (j:Nat) (e:wg):Prop:=e.idle=true∨Bn ops tr j e=true
def N8 (P:Program) (ops:Array Oper) (Q:qL→AState→Prop):List Oper→Nat→List Tr→AState→Prop
 |[],_,_,σ=>Q .normal σ
 |o::rest,j,tr,σ=>match sr ops o σ with
  |none=>False
  |some b=>(b=true→match qu σ o.op with
    |some (f,args)=>(∃r,xS P f args (fun v=>v=r)∧N8 P ops Q rest (j+1) tr (σ.put o.dst r))∨
      (∃e,DH P f args σ e∧Bo ops tr j e∧N8 P ops Q rest (j+1) (C5 tr j σ.heap.length e) (σ.app o.dst e))∨
      ∃x H',XR P f args σ.heap x H'∧Gc tr=true∧HN P ops j rest (j+1) (σ.put o.dst (.raw undef))∧Q (.panic x) {σ with slots:=NA ops σ.slots,heap:=H'}
    |none=>match nW P σ o.op with
     |some e=>e.pre∧Bo ops tr j e∧N8 P ops Q rest (j+1) (C5 tr j σ.heap.length e) (σ.app o.dst e)
     |none=>False)∧
   (b=false→N8 P ops Q rest (j+1) tr (σ.put o.dst (.raw undef)))
def RangeA (P:Program) (g:Operand) (ps:Array Tmp) (as body:Code) (Q:qL→AState→Prop) (σ:AState):Prop:=
 ∀ (C:Ctx) (φ:Nat→Value) (a:Act) (w:World),C.P=P→qq C φ σ a w→(Code.rangeFunc g ps as body).wpIn (DG none) 0 P (QC C Q) a w
def wV:Code→Bool
 | .region _ ops _=>ops.toList.all fun o=> !isDefer o.op
 | .seq x y=>wV x&&wV y
 | .cond _ x y=>wV x&&wV y
 | .block _ x=>wV x
 | .loop x=>wV x
 | .scope x=>wV x
 | .rangeFunc _ _ _ _=>false
 |_=>true
def Ri (P:Program):Code→(qL→AState→Prop)→AState→Prop
 | .skip,Q,σ=>Q .normal σ
 | .region _ ops false,Q,σ=>Ix P ops ops.toList Q σ
 | .region _ ops true,Q,σ=>(P.follows .mixedOrders=true∧C3 ops=true)∧N8 P ops Q ops.toList 0 [] σ
 | .seq x y,Q,σ=>Ri P x (qL.then (fun σ1=> ∃σ2,Fi σ1 σ2∧Ri P y Q σ2) Q) σ
 | .cond c x y,Q,σ=>match σ.ev c with
   | .bool b=>(b=true→Ri P x Q σ)∧(b=false→Ri P y Q σ)
   |_=>False
 | .block id x,Q,σ=>Ri P x (qL.inBlock id Q) σ
 | .loop x,Q,σ=> ∃ (I:Nat→AState→Prop) (n:Nat) (σ':AState),Fi σ σ'∧I n σ'∧
     ∀n σ,I n σ→Ri P x (qL.then (fun σ1=> ∃n' σ',n'<n∧Fi σ1 σ'∧I n' σ') Q) σ
 | .exit id,Q,σ=>Q (.exit id) σ
 | .scope x,Q,σ=>Ri P x (qL.noGoto Q) σ
 | .label _,Q,σ=>Q .normal σ
 | .ret,Q,σ=>Q .ret σ
 | .goto _,_,_=>False
 | .rangeFunc g ps as body,Q,σ=>RangeA P g ps as body Q σ
 | .refuse _,_,_=>False
theorem N9 {t:Tr} {e:wg} (h:e.idle=true):zQ t e=true:=by
 unfold wg.idle at h
 simp only[cJ,dr] at h
 obtain ⟨⟨⟨h1,h2⟩,h3⟩,h4⟩:=h
 unfold zQ Dm
 simp at h4
 simp [h1,h2,h3,h4]
theorem Pe {t:Tr} {e:wg} (h:t.e.idle=true):zQ t e=true:=by
 unfold wg.idle at h
 simp only[cJ,dr] at h
 obtain ⟨⟨⟨h1,h2⟩,h3⟩,h4⟩:=h
 unfold zQ Dm
 simp at h4
 simp [h1,h2,h3,h4]
theorem Qj {tr:List Tr} {j n:Nat} {e:wg} (h:Gc (C5 tr j n e)=true):Gc tr=true∧e.up=[]∧e.nw=[]:=by
 unfold C5 at h
 cases hi:e.idle with
 |true=>
  rw[hi] at h
  unfold wg.idle at hi
  simp only[cJ,dr] at hi
  exact ⟨h,hi.1.1.2,hi.1.2⟩
 |false=>
  rw[hi] at h
  unfold Gc at h ⊢
  simp only[cond_false,List.all_append,List.all_cons,List.all_nil,Bool.and_true,cJ,dr] at h
  exact ⟨h.1,h.2.1,h.2.2⟩
def PanD (P:Program) (ops:Array Oper) (Q:qL→AState→Prop) (j m:Nat) (tr:List Tr) (σ:AState):Prop:=
 Gc tr=true∧ ∃c x H',j≤c∧c<j+m∧awpI P ops c σ.heap x H' (e9 j m) σ∧Q (.panic x) {σ with slots:=NA ops σ.slots,heap:=H'}
theorem PanD.step {P:Program} {ops:Array Oper} {Q:qL→AState→Prop} {j m:Nat} {tr Uo:List Tr} {σ:AState} {o:Oper} {v:AV} (ho:ops[j]? =some o) (ht:Gc Uo=true→Gc tr=true∧ ∃e:wg,e.up=[]∧e.nw=[]∧e.val=v∧xm P ops o σ (fun e'=>e'=e))
 (h:PanD P ops Q (j+1) m Uo (σ.put o.dst v)):PanD P ops Q j (m+1) tr σ:=by
 obtain ⟨h1,c,x,H',h2,h3,h4,h5⟩:=h
 obtain ⟨k1,k2⟩:=ht h1
 refine ⟨k1,c,x,H',by omega,by omega,?_,?_⟩
 ·rw[dw]
  rw[GY] at h4
  exact ⟨o,v,ho,⟨rfl,.inr (.inr ⟨by omega,k2⟩)⟩,h4⟩
 ·rw[XT ho] at h5
  cases hd:o.dst<;>rw[hd] at h5<;>exact h5
theorem XU {σ:AState} {d:Option Tmp} {e:wg} (hu:e.up=[]) (hn:e.nw=[]):σ.app d e=σ.put d e.val:=by
 rw[show σ.app d e=σ.app d {val:=e.val,rd:=e.rd,pre:=e.pre} by simp [AState.app,hu,hn]]
 exact CU _ _ _ _ _
theorem CC {P:Program} {ops:Array Oper} {Q:qL→AState→Prop}: ∀ (rest:List Oper) (j:Nat) (tr Uo:List Tr) (σ:AState),ops.toList.drop j=rest→(∀t∈Uo,t∈tr∨t.e.idle=true)→
 N8 P ops Q rest j tr σ→N1 P ops (Q .normal) (e9 j rest.length) Uo σ∨PanD P ops Q j rest.length tr σ
 |[],_,_,_,_,_,_,h=> .inl h
 |o::rest,j,tr,Uo,σ,hd,htr,h=>by
  have ho:ops[j]? =some o:=by
   have:=congrArg (fun l:List Oper=>l[0]?) hd
   simpa using this
  have sY:ops.toList.drop (j+1)=rest:=by
   have:=congrArg eM hd
   simpa [ey] using this
  have Rj: ∀e,Bo ops tr j e→Bn ops Uo j e=true:=by
   intro e he
   unfold Bn
   rw[cQ]
   intro t ht
   rcases he with he|he
   ·rw[N9 he];rfl
   ·rcases htr t ht with h1|h1
    ·unfold Bn at he
     rw[cQ] at he
     exact he t h1
    ·rw[Pe h1];rfl
  have hpush: ∀n e,∀t∈Uo++[⟨j,n,e⟩],t∈C5 tr j n e∨t.e.idle=true:=by
   intro n e t ht
   unfold C5
   rcases cN.1 ht with ht|ht
   ·rcases htr t ht with h1|h1
    ·left
     cases e.idle
     ·exact cN.2 (.inl h1)
     ·exact h1
    ·exact .inr h1
   ·simp only[cP] at ht
    subst ht
    cases hi:e.idle
    ·left;simp
    ·right;rfl
  have hidle: ∀x:AV,({val:=x}:wg).idle=true:=fun _=>rfl
  have hpush': ∀n x,∀t∈Uo++[⟨j,n,{val:=x}⟩],t∈tr∨t.e.idle=true:=by
   intro n x t ht
   have:=hpush n {val:=x} t ht
   simpa [C5,hidle] using this
  simp only[N8] at h
  simp only[dK]
  split at h
  ·exact h.elim
  ·rename_i b hb
   cases b with
   |false=>
    have hst:xm P ops o σ (fun e=>e={val:= .raw undef}):= .inl ⟨hb,fun _=>cT⟩
    rcases CC rest (j+1) tr (Uo++[⟨j,σ.heap.length,{val:= .raw undef}⟩]) _ sY (hpush' _ _) (h.2 rfl) with hl|hr
    ·left
     rw[dw]
     refine ⟨o,_,ho,hst,fun e he=> ?_⟩
     subst he
     refine ⟨Rj _ (.inl rfl),?_⟩
     rw[CU];exact hl
    ·exact .inr (hr.step ho fun ht=>⟨ht,_,rfl,rfl,rfl,hst⟩)
   |true=>
    have h:=h.1 rfl
    split at h
    ·rename_i f args hc
     rcases h with ⟨r,hf,hK⟩|⟨e,hf,hcp,hK⟩|⟨x,H',hp,ht,XL,hQ⟩
     ·have hst:xm P ops o σ (fun e=>e={val:=r}):= .inr (.inr (.inl ⟨hb,f,args,_,hc,hf,⟨r,rfl⟩,fun e=>⟨fun he=>⟨r,rfl,he⟩,fun ⟨r',h1,h2⟩=>by rw[h2,h1]⟩⟩))
      rcases CC rest (j+1) tr (Uo++[⟨j,σ.heap.length,{val:=r}⟩]) _ sY (hpush' _ _) hK with hl|hr
      ·left
       rw[dw]
       refine ⟨o,_,ho,hst,fun e he=> ?_⟩
       subst he
       refine ⟨Rj _ (.inl rfl),?_⟩
       rw[CU];exact hl
      ·exact .inr (hr.step ho fun ht=>⟨ht,_,rfl,rfl,rfl,hst⟩)
     ·have hst:xm P ops o σ (fun e'=>e'=e):= .inr (.inr (.inr ⟨hb,f,args,e,hc,hf,fun _=>cT⟩))
      rcases CC rest (j+1) _ (Uo++[⟨j,σ.heap.length,e⟩]) _ sY (hpush _ _) hK with hl|hr
      ·left
       rw[dw]
       refine ⟨o,_,ho,hst,fun e' he=> ?_⟩
       subst he
       exact ⟨Rj _ hcp,hl⟩
      ·right
       have ht:=hr.1
       obtain ⟨t1,t2,t3⟩:=Qj ht
       rw[XU t2 t3] at hr
       exact hr.step ho fun _=>⟨t1,e,t2,t3,rfl,hst⟩
     ·right
      refine ⟨ht,j,x,H',cZ _,by omega,?_,hQ⟩
      rw[dw]
      refine ⟨o,.raw undef,ho,⟨rfl,.inl ⟨rfl,hb,f,args,hc,hp⟩⟩,?_⟩
      exact Fl rest (j+1) _ sY (by omega) (GY _ _ _) XL
    ·rename_i hc
     split at h
     ·rename_i e he
      have hst:xm P ops o σ (fun e'=>e'=e):= .inr (.inl ⟨hb,hc,e,he,h.1,fun _=>cT⟩)
      rcases CC rest (j+1) _ (Uo++[⟨j,σ.heap.length,e⟩]) _ sY (hpush _ _) h.2.2 with hl|hr
      ·left
       rw[dw]
       refine ⟨o,_,ho,hst,fun e' he'=> ?_⟩
       subst he'
       exact ⟨Rj _ h.2.1,hl⟩
      ·right
       have ht:=hr.1
       obtain ⟨t1,t2,t3⟩:=Qj ht
       rw[XU t2 t3] at hr
       exact hr.step ho fun _=>⟨t1,e,t2,t3,rfl,hst⟩
     ·exact h.elim
section sound
variable {C:Ctx}
theorem QC_then {Q:qL→AState→Prop} {next:AState→Prop} {nextC:Act→World→Prop} (h: ∀φ σ a w,qq C φ σ a w→next σ→nextC a w) {e:Exit} {a:Act} {w:World}
 (hq:QC C (qL.then next Q) e a w):Exit.then nextC (QC C Q) e a w:=by
 cases e with
 |normal=>obtain ⟨φ,σ,S,hn⟩:=hq;exact h φ σ a w S hn
 |exit id=>exact hq
 |goto l=>exact hq
 |ret=>exact hq
 |panic chain=>exact hq
 |outgrown=>exact hq
theorem QC_inBlock {Q:qL→AState→Prop} {id:Nat} {e:Exit} {a:Act} {w:World} (hq:QC C (qL.inBlock id Q) e a w):Exit.inBlock id (QC C Q) e a w:=by
 cases e with
 |exit id'=>
  obtain ⟨φ,σ,S,h⟩:=hq
  simp only[qL.inBlock] at h
  simp only[Exit.inBlock]
  split at h
  ·rename_i e;rw[if_pos e];exact ⟨φ,σ,S,h⟩
  ·rename_i e;rw[if_neg e];exact ⟨φ,σ,S,h⟩
 |normal=>exact hq
 |goto l=>exact hq
 |ret=>exact hq
 |panic chain=>exact hq
 |outgrown=>exact hq
theorem QC_noGoto {Q:qL→AState→Prop} {e:Exit} {a:Act} {w:World} (hq:QC C (qL.noGoto Q) e a w):Exit.noGoto (QC C Q) e a w:=by
 cases e with
 |goto l=>obtain ⟨φ,σ,S,h⟩:=hq;exact h.elim
 |normal=>exact hq
 |exit id=>exact hq
 |ret=>exact hq
 |panic chain=>exact hq
 |outgrown=>exact hq
theorem Wl {F:Fence} {n:Nat} {P:Program} {Q:Exit→Act→World→Prop} {a:Act} {w:World} {c:Code} (I:Nat→Act→World→Prop) (n₀:Nat) (h₀:I n₀ a w)
 (round: ∀m a w,I m a w→c.wpIn F n P (Exit.then (fun a' w'=> ∃m',m'<m∧I m' a' w') Q) a w):(Code.loop c).wpIn F n P Q a w:=by
 refine wpIn_loop (fun a w=> ∃m,I m a w) (fun a w=>leastOf (fun m=>I m a w)) ⟨n₀,h₀⟩ ?_
 intro a w hI
 refine wpIn_mono (round _ a w (leastOf_spec hI).1) ?_
 intro e a' w' hq
 cases e with
 |normal=>
  obtain ⟨m',hlt,hI'⟩:=hq
  exact ⟨⟨m',hI'⟩,Nat.lt_of_le_of_lt ((leastOf_spec ⟨m',hI'⟩).2 m' hI') hlt⟩
 |exit id=>exact hq
 |goto l=>exact hq
 |ret=>exact hq
 |panic chain=>exact hq
 |outgrown=>exact hq
theorem Dq {P:Program} {b:Frame} {a:Act} {k:List Item} {cs:List Frame} {w:World} {c:Code}:step P (lone (b.atR a (.code (.scope c)::k)) cs w)= .next (lone (b.atR a (.code c:: .inScope c::k)) cs w):=
 step_lone_go (by simp [stepG,stepG.exec,Frame.atR])
theorem Ur {P:Program} {b:Frame} {a:Act} {k:List Item} {cs:List Frame} {w:World} {c:Code}:step P (lone (b.atR a (.inScope c::k)) cs w)= .next (lone (b.atR a k) cs w):=
 step_lone_go (by simp [stepG,stepG.exec,Frame.atR])
theorem Pf {F:Fence} {n:Nat} {P:Program} {Q:Exit→Act→World→Prop} {a:Act} {w:World} {c:Code} (h:c.wpIn F n P (Exit.noGoto Q) a w):(Code.scope c).wpIn F n P Q a w:=by
 intro b k cs hro hb hr
 have h0:(lone (b.atR a (.code (.scope c)::k)) cs w).fenced P F:=fenced_calm (fr:=b.atR a (.code (.scope c)::k)) hb hr rfl
 obtain ⟨e,a₁,w₁,hq,Us⟩:=h b (.inScope c::k) cs hro hb hr
 cases e with
 |normal=>exact ⟨.normal,a₁,w₁,hq,.head h0 Dq (StepsIn.trans Us (.one (fenced_calm (fr:=b.atR a₁ (.inScope c::k)) hb hr rfl) Ur))⟩
 |exit id=>
  have hx:exitTo id (.inScope c::k)=exitTo id k:=by simp [exitTo]
  exact ⟨.exit id,a₁,w₁,hq,fun k' hk=> .head h0 Dq (Us.1 k' (by rw[hx];exact hk)),
   fun hr' hk=>let ⟨k₁,h1,h2⟩:=Us.2 hr' (by rw[hx];exact hk);⟨k₁,h1,.head h0 Dq h2⟩⟩
 |goto l=>exact hq.elim
 |ret=>exact ⟨.ret,a₁,w₁,hq,.of_steps (.one h0 Dq) Us⟩
 |panic ch=>exact ⟨_,a₁,w₁,hq,.of_steps (.one h0 Dq) Us⟩
 |outgrown=>exact ⟨_,a₁,w₁,hq,.of_steps (.one h0 Dq) Us⟩
theorem xT {ro:Option Nat}: ∀ (c:Code) (Q:qL→AState→Prop) (φ:Nat→Value) (σ:AState) (a:Act) (w:World),(ro=none∨wV c=true)→Ri C.P c Q σ→qq C φ σ a w→c.wpIn (DG ro) 0 C.P (QC C Q) a w
 | .skip,Q,φ,σ,a,w,_,h,S=>wpIn_skip ⟨φ,σ,S,h⟩
 | .region id ops false,Q,φ,σ,a,w,hn,h,S=>by
   have:=NX (ro:=ro) rfl ops.toList 0 hn (by simp) φ σ a w h S
   refine wpIn_region ?_
   rw[ew]
   simpa using this
 | .region id ops true,Q,φ,σ,a,w,_,h,S=>by
   obtain ⟨⟨hm,hok⟩,h⟩:=h
   rcases CC ops.toList 0 [] [] σ (by simp) (by simp) h with this|⟨_,c,x,H',_,hc,hI,hQ⟩
   ·refine awpD_sound hm hok ?_ S
    rw[ew]
    simpa using this
   ·refine awpI_sound (c:=c) (x:=x) (H':=H') hm hok (by simpa using hc) ?_ hQ S
    rw[ew]
    simpa using hI
 | .seq x y,Q,φ,σ,a,w,hn,h,S=>
   wpIn_seq (wpIn_mono (xT x _ φ σ a w (hn.imp id fun h=>(cJ _ _ ▸ h:wV x=true∧wV y=true).1) h S) fun _ _ _ hq=>QC_then (fun φ' σ' a' w' S' h'=>by
    obtain ⟨σ2,himp,h2⟩:=h'
    obtain ⟨φ2,S2⟩:=himp C φ' a' w' S'
    exact xT y Q φ2 σ2 a' w' (hn.imp id fun h=>(cJ _ _ ▸ h:wV x=true∧wV y=true).2) h2 S2) hq)
 | .cond c x y,Q,φ,σ,a,w,hn,h,S=>by
   simp only[Ri] at h
   have hc:=S.ev c
   split at h
   ·rename_i b hb
    rw[hb] at hc
    simp only[rB] at hc
    refine wpIn_cond hc ?_
    cases b with
    |true=>exact xT x Q φ σ a w (hn.imp id fun h=>(cJ _ _ ▸ h:wV x=true∧wV y=true).1) (h.1 rfl) S
    |false=>exact xT y Q φ σ a w (hn.imp id fun h=>(cJ _ _ ▸ h:wV x=true∧wV y=true).2) (h.2 rfl) S
   ·exact h.elim
 | .block id x,Q,φ,σ,a,w,hn,h,S=>wpIn_block (wpIn_mono (xT x _ φ σ a w hn h S) fun _ _ _ hq=>QC_inBlock hq)
 | .loop x,Q,φ,σ,a,w,hn,h,S=>by
   obtain ⟨I,n,σ',himp,hI,hround⟩:=h
   obtain ⟨φ',S'⟩:=himp C φ a w S
   refine Wl (fun n a w=> ∃φ σ,I n σ∧qq C φ σ a w) n ⟨φ',σ',hI,S'⟩ ?_
   rintro n a w ⟨φ,σ,hI,S⟩
   refine wpIn_mono (xT x _ φ σ a w hn (hround n σ hI) S) fun _ _ _ hq=>QC_then ?_ hq
   rintro φ1 σ1 a1 w1 S1 ⟨n',σ2,hlt,himp,hI'⟩
   obtain ⟨φ2,S2⟩:=himp C φ1 a1 w1 S1
   exact ⟨n',hlt,φ2,σ2,hI',S2⟩
 | .exit id,Q,φ,σ,a,w,_,h,S=>wpIn_exit ⟨φ,σ,S,h⟩
 | .scope x,Q,φ,σ,a,w,hn,h,S=>Pf (wpIn_mono (xT x _ φ σ a w hn h S) fun _ _ _ hq=>QC_noGoto hq)
 | .label l,Q,φ,σ,a,w,_,h,S=>wpIn_label ⟨φ,σ,S,h⟩
 | .ret,Q,φ,σ,a,w,_,h,S=>wpIn_ret ⟨φ,σ,S,h⟩
 | .goto l,Q,φ,σ,a,w,_,h,S=>h.elim
 | .rangeFunc f p x y,Q,φ,σ,a,w,hn,h,S=>by
   rcases hn with rfl|hn
   ·exact h C φ a w rfl S
   ·cases hn
 | .refuse s,Q,φ,σ,a,w,_,h,S=>h.elim
theorem qq.Oa {φ:Nat→Value} {σ:AState} {tmps:Array Value} {D:Nat} {ds:List Deferred} {w:World} (S:qq C φ σ {tmps,defers:=⟨.collected D,#[]⟩::ds} w):
 w.heap[D]? =some (.deferred (some []))∧qq C φ σ {tmps,defers:=ds} (w.putObj D (.deferred none)):=by
 obtain ⟨hnd,hall,hrd⟩:=S.defers
 have hmk:NR (⟨.collected D,#[]⟩:Deferred)=true:=rfl
 simp only[eL,hmk,if_true,eD,dG,if_false] at hnd hrd
 obtain ⟨D',hD,h1,h2,h3⟩:=hall _ (eB) rfl
 simp only[Deferred.mk.injEq,Target.collected.injEq,and_true] at hD
 subst hD
 refine ⟨h1,?_⟩
 have xD: ∀b,b≠D→(w.putObj D (.deferred none)).heap[b]? =w.heap[b]? :=fun b hb=>World.putObj_heap_other hb
 have hcell: ∀b o,(w.putObj D (.deferred none)).cell? ⟨b,o,none⟩=w.cell? ⟨b,o,none⟩:=by
  intro b o
  by_cases e:b=D
  ·subst e
   simp only[World.cell?,h1,World.putObj_heap_same (cW.1 h1).1]
  ·simp only[World.cell?,xD b e]
 have le:(C.env φ σ.heap w).Le σ.heap.length (C.env φ σ.heap (w.putObj D (.deferred none))):=
  Ctx.zP (cZ _) (fun _ _=>⟨rfl,rfl⟩) (fun b o u hm hc=>⟨hm,by rw[hcell];exact hc⟩)
 have At:uG C φ σ.heap (w.putObj D (.deferred none)) σ.df ds:=by
  rw[List.nodup_cons] at hnd
  refine ⟨hnd.2,fun d hd hm=> ?_,hrd.mono le⟩
  obtain ⟨D',e,g1,g2,g3⟩:=hall d (List.mem_cons_of_mem _ hd) hm
  refine ⟨D',e,?_,g2,g3⟩
  rw[xD D' (fun e'=>hnd.1 (dU.2 ⟨by subst e';rw[←e];exact hd,rfl⟩))];exact g1
 refine {slots:=m7.mono le _ _ (m7.nb _ _ S.slots) S.slots,defers:=At,objs:= ?_,apart:=S.apart,vk:=S.vk,size:=by rw[World.putObj_size];exact S.size,old:=fun b o hb hm=>by rw[hcell];exact S.old b o hb hm,qQ:= ?_,A9:=S.A9,wG:= ?_,rest:=S.rest,low:=S.low,names:=S.names}
 ·intro l x hx
  exact qV.mono (S.objs l x hx) le (fun b hb=>xD b (fun e=>by subst e;exact h3 l x hx hb))
 ·intro b hb hm
  rw[xD b (by omega)];exact S.qQ b hb hm
 ·intro x hx
  rw[←S.wG x hx]
  by_cases e:x.block=D
  ·simp only[World.frozen?]
   rw[e,h1,World.putObj_heap_same (cW.1 h1).1]
  ·simp only[World.frozen?]
   rw[xD x.block e]
theorem qq.marks {fn:Func} {R:Ending→World→Prop} {u:FrameMode} {φ:Nat→Value} {σ:AState} {tmps tm:Array Value} (hu:u≠ .run) (hdf:σ.df=[]): ∀ (ds:List Deferred) (w:World),qq C φ σ {tmps,defers:=ds} w→
 (∀w',qq C φ σ {tmps,defers:=[]} w'→LeavesIn dZ 0 C.P fn tm R [] u w')→LeavesInM dZ 0 C.P fn tm R ds u w
 |[],w,S,h=>h w S
 |d::ds,w,S,h=>by
  have hm:NR d=true:=by
   have:=S.defers.2.2
   rw[hdf] at this
   have hnil:(d::ds).filter (fun d=> !NR d)=[]:=this
   rw[List.filter_eq_nil_iff] at hnil
   simpa using hnil d (eB)
  obtain ⟨D,hD,_⟩:=S.defers.2.1 d (eB) hm
  subst hD
  obtain ⟨h1,S'⟩:=S.Oa
  exact ⟨hu,.inl ⟨D,_,rfl,run_takeDeferred h1,qq.marks hu hdf ds _ S' h⟩⟩
end sound
def R0 (P:Program) (σ:AState):ResultVar→Option AV
 | .tmp t=>some (σ.slots.getD t .any)
 | .cell d t=>match rX P t,σ.slots.getD d .any with
   |some (g,n),.ptr l off=>match σ.heap[l]? with
    |some (.cells cs)=>qo g n (cs.drop off)
    |_=>none
   |_,_=>none
def zE (P:Program) (σ:AState):List ResultVar→Option (List AV)
 |[]=>some []
 |r::rs=>match R0 P σ r,zE P σ rs with
  |some x,some xs=>some (x::xs)
  |_,_=>none
def Gs (P:Program) (σ:AState) (rs:List ResultVar):Option AV:=
 match zE P σ rs with
 |some [x]=>some x
 |some xs=>some (.tup xs)
 |none=>none
section results
variable {C:Ctx} {φ:Nat→Value} {σ:AState} {a:Act} {w:World}
theorem Wm (S:qq C φ σ a w) {r:ResultVar} {x:AV} (h:R0 C.P σ r=some x):
 ∃v,(match r with| .tmp t=>pure (a.tmps.getD t undef)| .cell d t=>(do loadVar t (←asAddr (a.tmps.getD d undef))):Sem Value).run C.P w= .ok v w∧rB (C.env φ σ.heap w) x v:=by
 cases r with
 |tmp t=>
  simp only[R0,cH] at h
  subst h
  exact ⟨_,rfl,S.ev (.tmp t)⟩
 |cell d t=>
  simp only[R0] at h
  have hd:=S.ev (.tmp d)
  simp only[AState.ev] at hd
  split at h
  ·rename_i g n l off ht hp
   rw[hp] at hd
   split at h
   ·rename_i cs hl
    obtain ⟨u,hu,ru⟩:=XD S ht hl h hd
    obtain ⟨_,b,_,hv⟩:=hd
    refine ⟨u,?_,ru⟩
    have hv':a.tmps.getD d undef= .pointer (some ⟨b,off,none⟩):=hv
    rw[show a.eval (.tmp d)=a.tmps.getD d undef from rfl,hv'] at hu
    simp only[hv',asAddr,Sem.run_bind,Sem.run_pure,Result.andThen_ok]
    simpa [Instr.loadAt,Instr.sureAddr] using hu
   ·cases h
  ·cases h
theorem MS (S:qq C φ σ a w): ∀ {rs:List ResultVar} {xs:List AV},zE C.P σ rs=some xs→
 ∃vs:List Value,(rs.mapM fun| .tmp t=>pure (a.tmps.getD t undef)| .cell d t=>(do loadVar t (←asAddr (a.tmps.getD d undef))):Sem (List Value)).run C.P w= .ok vs w∧m7 (C.env φ σ.heap w) xs vs
 |[],_,h=>by simp only[zE,cH] at h;subst h;exact ⟨[],rfl,rfl⟩
 |r::rs,xs,h=>by
  simp only[zE] at h
  split at h
  ·rename_i x ys h1 h2
   cases h
   obtain ⟨v,hv,rv⟩:=Wm S h1
   obtain ⟨vs,hvs,rvs⟩:=MS S h2
   refine ⟨v::vs,?_,v,vs,rfl,rv,rvs⟩
   rw[List.mapM_cons]
   simp only[Sem.run_bind,hv,hvs,Result.andThen_ok,Sem.run_pure]
  ·cases h
theorem HO (S:qq C φ σ a w) {fn:Func} {x:AV} (h:Gs C.P σ fn.results.toList=some x): ∃v,(results fn a.tmps).run C.P w= .ok v w∧rB (C.env φ σ.heap w) x v:=by
 unfold Gs at h
 have key: ∀xs,zE C.P σ fn.results.toList=some xs→ ∃vs:List Value,(results fn a.tmps).run C.P w= .ok (if hh:vs.toArray.size=1 then vs.toArray[0] else .tuple vs.toArray) w∧m7 (C.env φ σ.heap w) xs vs:=by
  intro xs hx
  obtain ⟨vs,hvs,rvs⟩:=MS S hx
  refine ⟨vs,?_,rvs⟩
  unfold results
  rw[Array.mapM_eq_mapM_toList]
  simp only[Sem.run_bind,Sem.run_map,Sem.run_pure]
  generalize hq:Sem.run C.P (List.mapM _ fn.results.toList) w=q
  have hq':q= .ok vs w:=by rw[←hq];exact hvs
  subst hq'
  simp
 split at h
 ·rename_i y hy
  cases h
  obtain ⟨vs,hv,u,us,rfl,r1,r2⟩:=key _ hy
  simp only[m7] at r2
  subst r2
  exact ⟨_,hv,by simpa using r1⟩
 ·rename_i xs hne hx
  cases h
  obtain ⟨vs,hv,rl⟩:=key _ hx
  refine ⟨_,hv,?_⟩
  have hlen:=rl.length
  have hn1: ¬ vs.toArray.size=1:=by
   intro h1
   have h2:xs.length=1:=by simp at h1;omega
   match xs,h2 with
   |[y],_=>exact hne y rfl
  rw[dif_neg hn1]
  exact ⟨vs.toArray,rfl,rl⟩
 ·cases h
end results
theorem Rk {P:Program} {f:FuncId} {args args':List AV} {V:AV→Prop} (h:xS P f args' V) (hs:tQ args args') (hn:nbL 0 args):xS P f args V:=by
 obtain ⟨he,_,hc⟩:=h
 exact ⟨he,hn,fun C φ w hP h0 hN hM vs hr=>hc C φ w hP h0 hN hM vs (hs _ _ hr)⟩
def endV (V:AV→Prop) (H:List AObj):Option AV→Prop
 |some x=>(O1 0 H x).nb 0∧ ∃r,Sub (O1 0 H x) r∧V r
 |none=>False
def retPost (P:Program) (rs:List ResultVar) (V:AV→Prop):qL→AState→Prop
 | .normal,σ=>σ.df=[]∧endV V σ.heap (Gs P σ rs)
 | .ret,σ=>σ.df=[]∧endV V σ.heap (Gs P σ rs)
 |_,_=>False
theorem XV {P:Program} {f:FuncId} {fn:Func} {c:Code} {args:List AV} {V:AV→Prop} (hf:P.funcs[f]? =some fn) (hb:fn.body=some c) (hne:(fn.name != "runtime.NumGoroutine")=true) (hnb:nbL 0 args)
 (h:Ri P c (retPost P fn.results.toList V) {slots:=args++eR (fn.ntmps-args.length) .any,heap:=[]}):xS P f args V:=by
 refine ⟨?_,hnb,fun C φ w hP h0 hN hM vs hr=> ?_⟩
 ·unfold enters;rw[hf];simp only[hb,Option.isSome_some,Bool.true_and];exact hne
 ·subst hP
  refine (callsIn_wide (n:=0)).1 (callsIn_of_wp_marks hf hb trivial ?_)
  have hsz:vs.size=args.length:=by have:=hr.length;simpa using this
  have S:qq C φ {slots:=args++eR (fn.ntmps-args.length) .any,heap:=[]} {tmps:=vs++dx (fn.ntmps-vs.size) undef,defers:=[]} w:=by
   refine {slots:= ?_,defers:=uG.nil,objs:=by simp,apart:=by simp,vk:=by simp,size:=by rw[h0];exact cZ _,old:=fun b o _ _=>by rw[h0],qQ:=fun b _ _=>by rw[h0],A9:=by simp,wG:=fun x _=>by rw[h0],rest:=by rw[h0];exact ⟨rfl,rfl⟩,low:=⟨hN,cZ _⟩,names:=fun l hl=>by rw[hN] at hl;exact absurd hl (dg _)}
   simp only[eX,Array.toList_replicate]
   refine hr.append ?_
   rw[hsz]
   have:=m7.Cz (E:=C.env φ [] w) (eR (fn.ntmps-args.length) undef)
   simpa using this
  refine wpIn_mono (xT (ro:=none) c _ φ _ _ w (.inl rfl) h S) ?_
  intro e a' w' hq
  have fin: ∀φ' σ',qq C φ' σ' a' w'→σ'.df=[]∧endV V σ'.heap (Gs C.P σ' fn.results.toList)→
   LeavesInM dZ 0 C.P fn a'.tmps (fun e w'=> ∃r v φ',V r∧e= .returned v∧rB (C.env φ' [] w') r v∧w.heap.size≤w'.heap.size∧(∀b,b<w.heap.size→w'.heap[b]? =w.heap[b]?)∧
    (∀x,x.block<w.heap.size→w'.frozen? x=w.frozen? x)∧w'.output=w.output∧w'.os=w.os) a'.defers .returning w':=by
   intro φ' σ' S' ⟨hdf,hend⟩
   refine qq.marks (by simp) hdf _ _ S' (fun w' S'=> ?_)
   cases hx:Gs C.P σ' fn.results.toList with
   |none=>rw[hx] at hend;exact hend.elim
   |some x=>
   rw[hx] at hend
   obtain ⟨hn,r0,hsub,hV⟩:=hend
   obtain ⟨v,hv,rv⟩:=HO S' hx
   refine ⟨v,hv,_,v,φ',hV,rfl,hsub _ _ (by have:=Pb S' (S'.drops (by rw[←S'.low.1];exact hN)) x v;rw[←S'.low.1,hN] at this;exact this hn rv),?_,?_,?_,?_⟩
   ·rw[←h0];exact S'.size
   ·intro b hb;rw[←h0];exact S'.qQ b (by rw[h0];exact hb) (fun o=>hM b o)
   ·intro y hy;rw[←h0];exact S'.wG y (by rw[h0];exact hy)
   ·rw[←h0];exact S'.rest
  cases e with
  |normal=>obtain ⟨φ',σ',S',hq⟩:=hq;exact fin φ' σ' S' hq
  |ret=>obtain ⟨φ',σ',S',hq⟩:=hq;exact fin φ' σ' S' hq
  |exit id=>obtain ⟨_,_,_,hq⟩:=hq;exact hq.elim
  |goto l=>obtain ⟨_,_,_,hq⟩:=hq;exact hq.elim
  |panic chain=>obtain ⟨_,_,_,_,_,hq,_⟩:=hq;exact hq.elim
  |outgrown=>exact hq.elim
end Go.Abs
namespace Go.Abs
section co
variable {H:List AObj} {n:Nat}
theorem Vk.sub {x y:AV} (h:Sub x y) (hn:y.nb n):Vk H n x y:= .inl ⟨h,hn⟩
theorem Co.any {x:AV}:Co H n x .any:= .inl (.inl ⟨Sub.any _,trivial⟩)
theorem Co.same {x:AV} (h:x.nb n):Co H n x x:= .inl (.inl ⟨Sub.refl _,h⟩)
theorem Co.sub {x y:AV} (h:Sub x y) (hn:y.nb n):Co H n x y:= .inl (.inl ⟨h,hn⟩)
theorem zD.nil:zD H n [] []:=rfl
theorem zD.cons {x y:AV} {xs ys:List AV} (h:Co H n x y) (hs:zD H n xs ys):zD H n (x::xs) (y::ys):=⟨y,ys,rfl,h,hs⟩
theorem zD.any {x:AV} {xs ys:List AV} (hs:zD H n xs ys):zD H n (x::xs) (.any::ys):=⟨.any,ys,rfl,Co.any,hs⟩
theorem Ml.nil {xs:List AObj}:Ml H n xs []:=by cases xs<;>trivial
theorem Ml.same {x:AObj} {xs ys:List AObj} (h:objNb n x) (hs:Ml H n xs ys):Ml H n (x::xs) (x::ys):=⟨.inr (.inl ⟨rfl,h⟩),hs⟩
theorem Ml.cells {cs ds:List AV} {xs ys:List AObj} (h:zD H n cs ds) (hs:Ml H n xs ys):Ml H n (.cells cs::xs) (.cells ds::ys):=⟨.inr (.inr (.inl ⟨cs,ds,rfl,rfl,h⟩)),hs⟩
theorem Ml.dead {x:AObj} {xs ys:List AObj} (hs:Ml H n xs ys):Ml H n (x::xs) (.dead::ys):=⟨.inl rfl,hs⟩
theorem zD.same {xs:List AV} (h:nbL n xs):zD H n xs xs:=by
 induction xs with
 |nil=>rfl
 |cons x xs ih=>exact zD.cons (Co.same h.1) (ih h.2)
end co
theorem Lt {P:Program} {σ:AState} {f:FuncId} {args args':List AV} {X:AV} {n:Nat} (h:xS P f args' (fun r=>r=X)) (hs:zD σ.heap n args args'):AU P f args σ (fun o H=>o= .ret X∧H=σ.heap):=by
 obtain ⟨he,hc⟩:=J5 (σ:=σ) (K:=fun o H=>o= .ret X∧H=σ.heap) h (fun r hr=>⟨by rw[hr],rfl⟩)
 exact ⟨he,fun C φ a w hP S vs hr=>hc C φ a w hP S vs (zD.repS S hs hr)⟩
end Go.Abs
namespace Go.Abs
def stP:Option Code→LoopState
 |none=> .ready
 |some _=> .done
theorem Wn (c:Option Code):stP c≠ .busy:=by cases c<;>simp [stP]
section
variable {C:Ctx} {φ:Nat→Value} {σ:AState} {a:Act} {w:World}
theorem qq.nameLoop (S:qq C φ σ a w) (k:xl) (rec:Loop) {slots:List AV} (hs:m7 (C.env φ σ.heap w) slots rec.tmps.toList)
 (Iy:rec.params=k.ps∧rec.assign=k.assign∧rec.body=k.body∧rec.state= .ready∧rec.pending=none∧rec.defers=w.heap.size):
 qq C (fun l=>if l=σ.heap.length then .func (.yield (w.heap.size+1)) #[] #[] else φ l) {σ with heap:=σ.heap++[.loop k slots .ready 0]} a ((w.alloc (.deferred (some []))).alloc (.loop rec)):=by
 let φ':Nat→Value:=fun l=>if l=σ.heap.length then .func (.yield (w.heap.size+1)) #[] #[] else φ l
 let w':=(w.alloc (.deferred (some []))).alloc (.loop rec)
 have hφ: ∀l,l<σ.heap.length→φ' l=φ l:=fun l hl=>by simp only[φ'];rw[if_neg (by omega)]
 have hφn:φ' σ.heap.length= .func (.yield (w.heap.size+1)) #[] #[]:=by simp [φ']
 have hsz:w'.heap.size=w.heap.size+2:=by
  show (World.more (World.more w _) _).heap.size=_
  rw[GK,GK]
 have hold: ∀b,b<w.heap.size→w'.heap[b]? =w.heap[b]? :=by
  intro b hb
  show (World.more (World.more w _) _).heap[b]? =_
  rw[we _ _ (by rw[GK];omega),we _ _ hb]
 have hD:w'.heap[w.heap.size]? =some (.deferred (some [])):=by
  show (World.more (World.more w _) _).heap[_]? =_
  rw[we _ _ (by simp [World.more]),CA]
 have hL:w'.heap[w.heap.size+1]? =some (.loop rec):=by
  have:=CA (World.more w (.deferred (some []))) (.loop rec)
  rw[GK] at this;exact this
 have ql: ∀ (l:Nat) (x:AObj),(σ.heap++[.loop k slots .ready 0])[l]? =some x→(l<σ.heap.length∧σ.heap[l]? =some x)∨(l=σ.heap.length∧x= .loop k slots .ready 0):=by
  intro l x hx
  by_cases hl:l<σ.heap.length
  ·rw[cO hl] at hx;exact .inl ⟨hl,hx⟩
  ·rw[c9 (by omega)] at hx
   have hz:l-σ.heap.length=0:=by
    by_cases e:l-σ.heap.length=0
    ·exact e
    ·rw[List.getElem?_eq_none (by simp;omega)] at hx;cases hx
   rw[hz] at hx;simp at hx
   exact .inr ⟨by omega,hx.symm⟩
 have hcell: ∀b o,b<w.heap.size→w'.cell? ⟨b,o,none⟩=w.cell? ⟨b,o,none⟩:=by
  intro b o hb;simp only[World.cell?,hold b hb]
 have hnb: ∀b,(AObj.loop k slots .ready 0).block (φ' σ.heap.length) b→w.heap.size≤b:=by
  intro b hb
  rw[hφn] at hb
  rcases hb with rfl|hb<;>omega
 have B6: ∀b o,Ck φ' (σ.heap++[.loop k slots .ready 0]) b o→w.heap.size≤b∨Ck φ σ.heap b o:=by
  rintro b o ⟨l,x,hx,hm⟩
  rcases ql l x hx with ⟨hl,hx⟩|⟨rfl,rfl⟩
  ·rw[hφ l hl] at hm;exact .inr ⟨l,x,hx,hm⟩
  ·exact .inl (hnb b (AObj.qX hm))
 have le:(C.env φ σ.heap w).Le σ.heap.length (C.env φ' (σ.heap++[.loop k slots .ready 0]) w'):=by
  refine Ctx.zP (by simp) (fun l hl=>⟨hφ l hl,by rw[cO hl]⟩) (fun b i u hm hc=> ?_)
  have hb:=CT hc
  refine ⟨fun h=> ?_,by rw[hcell b i hb];exact hc⟩
  rcases h with h|h
  ·rcases B6 b i h with e|h
   ·omega
   ·exact hm (.inl h)
  ·exact hm (.inr h)
 have At:uG C φ' (σ.heap++[.loop k slots .ready 0]) w' σ.df a.defers:=by
  refine S.defers.step le (fun b hb _=>hold b hb) (fun l x b hx hb=> ?_)
  rcases ql l x hx with ⟨hl,hx⟩|⟨rfl,rfl⟩
  ·rw[hφ l hl] at hb;exact .inl ⟨l,x,hx,hb⟩
  ·exact .inr (hnb b hb)
 refine {slots:=m7.mono le _ _ (m7.nb _ _ S.slots) S.slots,defers:=At,objs:= ?_,apart:= ?_,vk:= ?_,size:=by show _≤w'.heap.size;have:=S.size;omega,old:= ?_,qQ:= ?_,A9:= ?_,wG:= ?_,rest:=S.rest,low:=⟨S.low.1,by have:=S.low.2;simp;omega⟩,names:= ?_}
 ·intro l x hx
  show qV _ x (φ' l)
  rcases ql l x hx with ⟨hl,hx⟩|⟨rfl,rfl⟩
  ·have r0:=S.objs l x hx
   rw[hφ l hl]
   exact qV.mono r0 le (fun b hb=>hold b (r0.th hb))
  ·rw[hφn]
   exact ⟨w.heap.size,rec,rfl,hL,hD,Iy,m7.mono le _ _ (m7.nb _ _ hs) hs⟩
 ·intro l l' x x' b hx hx' hb hb'
  have hb:x.block (φ' l) b:=hb
  have hb':x'.block (φ' l') b:=hb'
  rcases ql l x hx with ⟨hl,hx⟩|⟨rfl,rfl⟩<;>rcases ql l' x' hx' with ⟨hl',hx'⟩|⟨rfl,rfl⟩
  ·rw[hφ l hl] at hb
   rw[hφ l' hl'] at hb'
   exact S.apart l l' x x' b hx hx' hb hb'
  ·rw[hφ l hl] at hb
   have h1:=(S.objs l x hx).th hb
   have h2:=hnb b hb'
   simp only[Ctx.env] at h1;omega
  ·rw[hφ l' hl'] at hb'
   have h1:=(S.objs l' x' hx').th hb'
   have h2:=hnb b hb
   simp only[Ctx.env] at h1;omega
  ·rfl
 ·intro l x b o hx hb
  have hb:x.block (φ' l) b:=hb
  rcases ql l x hx with ⟨hl,hx⟩|⟨rfl,rfl⟩
  ·rw[hφ l hl] at hb
   exact S.vk l x b o hx hb
  ·intro hA
   have h1:=C.hA _ _ hA
   have h2:=hnb b hb
   have:=S.size;omega
 ·intro b i hb hm;rw[hcell b i (cX hb S.size)];exact S.old b i hb hm
 ·intro b hb hm;rw[hold b (cX hb S.size)];exact S.qQ b hb hm
 ·intro l x b o hx hm hb
  have hm:x.muts (φ' l) b o:=hm
  rcases ql l x hx with ⟨hl,hx⟩|⟨rfl,rfl⟩
  ·rw[hφ l hl] at hm
   exact S.A9 l x b o hx hm hb
  ·have h2:=hnb b (AObj.qX hm)
   have:=S.size;omega
 ·intro x hx
  have h1:=yV (World.more w (.deferred (some []))) (.loop rec) (by intro c t lo hi h;cases h) x
  have h2:=yV w (.deferred (some [])) (by intro c t lo hi h;cases h) x
  exact (h1.trans h2).trans (S.wG x hx)
 ·intro l hl
  have hlt:l<σ.heap.length:=by have:=S.low;omega
  have:=S.names l hl
  rw[cO hlt]
  show (φ' l=_∧_)∨_
  rw[hφ l hlt];exact this
theorem qq.Wo (S:qq C φ σ a w) {l D:Nat} {k:xl} {slots:List AV} {st st':LoopState} {uL FE:Int} {rec:Loop} (hl:σ.heap[l]? =some (.loop k slots st uL)) (hφ:φ l= .func (.yield (D+1)) #[] #[])
 (hw:w.heap[D+1]? =some (.loop rec)):qq C φ {σ with heap:=σ.heap.set l (.loop k slots st' FE)} a (w.putObj (D+1) (.loop {rec with state:=st',pending:=sH k.js FE})):=by
 have hlt:l<σ.heap.length:=(cM.1 hl).1
 have RL:=(cW.1 hw).1
 have ql: ∀ (j:Nat) (x:AObj),(σ.heap.set l (.loop k slots st' FE))[j]? =some x→(j=l∧x= .loop k slots st' FE)∨(j≠l∧σ.heap[j]? =some x):=by
  intro j x hx
  by_cases e:j=l
  ·subst e;rw[dc hlt] at hx;cases hx;exact .inl ⟨rfl,rfl⟩
  ·rw[cY (fun h=>e h.symm)] at hx;exact .inr ⟨e,hx⟩
 have hbb:(AObj.loop k slots st uL).block (φ l) (D+1):=by rw[hφ];exact .inl rfl
 have hmb: ∀o,(AObj.loop k slots st uL).muts (φ l) (D+1) o:=by intro o;rw[hφ];exact .inl rfl
 have xD: ∀b,b≠D+1→(w.putObj (D+1) (.loop {rec with state:=st',pending:=sH k.js FE})).heap[b]? =w.heap[b]? :=fun b hb=>World.putObj_heap_other hb
 have hcell: ∀b o,(w.putObj (D+1) (.loop {rec with state:=st',pending:=sH k.js FE})).cell? ⟨b,o,none⟩=w.cell? ⟨b,o,none⟩:=by
  intro b o
  by_cases e:b=D+1
  ·subst e;simp only[World.cell?,hw,World.putObj_heap_same RL]
  ·simp only[World.cell?,xD b e]
 have By: ∀b,(AObj.loop k slots st' FE).block (φ l) b→(AObj.loop k slots st uL).block (φ l) b:=by intro b hb;rw[hφ] at hb ⊢;exact hb
 have XC: ∀b o,(AObj.loop k slots st' FE).muts (φ l) b o→(AObj.loop k slots st uL).muts (φ l) b o:=by intro b o hb;rw[hφ] at hb ⊢;exact hb
 have B6: ∀b o,Ck φ (σ.heap.set l (.loop k slots st' FE)) b o→Ck φ σ.heap b o:=by
  rintro b o ⟨j,x,hx,hm⟩
  rcases ql j x hx with ⟨rfl,rfl⟩|⟨_,hx⟩
  ·exact ⟨j,_,hl,XC b o hm⟩
  ·exact ⟨j,x,hx,hm⟩
 have hlen: ∀j:Nat,oR (σ.heap.set l (.loop k slots st' FE))[j]? =oR σ.heap[j]? :=by
  intro j
  by_cases e:j=l
  ·subst e;rw[dc hlt,hl];rfl
  ·rw[cY (fun h=>e h.symm)]
 have le:(C.env φ σ.heap w).Le σ.heap.length (C.env φ (σ.heap.set l (.loop k slots st' FE)) (w.putObj (D+1) (.loop {rec with state:=st',pending:=sH k.js FE}))):=
  Ctx.zP (by simp) (fun j _=>⟨rfl,hlen j⟩) (fun b o u hm hc=>⟨fun h=>hm (h.imp (B6 b o) id),by rw[hcell];exact hc⟩)
 have At:uG C φ (σ.heap.set l (.loop k slots st' FE)) (w.putObj (D+1) (.loop {rec with state:=st',pending:=sH k.js FE})) σ.df a.defers:=by
  refine S.defers.step le (fun b _ hno=>xD b (fun e=>by subst e;exact hno l _ hl hbb)) (fun j x b hx hb=> ?_)
  rcases ql j x hx with ⟨rfl,rfl⟩|⟨_,hx⟩
  ·exact .inl ⟨j,_,hl,By b hb⟩
  ·exact .inl ⟨j,x,hx,hb⟩
 refine {slots:=m7.mono le _ _ (m7.nb _ _ S.slots) S.slots,defers:=At,objs:= ?_,apart:= ?_,vk:= ?_,size:=by rw[World.putObj_size];exact S.size,old:=fun b o hb hm=>by rw[hcell];exact S.old b o hb hm,qQ:= ?_,A9:= ?_,wG:= ?_,rest:=S.rest,low:=⟨S.low.1,by simpa using S.low.2⟩,names:= ?_}
 ·intro j x hx
  rcases ql j x hx with ⟨rfl,rfl⟩|⟨hne,hx⟩
  ·obtain ⟨D',Lu,e1,g1,g2,g3,rl⟩:=S.objs j _ hl
   rw[hφ] at e1
   simp only[Value.func.injEq,Fn.yield.injEq,dX,and_true] at e1
   subst e1
   have hwr:Lu=rec:=by
    have g1:w.heap[D+1]? =some (.loop Lu):=g1
    rw[hw] at g1;cases g1;rfl
   subst hwr
   refine ⟨D,_,hφ,World.putObj_heap_same RL,?_,⟨g3.1,g3.2.1,g3.2.2.1,rfl,rfl,g3.2.2.2.2.2⟩,m7.mono le _ _ (m7.nb _ _ rl) rl⟩
   show (w.putObj (D+1) _).heap[D]? =_
   rw[xD D (by omega)];exact g2
  ·exact qV.mono (S.objs j x hx) le (fun b hb=>xD b (fun e=>by subst e;exact hne (S.apart j l x _ (D+1) hx hl hb hbb)))
 ·intro j j' x x' b hx hx' hb hb'
  rcases ql j x hx with ⟨rfl,rfl⟩|⟨hne,hx1⟩<;>rcases ql j' x' hx' with ⟨e2,rfl⟩|⟨Z8,GP⟩
  ·exact e2.symm
  ·exact S.apart j j' _ x' b hl GP (By b hb) hb'
  ·rw[e2] at hb' ⊢;exact S.apart j l x _ b hx1 hl hb (By b hb')
  ·exact S.apart j j' x x' b hx1 GP hb hb'
 ·intro j x b o hx hb
  rcases ql j x hx with ⟨rfl,rfl⟩|⟨_,hx⟩
  ·exact S.vk j _ b o hl (By b hb)
  ·exact S.vk j x b o hx hb
 ·intro b hb hm
  rw[xD b (fun e=>by subst e;exact hm 0 (S.A9 l _ (D+1) 0 hl (hmb 0) hb))]
  exact S.qQ b hb hm
 ·intro j x b o hx hm hb
  rcases ql j x hx with ⟨rfl,rfl⟩|⟨_,hx⟩
  ·exact S.A9 j _ b o hl (XC b o hm) hb
  ·exact S.A9 j x b o hx hm hb
 ·intro x hx
  rw[←S.wG x hx]
  by_cases e:x.block=D+1
  ·simp only[World.frozen?]
   rw[e,hw,World.putObj_heap_same RL]
  ·simp only[World.frozen?]
   rw[xD x.block e]
 ·intro j hj
  have:=S.names j hj
  rw[hlen j];exact this
theorem qq.endLoop (S:qq C φ σ a w) {l D:Nat} {k:xl} {slots:List AV} {st:LoopState} {uL:Int} (hl:σ.heap[l]? =some (.loop k slots st uL)) (hφ:φ l= .func (.yield (D+1)) #[] #[]) (hD:C.w0.heap.size≤D):
 qq C φ {σ with heap:=σ.heap.set l .dead} {a with defers:=⟨.collected D,#[]⟩::a.defers} w:=by
 have hlt:l<σ.heap.length:=(cM.1 hl).1
 have DD:C.N0≤l∨l<C.N0:=by omega
 have hmutw: ∀b o,Ck φ (σ.heap.set l .dead) b o→Ck φ σ.heap b o:=by
  rintro b o ⟨j,x,hx,hm⟩
  by_cases e:j=l
  ·subst e;rw[dc hlt] at hx;cases hx;exact absurd hm (by simp [AObj.muts])
  ·rw[cY (fun h=>e h.symm)] at hx;exact ⟨j,x,hx,hm⟩
 have ql: ∀ (j:Nat) (x:AObj),(σ.heap.set l .dead)[j]? =some x→(j=l∧x= .dead)∨(j≠l∧σ.heap[j]? =some x):=by
  intro j x hx
  by_cases e:j=l
  ·subst e;rw[dc hlt] at hx;cases hx;exact .inl ⟨rfl,rfl⟩
  ·rw[cY (fun h=>e h.symm)] at hx;exact .inr ⟨e,hx⟩
 have hlen: ∀j:Nat,oR (σ.heap.set l .dead)[j]? =oR σ.heap[j]? :=by
  intro j
  by_cases e:j=l
  ·subst e;rw[dc hlt,hl];rfl
  ·rw[cY (fun h=>e h.symm)]
 have le:(C.env φ σ.heap w).Le σ.heap.length (C.env φ (σ.heap.set l .dead) w):=
  Ctx.zP (by simp) (fun j _=>⟨rfl,hlen j⟩) (fun b o u hm hc=>⟨fun h=>hm (h.imp (hmutw b o) id),hc⟩)
 have hbD:(AObj.loop k slots st uL).block (φ l) D:=by rw[hφ];exact .inr rfl
 have At:uG C φ (σ.heap.set l .dead) w σ.df (⟨.collected D,#[]⟩::a.defers):=by
  obtain ⟨hnd,hall,hrd⟩:=S.defers
  have hmk:NR (⟨.collected D,#[]⟩:Deferred)=true:=rfl
  refine ⟨?_,fun d hd hm=> ?_,?_⟩
  ·simp only[eL,hmk,if_true]
   refine List.nodup_cons.2 ⟨fun hm=> ?_,hnd⟩
   obtain ⟨D',e,_,_,h4⟩:=hall _ (dU.1 hm).1 rfl
   simp only[Deferred.mk.injEq,Target.collected.injEq,and_true] at e
   subst e
   exact h4 l _ hl hbD
  ·rcases cU.1 hd with rfl|hd
   ·refine ⟨D,rfl,?_,hD,fun j x hx hb=> ?_⟩
    ·obtain ⟨D',Lu,e1,g1,g2,_⟩:=S.objs l _ hl
     rw[hφ] at e1
     simp only[Value.func.injEq,Fn.yield.injEq,dX,and_true] at e1
     subst e1;exact g2
    ·rcases ql j x hx with ⟨rfl,rfl⟩|⟨hne,hx⟩
     ·simp [AObj.block] at hb
     ·exact hne (S.apart j l x _ D hx hl hb hbD)
   ·obtain ⟨D',e,h2,h3,h4⟩:=hall d hd hm
    refine ⟨D',e,h2,h3,fun j x hx hb=> ?_⟩
    rcases ql j x hx with ⟨rfl,rfl⟩|⟨hne,hx⟩
    ·simp [AObj.block] at hb
    ·exact h4 j x hx hb
  ·simp only[eL,hmk,eD,dG,if_false]
   exact hrd.mono le
 refine {slots:=m7.mono le _ _ (m7.nb _ _ S.slots) S.slots,defers:=At,objs:= ?_,apart:= ?_,vk:= ?_,size:=S.size,old:=S.old,qQ:=S.qQ,A9:= ?_,wG:=S.wG,rest:=S.rest,low:=⟨S.low.1,by simpa using S.low.2⟩,names:= ?_}
 ·intro j x hx
  rcases ql j x hx with ⟨rfl,rfl⟩|⟨_,hx⟩
  ·trivial
  ·exact qV.mono (S.objs j x hx) le (fun _ _=>rfl)
 ·intro j j' x x' b hx hx' hb hb'
  rcases ql j x hx with ⟨rfl,rfl⟩|⟨_,hx⟩
  ·simp [AObj.block] at hb
  ·rcases ql j' x' hx' with ⟨rfl,rfl⟩|⟨_,hx'⟩
   ·simp [AObj.block] at hb'
   ·exact S.apart j j' x x' b hx hx' hb hb'
 ·intro j x b o hx hb
  rcases ql j x hx with ⟨rfl,rfl⟩|⟨_,hx⟩
  ·simp [AObj.block] at hb
  ·exact S.vk j x b o hx hb
 ·intro j x b o hx hm hb
  rcases ql j x hx with ⟨rfl,rfl⟩|⟨_,hx⟩
  ·simp [AObj.muts] at hm
  ·exact S.A9 j x b o hx hm hb
 ·intro j hj
  have:=S.names j hj
  rw[hlen j];exact this
def jumpQ (Q:qL→AState→Prop) (σ:AState):Option Code→Prop
 |none=>Q .normal σ
 |some .ret=>Q .ret σ
 |some (.exit id)=>Q (.exit id) σ
 |_=>False
theorem XW {P:Program} {g:Operand} {ps:Array Tmp} {as body:Code} {js:List (Int×Code)} {Q:qL→AState→Prop} {σ:AState} {f:FuncId} {first cap:List AV} (hg:σ.ev g= .func (.func f) first cap)
 (xX:AU P f (first++[.map σ.heap.length]++cap) {σ with slots:=σ.slots++[.map σ.heap.length],heap:=σ.heap++[.loop ⟨ps,as,body,js⟩ σ.slots .ready 0]}
   (fun o H'=> ∃r k s uL,o= .ret r∧H'[σ.heap.length]? =some (.loop k s (stP (sH k.js uL)) uL)∧jumpQ Q {σ with heap:=H'.set σ.heap.length .dead} (sH k.js uL))):RangeA P g ps as body Q σ:=by
 intro C φ a w hP S
 subst hP
 refine wpIn_rangeFunc ?_
 intro fn _
 have hx:=S.ev g
 rw[hg] at hx
 obtain ⟨f',c',hx,rf,rc⟩:=hx
 let lp:Loop:={state:= .ready,pending:=none,fn,tmps:=a.tmps,params:=ps,assign:=as,body,defers:=w.heap.size}
 let w1:=(w.alloc (.deferred (some []))).alloc (.loop lp)
 let Y:Value:= .func (.yield (w.heap.size+1)) #[] #[]
 have S1:=S.nameLoop ⟨ps,as,body,js⟩ lp S.slots ⟨rfl,rfl,rfl,rfl,rfl,rfl⟩
 have rY:rB (C.env (fun l=>if l=σ.heap.length then Y else φ l) (σ.heap++[.loop ⟨ps,as,body,js⟩ σ.slots .ready 0]) w1) (.map σ.heap.length) Y:=by
  refine ⟨by simp [Ctx.env],by simp [Ctx.env,Y],w.heap.size+1,?_⟩
  simp [Ctx.env,Y,hdl]
 have S2:qq C (fun l=>if l=σ.heap.length then Y else φ l) {σ with slots:=σ.slots++[.map σ.heap.length],heap:=σ.heap++[.loop ⟨ps,as,body,js⟩ σ.slots .ready 0]} {a with tmps:=a.tmps.push Y} w1:=by
  refine {S1 with slots:= ?_,defers:=S1.defers}
  simp only[eH]
  exact S1.slots.append ⟨Y,[],rfl,rY,rfl⟩
 have hle:(C.env φ σ.heap w).Le σ.heap.length (C.env (fun l=>if l=σ.heap.length then Y else φ l) (σ.heap++[.loop ⟨ps,as,body,js⟩ σ.slots .ready 0]) w1):=by
  refine Ctx.zP (by simp) (fun l hl=>⟨by rw[if_neg (by omega)],by rw[cO hl]⟩) (fun b i u hm hc=> ?_)
  have hb:=CT hc
  have hold:w1.heap[b]? =w.heap[b]? :=by
   show (World.more (World.more w _) _).heap[b]? =_
   rw[we _ _ (by simp [World.more];omega),we _ _ hb]
  refine ⟨fun h=> ?_,by simp only[World.cell?,hold];exact hc⟩
  rcases h with ⟨l,x,hx,hm'⟩|h
  ·by_cases hl:l<σ.heap.length
   ·rw[cO hl] at hx
    have hm':x.muts (if l=σ.heap.length then Y else φ l) b i:=hm'
    rw[if_neg (by omega)] at hm'
    exact hm (.inl ⟨l,x,hx,hm'⟩)
   ·have hl':l=σ.heap.length:=by
     have:=(cM.1 hx).1
     simp at this;omega
    subst hl'
    simp at hx;subst hx
    have hm':(AObj.loop ⟨ps,as,body,js⟩ σ.slots .ready 0).muts (if σ.heap.length=σ.heap.length then Y else φ σ.heap.length) b i:=hm'
    rw[if_pos rfl] at hm'
    rcases hm' with rfl|h<;>omega
  ·exact hm (.inr h)
 have hargs:m7 (C.env (fun l=>if l=σ.heap.length then Y else φ l) (σ.heap++[.loop ⟨ps,as,body,js⟩ σ.slots .ready 0]) w1) (first++[.map σ.heap.length]++cap) (f'++ #[Y]++c').toList:=by
  have hY:m7 (C.env (fun l=>if l=σ.heap.length then Y else φ l) (σ.heap++[.loop ⟨ps,as,body,js⟩ σ.slots .ready 0]) w1) [.map σ.heap.length] [Y]:=⟨Y,[],rfl,rY,rfl⟩
  simp only[eX]
  exact ((m7.mono hle _ _ (m7.nb _ _ rf) rf).append hY).append (m7.mono hle _ _ (m7.nb _ _ rc) rc)
 obtain ⟨he,hc⟩:=xX
 have hbody: ∃fnc,C.P.funcs[f]? =some fnc∧fnc.name≠ "runtime.NumGoroutine" ∧fnc.body≠none:=by
  unfold enters at he
  split at he
  ·rename_i fnc hf
   simp only[cJ,bne_iff_ne,ne_eq] at he
   exact ⟨fnc,hf,he.2,fun hb=>by simp [hb] at he⟩
  ·cases he
 obtain ⟨fnc,hf,hname,hnone⟩:=hbody
 refine ⟨w.heap.size+1,[⟨.collected w.heap.size,#[]⟩],w1,{target:= .fn (.func f) c',args:=f'++ #[Y]},w1,f,f'++ #[Y]++c',w1,?_,?_,fun _ _=>trivial,?_,fun h=>by simp [DG,dZ] at h,?_⟩
 ·exact run_enterLoop_outer _ _ _ _ _
 ·have Cl:a.eval g= .func (.func f) f' c':=hx
  have hY2:a.eval (.const Y)=Y:=rfl
  simp [resolve,Cl,Deferred.ofValue]
  rfl
 ·simp [invoke,callFunc,hf,hname,hnone]
 ·refine FD.2 ((hc C _ _ w1 rfl S2 _ hargs).mono ?_)
  rintro e w' ⟨o,φ2,H',⟨r,k,s,uL,rfl,hH,hj⟩,S3,uM⟩
  cases e with
  |panicked chain=>exact uM.elim
  |outgrown=>exact uM.elim
  |returned v=>
   have hlast:φ2 σ.heap.length=Y:=by
    have MA:=S3.slots
    have hlen:a.tmps.toList.length=σ.slots.length:=S.slots.length
    have:=MA.drop σ.slots.length
    simp only[eH] at this
    rw[eu rfl,eu hlen] at this
    obtain ⟨u,us,he2,r1,_⟩:=this
    simp only[dO] at he2
    obtain ⟨rfl,_⟩:=he2
    exact r1.2.1.symm
   have S4:qq C φ2 {σ with heap:=H'} a w':=by
    have MA:=S3.slots
    have hlen:a.tmps.toList.length=σ.slots.length:=S.slots.length
    have:=MA.take σ.slots.length
    simp only[eH] at this
    rw[ep rfl,ep hlen] at this
    exact {S3 with slots:=this,defers:=S3.defers}
   obtain ⟨D,Lu,e1,g1,g2,g3,_⟩:=S4.objs _ _ hH
   rw[hlast] at e1
   simp only[Y,Value.func.injEq,Fn.yield.injEq,dX,and_true] at e1
   subst e1
   have g1:w'.heap[w.heap.size+1]? =some (.loop Lu):=g1
   have hend:=run_endLoop (P:=C.P) g1 (by rw[g3.2.2.2.1];exact Wn _)
   rw[g3.2.2.2.2.1] at hend
   refine ⟨sH k.js uL,_,hend,?_⟩
   have S5:qq C φ2 {σ with heap:=H'.set σ.heap.length .dead} {a with defers:=⟨.collected w.heap.size,#[]⟩::a.defers} (w'.putObj (w.heap.size+1) (.loop {Lu with state:= .exhausted,pending:=sH k.js uL})):=by
    have h5:=S4.Wo (st':= .exhausted) (FE:=uL) hH hlast g1
    have h6:=h5.endLoop (l:=σ.heap.length) (D:=w.heap.size) (k:=k) (slots:=s) (st:= .exhausted) (uL:=uL) (by
     show (H'.set σ.heap.length _)[σ.heap.length]? =_
     rw[dc (cM.1 hH).1]) hlast S.size
    have e1:({σ with heap:=(H'.set σ.heap.length (.loop k s .exhausted uL)).set σ.heap.length .dead}:AState)={σ with heap:=H'.set σ.heap.length .dead}:=by
     rw[List.set_set]
    exact e1 ▸ h6
   generalize sH k.js uL=pc at*
   cases pc with
   |none=>exact ⟨φ2,_,S5,hj⟩
   |some c=>
    cases c with
    |ret=>exact wpIn_ret ⟨φ2,_,S5,hj⟩
    |exit id=>exact wpIn_exit ⟨φ2,_,S5,hj⟩
    |_=>exact hj.elim
end
end Go.Abs
namespace Go.Abs
inductive CO where
 |ret (e:wg)
 |pan (x:AV) (H:List AObj)
structure pO (R:Type) where
 P:Program
 body:Code
 cl:FuncId→List AV→List AObj→Option (AV×List AObj)
 cd:FuncId→List AV→Option AV
 qT:List Nat→AState→Option AState
 cut:List Nat→AState→Option AState
 n:Nat
 out:AState→Option R
 cy:Nat→List AV→List AObj→Option (AV×List AObj):=fun _ _ _=>none
 pW:qL→AState→Option R:=fun _ _=>none
 js:List Nat→List (Int×Code):=fun _=>[]
 Ax:FuncId→Bool:=fun _=>false
 ce:FuncId→List AV→List AObj→Option wg:=fun _ _ _=>none
 qZ:FuncId→Bool:=fun _=>false
 cp:FuncId→List AV→List AObj→Option (wo×List AObj):=fun _ _ _=>none
 Ay:FuncId→Bool:=fun _=>false
 co:FuncId→List AV→List AObj→Option CO:=fun _ _ _=>none
 wU:AV→AState→Option R:=fun _ _=>none
noncomputable def pcond {R:Type} (p:Prop) (x:Option R):Option R:= @ite _ p (Classical.propDecidable p) x none
theorem pZ {R:Type} {p:Prop} {x:Option R} {r:R}:pcond p x=some r↔p∧x=some r:=by
 unfold pcond
 split
 ·rename_i h;simp [h]
 ·rename_i h;simp [h]
theorem pcond_true {R:Type} {x:Option R}:pcond True x=x:=by simp [pcond]
theorem Jq {R:Type} {p q:Prop} {x:Option R}:pcond (p∧q) x=pcond p (pcond q x):=by
 unfold pcond
 by_cases hp:p<;>by_cases hq:q<;>simp [hp,hq]
theorem Pg {R:Type} {p:Prop} [Decidable p] {x:Option R}:pcond p x=bif decide p then x else none:=by
 unfold pcond
 by_cases hp:p<;>simp [hp]
def R1 (x:Operand) (b:Bool) (σ:AState):AState:=
 match x with
 | .tmp t=>{σ with slots:=σ.slots.set t (.bool b)}
 |_=>σ
theorem setB_eq {x:Operand} {b:Bool} {σ:AState} (h:σ.ev x= .bool b):R1 x b σ=σ:=by
 cases x with
 |tmp t=>
  simp only[AState.ev,List.getD] at h
  cases hg:σ.slots[t]? with
  |none=>rw[hg] at h;simp at h
  |some v=>
   rw[hg] at h
   simp only[eg] at h
   subst h
   obtain ⟨hlt,he⟩:=cM.1 hg
   simp only[R1]
   rw[←he,eS]
 |_=>rfl
def uy (ops:Array Oper) (o:Oper) (b:Bool) (σ:AState):AState:=
 match o.guard with
 |none=>σ
 |some (j,want)=>match (ops[j]?).bind (·.dst) with
  |some d=>match σ.slots[d]? with
   |some (.bool _)=>{σ with slots:=σ.slots.set d (.bool (b==want))}
   |_=>σ
  |none=>σ
theorem Wp {ops:Array Oper} {o:Oper} {b:Bool} {σ:AState} (h:sr ops o σ=some b):uy ops o b σ=σ:=by
 unfold sr at h
 unfold uy
 split
 ·rfl
 ·rename_i j want hg
  simp only[hg] at h
  split
  ·rename_i d hd
   simp only[hd] at h
   split
   ·rename_i c hc
    simp only[hc,cH] at h
    have:(b==want)=c:=by subst h;cases c<;>cases want<;>rfl
    rw[this]
    obtain ⟨hlt,he⟩:=cM.1 hc
    rw[←he,eS]
   ·rfl
  ·rfl
section
variable {R:Type}
noncomputable def vu (M:pO R) (ops:Array Oper):List Oper→AState→Option (qL×AState)
 |[],σ=>some (.normal,σ)
 |o::rest,σ=>match sr ops o σ with
  |none=>none
  |some b=>bif b then (match qu (uy ops o true σ) o.op with
    |some (f,args)=>bif M.qZ f then (match M.cp f args (uy ops o true σ).heap with
      |some (.ret r,H')=>vu M ops rest (AState.put {uy ops o true σ with heap:=H'} o.dst r)
      |some (.panic x,H')=>some (.panic x,{uy ops o true σ with heap:=H'})
      |none=>none)
     else match M.cl f args (uy ops o true σ).heap with
     |some (r,H')=>vu M ops rest (AState.put {uy ops o true σ with heap:=H'} o.dst r)
     |none=>none
    |none=>match yieldOf (uy ops o true σ) o.op with
     |some (l,args)=>match M.cy l args (uy ops o true σ).heap with
      |some (r,H')=>vu M ops rest (AState.put {uy ops o true σ with heap:=H'} o.dst r)
      |none=>none
     |none=>match nW M.P (uy ops o true σ) o.op with
      |some e=>pcond e.pre (vu M ops rest ((uy ops o true σ).app o.dst e))
      |none=>match Av (uy ops o true σ) o.op with
       |some p=>vu M ops rest ((uy ops o true σ).dfr p o.dst)
       |none=>match Gr (uy ops o true σ) o.op with
        |some x=>some (.panic x,uy ops o true σ)
        |none=>none)
   else vu M ops rest ((uy ops o false σ).put o.dst (.raw undef))
noncomputable def DJ (M:pO R) (ops:Array Oper):List Oper→Nat→List Tr→AState→Option (qL×AState)
 |[],_,_,σ=>some (.normal,σ)
 |o::rest,j,tr,σ=>match sr ops o σ with
  |none=>none
  |some b=>bif b then (match qu (uy ops o true σ) o.op with
    |some (f,args)=>bif M.Ay f then (match M.co f args (uy ops o true σ).heap with
      |some (.ret e)=>pcond (e.pre∧Bo ops tr j e) (DJ M ops rest (j+1) (C5 tr j (uy ops o true σ).heap.length e) ((uy ops o true σ).app o.dst e))
      |some (.pan x H')=>pcond (Gc tr=true∧HN M.P ops j rest (j+1) ((uy ops o true σ).put o.dst (.raw undef))) (some (.panic x,{uy ops o true σ with slots:=NA ops (uy ops o true σ).slots,heap:=H'}))
      |none=>none)
     else bif M.Ax f then (match M.ce f args (uy ops o true σ).heap with
      |some e=>pcond (e.pre∧Bo ops tr j e) (DJ M ops rest (j+1) (C5 tr j (uy ops o true σ).heap.length e) ((uy ops o true σ).app o.dst e))
      |none=>none)
     else match M.cd f args with
     |some r=>DJ M ops rest (j+1) tr ((uy ops o true σ).put o.dst r)
     |none=>none
    |none=>match nW M.P (uy ops o true σ) o.op with
     |some e=>pcond (e.pre∧Bo ops tr j e) (DJ M ops rest (j+1) (C5 tr j (uy ops o true σ).heap.length e) ((uy ops o true σ).app o.dst e))
     |none=>none)
   else DJ M ops rest (j+1) tr ((uy ops o false σ).put o.dst (.raw undef))
def lqN (qT:AState→Option AState) (body:AState→Option (qL×AState)):Nat→AState→Option (qL×AState)
 |0,_=>none
 |m+1,σ=>match body σ with
  |some (.normal,σ')=>(qT σ').bind (lqN qT body m)
  |r=>r
def XX (σ:AState):Option Code→Option (qL×AState)
 |none=>some (.normal,σ)
 |some .ret=>some (.ret,σ)
 |some (.exit id)=>some (.exit id,σ)
 |_=>none
noncomputable def endX (σ:AState) (H':List AObj):Option AObj→Option (qL×AState)
 |some (.loop lk _ st uL)=>pcond (st=stP (sH lk.js uL)) (XX {σ with heap:=H'.set σ.heap.length .dead} (sH lk.js uL))
 |_=>none
noncomputable def rngX (M:pO R) (lk:xl) (σ:AState):AV→Option (qL×AState)
 | .func (.func f) first cap=>match M.cl f (first++[.map σ.heap.length]++cap) (σ.heap++[.loop lk σ.slots .ready 0]) with
   |some (_,H')=>endX σ H' H'[σ.heap.length]?
   |none=>none
 |_=>none
noncomputable def exec (M:pO R):Code→List Nat→AState→Option (qL×AState)
 | .skip,_,σ=>some (.normal,σ)
 | .region _ ops false,_,σ=>vu M ops ops.toList σ
 | .region _ ops true,_,σ=>pcond (M.P.follows .mixedOrders=true∧C3 ops=true) (DJ M ops ops.toList 0 [] σ)
 | .seq x y,p,σ=>match exec M x (0::p) σ with
   |some (.normal,σ')=>(M.cut (1::p) σ').bind (exec M y (1::p))
   |r=>r
 | .cond c x y,p,σ=>match σ.ev c with
   | .bool b=>bif b then exec M x (0::p) (R1 c true σ) else exec M y (1::p) (R1 c false σ)
   |_=>none
 | .block id x,p,σ=>match exec M x (0::p) σ with
   |some (.exit id',σ')=>if id'=id then some (.normal,σ') else some (.exit id',σ')
   |r=>r
 | .loop x,p,σ=>(M.qT p σ).bind (lqN (M.qT p) (exec M x (0::p)) M.n)
 | .exit id,_,σ=>some (.exit id,σ)
 | .scope x,p,σ=>exec M x (0::p) σ
 | .label _,_,σ=>some (.normal,σ)
 | .ret,_,σ=>some (.ret,σ)
 | .goto _,_,_=>none
 | .rangeFunc g ps as body,p,σ=>rngX M ⟨ps,as,body,M.js p⟩ σ (σ.ev g)
 | .refuse _,_,_=>none
structure Good (M:pO R):Prop where
 cl: ∀f args σ r H',M.cl f args σ.heap=some (r,H')→AU M.P f args σ (fun o DE=>o= .ret r∧DE=H')
 cd: ∀f args r,M.cd f args=some r→xS M.P f args (fun v=>v=r)
 qT: ∀p σ σ',M.qT p σ=some σ'→Fi σ σ'
 cut: ∀p σ σ',M.cut p σ=some σ'→Fi σ σ'
 cy: ∀l args σ r H',M.cy l args σ.heap=some (r,H')→GR M.P l args σ (fun o DE=>o= .ret r∧DE=H')
 ce: ∀f args σ e,M.ce f args σ.heap=some e→DH M.P f args σ e
 cp: ∀f args σ o H',M.cp f args σ.heap=some (o,H')→AU M.P f args σ (fun o' DE=>o'=o∧DE=H')
 co: ∀f args σ,(∀e,M.co f args σ.heap=some (.ret e)→DH M.P f args σ e)∧ ∀x H',M.co f args σ.heap=some (.pan x H')→XR M.P f args σ.heap x H'
theorem oV {P:Program}: ∀ (f:FuncId) (args:List AV) (σ:AState) (o:wo) (H':List AObj),(fun _ _ _=>none:FuncId→List AV→List AObj→Option (wo×List AObj)) f args σ.heap=some (o,H')→AU P f args σ (fun o' DE=>o'=o∧DE=H'):=by
 intro f args σ o H' h;cases h
theorem oG {P:Program}: ∀ (f:FuncId) (args:List AV) (σ:AState),(∀e,(fun _ _ _=>none:FuncId→List AV→List AObj→Option CO) f args σ.heap=some (.ret e)→DH P f args σ e)∧ ∀x H',(fun _ _ _=>none:FuncId→List AV→List AObj→Option CO) f args σ.heap=some (.pan x H')→XR P f args σ.heap x H':=by
 intro f args σ
 exact ⟨fun e h=>(by cases h),fun x H' h=>(by cases h)⟩
theorem AU.mono {P:Program} {f:FuncId} {args:List AV} {σ:AState} {K K':wo→List AObj→Prop} (h:AU P f args σ K) (hk: ∀o H,K o H→K' o H):AU P f args σ K':=by
 obtain ⟨he,hc⟩:=h
 refine ⟨he,fun C φ a w hP S vs hr=>(hc C φ a w hP S vs hr).mono ?_⟩
 rintro e w' ⟨o,φ',H',h1,h2⟩
 exact ⟨o,φ',H',hk _ _ h1,h2⟩
theorem GR.mono {P:Program} {l:Nat} {args:List AV} {σ:AState} {K K':wo→List AObj→Prop} (h:GR P l args σ K) (hk: ∀o H,K o H→K' o H):GR P l args σ K':=by
 obtain ⟨he,hc⟩:=h
 refine ⟨he,fun C φ a w hP S vs hr D rec h1 h2=>(hc C φ a w hP S vs hr D rec h1 h2).mono ?_⟩
 rintro e w' ⟨o,φ',H',h1,h2⟩
 exact ⟨o,φ',H',hk _ _ h1,h2⟩
theorem oh {P:Program}: ∀ (l:Nat) (args:List AV) (σ:AState) (r:AV) (H':List AObj),(fun _ _ _=>none:Nat→List AV→List AObj→Option (AV×List AObj)) l args σ.heap=some (r,H')→GR P l args σ (fun o DE=>o= .ret r∧DE=H'):=by
 intro l args σ r H' h;cases h
theorem zh {M:pO R} (G:Good M) {ops:Array Oper} {Q:qL→AState→Prop}: ∀ (rest:List Oper) (σ σ':AState) (e:qL),vu M ops rest σ=some (e,σ')→Q e σ'→Ix M.P ops rest Q σ
 |[],σ,σ',e,h,hq=>by simp only[vu,cH,cK] at h;obtain ⟨rfl,rfl⟩:=h;exact hq
 |o::rest,σ,σ',en,h,hq=>by
  simp only[vu] at h
  simp only[Ix]
  cases hw:sr ops o σ with
  |none=>simp only[hw] at h;cases h
  |some b=>
   simp only[hw] at h
   have hg:=Wp hw
   cases b with
   |false=>
    refine ⟨fun h=>(by cases h),fun _=> ?_⟩
    simp only[cond_false,hg] at h
    exact zh G rest _ σ' _ h hq
   |true=>
    refine ⟨fun _=> ?_,fun h=>by cases h⟩
    simp only[cond_true,hg] at h
    cases hc:qu σ o.op with
    |some p=>
     obtain ⟨f,args⟩:=p
     simp only[hc] at h ⊢
     cases hi:M.qZ f with
     |true=>
      simp only[hi,cond_true] at h
      cases ha:M.cp f args σ.heap with
      |none=>simp only[ha] at h;cases h
      |some q=>
       obtain ⟨r,H'⟩:=q
       refine (G.cp f args σ r H' ha).mono ?_
       cases r with
       |ret r=>
        simp only[ha] at h
        rintro o' DE ⟨rfl,rfl⟩
        exact zh G rest _ σ' _ h hq
       |panic x=>
        simp only[ha,cH,cK] at h
        obtain ⟨rfl,rfl⟩:=h
        rintro o' DE ⟨rfl,rfl⟩
        exact hq
     |false=>
      simp only[hi,cond_false] at h
      cases ha:M.cl f args σ.heap with
      |none=>simp only[ha] at h;cases h
      |some q=>
       obtain ⟨r,H'⟩:=q
       simp only[ha] at h
       refine (G.cl f args σ r H' ha).mono ?_
       rintro o' DE ⟨rfl,rfl⟩
       exact zh G rest _ σ' _ h hq
    |none=>
     simp only[hc] at h ⊢
     cases hy:yieldOf σ o.op with
     |some p=>
      obtain ⟨l,args⟩:=p
      simp only[hy] at h ⊢
      cases ha:M.cy l args σ.heap with
      |none=>simp only[ha] at h;cases h
      |some q=>
       obtain ⟨r,H'⟩:=q
       simp only[ha] at h
       refine (G.cy l args σ r H' ha).mono ?_
       rintro o' DE ⟨rfl,rfl⟩
       exact zh G rest _ σ' _ h hq
     |none=>
      simp only[hy] at h ⊢
      cases he:nW M.P σ o.op with
      |none=>
       simp only[he] at h ⊢
       cases hd:Av σ o.op with
       |some p=>
        simp only[hd] at h ⊢
        exact zh G rest _ σ' _ h hq
       |none=>
        simp only[hd] at h ⊢
        cases hp:Gr σ o.op with
        |some x=>
         simp only[hp,cH,cK] at h ⊢
         obtain ⟨rfl,rfl⟩:=h
         exact hq
        |none=>simp only[hp] at h;cases h
      |some e=>
       simp only[he] at h
       rw[pZ] at h
       exact ⟨h.1,zh G rest _ σ' _ h.2 hq⟩
theorem Dr {M:pO R} (G:Good M) {ops:Array Oper} {Q:qL→AState→Prop}: ∀ (rest:List Oper) (j:Nat) (tr:List Tr) (σ σ':AState) (e:qL),DJ M ops rest j tr σ=some (e,σ')→Q e σ'→N8 M.P ops Q rest j tr σ
 |[],_,_,σ,σ',e,h,hq=>by simp only[DJ,cH,cK] at h;obtain ⟨rfl,rfl⟩:=h;exact hq
 |o::rest,j,tr,σ,σ',en,h,hq=>by
  simp only[DJ] at h
  simp only[N8]
  cases hw:sr ops o σ with
  |none=>simp only[hw] at h;cases h
  |some b=>
   simp only[hw] at h
   have hg:=Wp hw
   cases b with
   |false=>
    refine ⟨fun h=>(by cases h),fun _=> ?_⟩
    simp only[cond_false,hg] at h
    exact Dr G rest _ _ _ σ' _ h hq
   |true=>
    refine ⟨fun _=> ?_,fun h=>(by cases h)⟩
    simp only[cond_true,hg] at h
    cases hc:qu σ o.op with
    |some p=>
     obtain ⟨f,args⟩:=p
     simp only[hc] at h ⊢
     cases hic:M.Ay f with
     |true=>
      simp only[hic,cond_true] at h
      cases ha:M.co f args σ.heap with
      |none=>simp only[ha] at h;cases h
      |some q=>
       cases q with
       |ret e=>
        simp only[ha] at h
        rw[pZ] at h
        exact .inr (.inl ⟨e,(G.co f args σ).1 e ha,h.1.2,Dr G rest _ _ _ σ' _ h.2 hq⟩)
       |pan x H'=>
        simp only[ha] at h
        rw[pZ] at h
        obtain ⟨⟨h1,h2⟩,h⟩:=h
        simp only[cH,cK] at h
        obtain ⟨rfl,rfl⟩:=h
        exact .inr (.inr ⟨x,H',(G.co f args σ).2 x H' ha,h1,h2,hq⟩)
     |false=>
     simp only[hic,cond_false] at h
     cases hi:M.Ax f with
     |true=>
      simp only[hi,cond_true] at h
      cases ha:M.ce f args σ.heap with
      |none=>simp only[ha] at h;cases h
      |some e=>
       simp only[ha] at h
       rw[pZ] at h
       exact .inr (.inl ⟨e,G.ce f args σ e ha,h.1.2,Dr G rest _ _ _ σ' _ h.2 hq⟩)
     |false=>
     simp only[hi,cond_false] at h
     cases ha:M.cd f args with
     |none=>simp only[ha] at h;cases h
     |some r=>
      simp only[ha] at h
      exact .inl ⟨r,G.cd f args r ha,Dr G rest _ _ _ σ' _ h hq⟩
    |none=>
     simp only[hc] at h ⊢
     cases he:nW M.P σ o.op with
     |none=>simp only[he] at h;cases h
     |some e=>
      simp only[he] at h
      rw[pZ] at h
      exact ⟨h.1.1,h.1.2,Dr G rest _ _ _ σ' _ h.2 hq⟩
theorem R2 {qT:AState→Option AState} {body:AState→Option (qL×AState)} (hb: ∀σ l σ',body σ≠some (.goto l,σ')): ∀ (m:Nat) (σ:AState) (l:Nat) (σ':AState),lqN qT body m σ≠some (.goto l,σ')
 |0,_,_,_=>by simp [lqN]
 |m+1,σ,l,σ'=>by
  intro h
  simp only[lqN] at h
  cases hx:body σ with
  |none=>simp only[hx] at h;cases h
  |some r=>
   obtain ⟨e1,σ1⟩:=r
   cases e1 with
   |normal=>
    simp only[hx] at h
    cases hn:qT σ1 with
    |none=>simp only[hn,dz] at h;cases h
    |some σ2=>simp only[hn,dA] at h;exact R2 hb m σ2 l σ' h
   |goto l'=>exact hb _ _ _ hx
   |_=>simp only[hx,cH,cK,reduceCtorEq,false_and] at h
theorem execOps_no {M:pO R} {ops:Array Oper}: ∀ (rest:List Oper) (σ:AState) (l:Nat) (σ':AState),vu M ops rest σ≠some (.goto l,σ'):=by
 intro rest
 induction rest with
 |nil=>intro σ l σ' h;simp [vu] at h
 |cons o rest ih=>
  intro σ l σ' h
  simp only[vu] at h
  split at h
  ·cases h
  ·rename_i b _
   cases b with
   |false=>simp only[cond_false] at h;exact ih _ _ _ h
   |true=>
    simp only[cond_true] at h
    split at h
    ·rename_i f args _
     cases hi:M.qZ f with
     |true=>
      simp only[hi,cond_true] at h
      split at h
      ·exact ih _ _ _ h
      ·simp at h
      ·cases h
     |false=>
      simp only[hi,cond_false] at h
      split at h
      ·exact ih _ _ _ h
      ·cases h
    ·split at h
     ·split at h
      ·exact ih _ _ _ h
      ·cases h
     ·split at h
      ·rw[pZ] at h;exact ih _ _ _ h.2
      ·split at h
       ·exact ih _ _ _ h
       ·split at h
        ·simp at h
        ·cases h
theorem execD_no {M:pO R} {ops:Array Oper}: ∀ (rest:List Oper) (j:Nat) (tr:List Tr) (σ:AState) (l:Nat) (σ':AState),DJ M ops rest j tr σ≠some (.goto l,σ'):=by
 intro rest
 induction rest with
 |nil=>intro j tr σ l σ' h;simp [DJ] at h
 |cons o rest ih=>
  intro j tr σ l σ' h
  simp only[DJ] at h
  split at h
  ·cases h
  ·rename_i b _
   cases b with
   |false=>simp only[cond_false] at h;exact ih _ _ _ _ _ h
   |true=>
    simp only[cond_true] at h
    split at h
    ·rename_i f args _
     cases hi:M.Ay f with
     |true=>
      simp only[hi,cond_true] at h
      split at h
      ·rw[pZ] at h;exact ih _ _ _ _ _ h.2
      ·rw[pZ] at h;simp at h
      ·cases h
     |false=>
      simp only[hi,cond_false] at h
      cases hi2:M.Ax f with
      |true=>
       simp only[hi2,cond_true] at h
       split at h
       ·rw[pZ] at h;exact ih _ _ _ _ _ h.2
       ·cases h
      |false=>
       simp only[hi2,cond_false] at h
       split at h
       ·exact ih _ _ _ _ _ h
       ·cases h
    ·split at h
     ·rw[pZ] at h;exact ih _ _ _ _ _ h.2
     ·cases h
theorem jumpX_no {σ:AState} {c:Option Code} {l:Nat} {σ':AState}:XX σ c≠some (.goto l,σ'):=by
 intro h
 unfold XX at h
 split at h<;>simp at h
theorem rngX_no {M:pO R} {lk:xl} {σ:AState} {v:AV} {l:Nat} {σ':AState}:rngX M lk σ v≠some (.goto l,σ'):=by
 intro h
 unfold rngX at h
 split at h
 ·split at h
  ·unfold endX at h
   split at h
   ·rw[pZ] at h;exact jumpX_no h.2
   ·cases h
  ·cases h
 ·cases h
theorem HP (M:pO R): ∀ (c:Code) (p:List Nat) (σ:AState) (l:Nat) (σ':AState),exec M c p σ≠some (.goto l,σ')
 | .skip,_,_,_,_=>by simp [exec]
 | .label _,_,_,_,_=>by simp [exec]
 | .ret,_,_,_,_=>by simp [exec]
 | .exit id,_,_,_,_=>by simp [exec]
 | .region _ ops false,_,_,_,_=>by simp only[exec];exact execOps_no _ _ _ _
 | .region _ ops true,_,_,_,_=>by
   intro h
   simp only[exec] at h
   rw[pZ] at h
   exact execD_no _ _ _ _ _ _ h.2
 | .seq x y,p,σ,l,σ'=>by
   intro h
   simp only[exec] at h
   cases hx:exec M x (0::p) σ with
   |none=>simp only[hx] at h;cases h
   |some r=>
    obtain ⟨e1,σ1⟩:=r
    cases e1 with
    |normal=>
     simp only[hx] at h
     cases hc:M.cut (1::p) σ1 with
     |none=>simp only[hc,dz] at h;cases h
     |some σ2=>simp only[hc,dA] at h;exact HP M y _ _ _ _ h
    |goto l'=>exact HP M x _ _ _ _ hx
    |_=>simp only[hx,cH,cK,reduceCtorEq,false_and] at h
 | .cond c x y,p,σ,l,σ'=>by
   intro h
   simp only[exec] at h
   cases hv:σ.ev c with
   |bool b=>
    simp only[hv] at h
    cases b with
    |true=>exact HP M x _ _ _ _ h
    |false=>exact HP M y _ _ _ _ h
   |_=>simp only[hv] at h;cases h
 | .block id x,p,σ,l,σ'=>by
   intro h
   simp only[exec] at h
   cases hx:exec M x (0::p) σ with
   |none=>simp only[hx] at h;cases h
   |some r=>
    obtain ⟨e1,σ1⟩:=r
    cases e1 with
    |exit id'=>
     simp only[hx] at h
     split at h<;>simp at h
    |goto l'=>exact HP M x _ _ _ _ hx
    |_=>simp only[hx,cH,cK,reduceCtorEq,false_and] at h
 | .loop x,p,σ,l,σ'=>by
   intro h
   simp only[exec] at h
   cases hn:M.qT p σ with
   |none=>simp only[hn,dz] at h;cases h
   |some σ1=>
    simp only[hn,dA] at h
    exact R2 (fun _ _ _=>HP M x _ _ _ _) _ _ _ _ h
 | .scope x,p,σ,l,σ'=>by
   intro h
   simp only[exec] at h
   exact HP M x _ _ _ _ h
 | .goto _,_,_,_,_=>by simp [exec]
 | .rangeFunc g ps as body,_,_,_,_=>by simp only[exec];exact rngX_no
 | .refuse _,_,_,_,_=>by simp [exec]
theorem xZ {M:pO R} (G:Good M): ∀ (c:Code) (p:List Nat) (Q:qL→AState→Prop) (σ:AState) (e:qL) (σ':AState),exec M c p σ=some (e,σ')→Q e σ'→Ri M.P c Q σ
 | .skip,_,Q,σ,e,σ',h,hq=>by simp only[exec,cH,cK] at h;obtain ⟨rfl,rfl⟩:=h;exact hq
 | .label _,_,Q,σ,e,σ',h,hq=>by simp only[exec,cH,cK] at h;obtain ⟨rfl,rfl⟩:=h;exact hq
 | .ret,_,Q,σ,e,σ',h,hq=>by simp only[exec,cH,cK] at h;obtain ⟨rfl,rfl⟩:=h;exact hq
 | .exit id,_,Q,σ,e,σ',h,hq=>by simp only[exec,cH,cK] at h;obtain ⟨rfl,rfl⟩:=h;exact hq
 | .region _ ops false,_,Q,σ,e,σ',h,hq=>by
   simp only[exec] at h
   exact zh G _ _ _ _ h hq
 | .region _ ops true,_,Q,σ,e,σ',h,hq=>by
   simp only[exec] at h
   rw[pZ] at h
   obtain ⟨hp,h⟩:=h
   exact ⟨hp,Dr G _ _ _ _ _ _ h hq⟩
 | .seq x y,p,Q,σ,e,σ',h,hq=>by
   simp only[exec] at h
   cases hx:exec M x (0::p) σ with
   |none=>simp only[hx] at h;cases h
   |some r=>
    obtain ⟨e1,σ1⟩:=r
    refine xZ G x (0::p) _ σ e1 σ1 hx ?_
    cases e1 with
    |normal=>
     simp only[hx] at h
     cases hc:M.cut (1::p) σ1 with
     |none=>simp only[hc,dz] at h;cases h
     |some σ2=>
      simp only[hc,dA] at h
      exact ⟨σ2,G.cut _ _ _ hc,xZ G y (1::p) Q σ2 e σ' h hq⟩
    |_=>
     simp only[hx,cH,cK] at h
     obtain ⟨rfl,rfl⟩:=h
     exact hq
 | .cond c x y,p,Q,σ,e,σ',h,hq=>by
   simp only[exec] at h
   simp only[Ri]
   cases hv:σ.ev c with
   |bool b=>
    simp only[hv] at h ⊢
    cases b with
    |true=>simp only[cond_true,setB_eq hv] at h;exact ⟨fun _=>xZ G x (0::p) Q σ e σ' h hq,fun h=>(by cases h)⟩
    |false=>simp only[cond_false,setB_eq hv] at h;exact ⟨fun h=>(by cases h),fun _=>xZ G y (1::p) Q σ e σ' h hq⟩
   |_=>simp only[hv] at h;cases h
 | .block id x,p,Q,σ,e,σ',h,hq=>by
   simp only[exec] at h
   cases hx:exec M x (0::p) σ with
   |none=>simp only[hx] at h;cases h
   |some r=>
    obtain ⟨e1,σ1⟩:=r
    refine xZ G x (0::p) _ σ e1 σ1 hx ?_
    cases e1 with
    |exit id'=>
     simp only[hx] at h
     simp only[qL.inBlock]
     split at h
     ·rename_i he
      simp only[cH,cK] at h
      obtain ⟨rfl,rfl⟩:=h
      rw[if_pos he];exact hq
     ·rename_i he
      simp only[cH,cK] at h
      obtain ⟨rfl,rfl⟩:=h
      rw[if_neg he];exact hq
    |_=>
     simp only[hx,cH,cK] at h
     obtain ⟨rfl,rfl⟩:=h
     exact hq
 | .loop x,p,Q,σ,e,σ',h,hq=>by
   simp only[exec] at h
   cases hn:M.qT p σ with
   |none=>simp only[hn,dz] at h;cases h
   |some σ1=>
    simp only[hn,dA] at h
    refine ⟨fun m σ2=>lqN (M.qT p) (exec M x (0::p)) m σ2=some (e,σ'),M.n,σ1,G.qT _ _ _ hn,h,?_⟩
    intro m σ2 h2
    cases m with
    |zero=>simp only[lqN] at h2;cases h2
    |succ m=>
     simp only[lqN] at h2
     cases hx:exec M x (0::p) σ2 with
     |none=>simp only[hx] at h2;cases h2
     |some r=>
      obtain ⟨e1,σ3⟩:=r
      refine xZ G x (0::p) _ σ2 e1 σ3 hx ?_
      cases e1 with
      |normal=>
       simp only[hx] at h2
       cases hn2:M.qT p σ3 with
       |none=>simp only[hn2,dz] at h2;cases h2
       |some σ4=>
        simp only[hn2,dA] at h2
        exact ⟨m,σ4,Nat.lt_succ_self _,G.qT _ _ _ hn2,h2⟩
      |_=>
       simp only[hx,cH,cK] at h2
       obtain ⟨rfl,rfl⟩:=h2
       exact hq
 | .scope x,p,Q,σ,e,σ',h,hq=>by
   simp only[exec] at h
   refine xZ G x (0::p) _ σ e σ' h ?_
   cases e with
   |goto l=>exact absurd h (by
     intro h
     exact HP M x (0::p) σ _ _ h)
   |_=>exact hq
 | .goto _,_,_,_,_,_,h,_=>by simp only[exec] at h;cases h
 | .rangeFunc g ps as body,p,Q,σ,e,σ',h,hq=>by
   simp only[exec] at h
   simp only[Ri]
   unfold rngX at h
   split at h
   ·rename_i f first cap hv
    split at h
    ·rename_i r H' hc
     refine XW hv ((G.cl f _ {σ with slots:=σ.slots++[.map σ.heap.length],heap:=σ.heap++[.loop ⟨ps,as,body,M.js p⟩ σ.slots .ready 0]} r H' hc).mono ?_)
     rintro o' DE ⟨rfl,rfl⟩
     unfold endX at h
     split at h
     ·rename_i k s st uL hH
      rw[pZ] at h
      obtain ⟨hst,h⟩:=h
      subst hst
      refine ⟨r,k,s,uL,rfl,hH,?_⟩
      generalize sH k.js uL=pc at*
      unfold XX at h
      split at h
      ·simp only[cH,cK] at h;obtain ⟨rfl,rfl⟩:=h;exact hq
      ·simp only[cH,cK] at h;obtain ⟨rfl,rfl⟩:=h;exact hq
      ·simp only[cH,cK] at h;obtain ⟨rfl,rfl⟩:=h;exact hq
      ·cases h
     ·cases h
    ·cases h
   ·cases h
 | .refuse _,_,_,_,_,_,h,_=>by simp only[exec] at h;cases h
end
end Go.Abs
