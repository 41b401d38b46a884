/- A part of the proof: abstract states and the rules for them. -/
import Derived.Test.YtfilfimjoeapgaaDoorCoreB
import Derived.Attr
import Derived.Laws.StructEq
import Derived.ChangeKeysEq
set_option linter.all false
open Option renaming bind_eq_some_iff → fc,bind_some → fF,isSome_some → fU,map_some → gb,map → gx
open Option.some renaming injEq → ff,inj → gw
open List renaming getElem?_eq_getElem → fj,getElem?_eq_some_iff → fk,getElem?_set_self → fm,getElem?_set_ne → fo,replicate → fu,mem_of_getElem? → fz,getElem?_append_right → fB,getElem?_append_left → fC,length_cons → fD,mem_cons → fG,take_left' → fH,drop_left' → fI,getElem?_map → fK,length_set → fM,nodup_cons → fN,getElem?_cons_zero → fP,getElem?_eq_none → fQ,eq_nil_of_length_eq_zero → fS,length_append → fT,length_take → fW,isEmpty_nil → fX,getElem?_cons_succ → fZ,length_map → ga,mem_append → gd,nil_append → gf,take_of_length_le → gi,getElem?_of_mem → gk,all_cons → gp,map_cons → gq,map_congr_left → gr,getD → gu
open Prod.mk renaming injEq → fq
open Nat renaming le_refl → fy,lt_of_lt_of_le → fA,not_lt_zero → fR,add_sub_cancel_left → fY,zero_le → gv
open Bool renaming and_eq_true → fE,not_false → gj,true_and → gm
open List.cons renaming injEq → fJ
open Array renaming toList_append → fL,toList_push → fV,toList_replicate → gh
open Go.Fence renaming wide → fO
namespace Go.Abs
def HSim (C:Ctx) (φ:Nat→Value) (H:List AObj) (w:World):Prop:=ql C φ {slots:=[],heap:=H,low:=H.length} {tmps:= #[],defers:=[]} w
def QF (P:Program) (f:FuncId) (args:List AV) (H:List AObj) (V:wM→List AObj→Prop):Prop:=
 enters P f=true∧nbL H.length args∧(∀x∈H,objNb H.length x)∧ ∀ (C:Ctx) (φ:Nat→Value) (w:World),C.P=P→C.w0=w→C.N0=H.length→(∀l,l<H.length→C.φ0 l=φ l∧C.ln0 l=oW H[l]?)→(∀b o,C.M0 b o↔Cg φ H b o)→
  HSim C φ H w→ ∀vs:Array Value,nj (C.env φ H w) args vs.toList→
  Calls P f vs w fun e w'=> ∃o φ' H',V o H'∧ql C φ' {slots:=[],heap:=H',low:=H.length} {tmps:= #[],defers:=[]} w'∧o.rep (C.env φ' H' w') e
def tP:List AObj→List Nat→List AObj→List AObj
 |H,l::ls,x::xs=>tP (H.set l x) ls xs
 |H,_,_=>H
def qu (ρ:List Nat) (n:Nat) (l:Nat):Nat:=if l<ρ.length then ρ.getD l 0 else n+(l-ρ.length)
def vI (ρ:List Nat) (H H':List AObj):List AObj:=
 tP H ρ (H'.map (AObj.ren (qu ρ H.length)))++(H'.drop ρ.length).map (AObj.ren (qu ρ H.length))
theorem w8: ∀ (H:List AObj) (ls:List Nat) (xs:List AObj),(tP H ls xs).length=H.length
 |_,[],_=>by simp [tP]
 |_,_::_,[]=>by simp [tP]
 |H,l::ls,x::xs=>by rw[tP,w8,fM]
theorem B2: ∀ (ls:List Nat) (H:List AObj) (xs:List AObj) (k:Nat),k ∉ ls→(tP H ls xs)[k]? =H[k]?
 |[],_,_,_,_=>by simp [tP]
 |_::_,_,[],_,_=>by simp [tP]
 |l::ls,H,x::xs,k,h=>by
  simp only[fG,not_or] at h
  rw[tP,B2 ls _ xs k h.2,fo (fun e=>h.1 e.symm)]
theorem I7: ∀ (ls:List Nat) (H:List AObj) (xs:List AObj) (i k:Nat) (x:AObj),ls.Nodup→ls[i]? =some k→xs[i]? =some x→k<H.length→(tP H ls xs)[k]? =some x
 |[],_,_,_,_,_,_,h,_,_=>by simp at h
 |_::_,_,[],_,_,_,_,_,h,_=>by simp at h
 |l::ls,H,y::ys,0,k,x,hnd,h,hx,hk=>by
  simp at h hx;subst h hx
  rw[fN] at hnd
  rw[tP,B2 ls _ ys l hnd.1,fm hk]
 |l::ls,H,y::ys,i+1,k,x,hnd,h,hx,hk=>by
  simp at h hx
  rw[fN] at hnd
  rw[tP]
  exact I7 ls _ ys i k x hnd.2 h hx (by rw[fM];exact hk)
def Rj:List Nat→Nat→Option Nat
 |[],_=>none
 |x::xs,k=>if x=k then some 0 else (Rj xs k).map (· +1)
theorem No: ∀ (ρ:List Nat) (l k:Nat),ρ.Nodup→ρ[l]? =some k→Rj ρ k=some l
 |[],_,_,_,h=>by simp at h
 |x::xs,0,k,_,h=>by simp at h;subst h;simp [Rj]
 |x::xs,l+1,k,hnd,h=>by
  simp at h
  rw[fN] at hnd
  have hne:x≠k:=fun e=>hnd.1 (e ▸ fz h)
  simp [Rj,hne,No xs l k hnd.2 h]
theorem Rk: ∀ (ρ:List Nat) (k:Nat),k ∉ ρ→Rj ρ k=none
 |[],_,_=>rfl
 |x::xs,k,h=>by
  simp only[fG,not_or] at h
  have hne:x≠k:=fun e=>h.1 e.symm
  simp [Rj,hne,Rk xs k h.2]
section call
variable {C:Ctx} {φ:Nat→Value} {σ:AState} {a:Act} {w:World}
structure L7 (T:Value→World→Array Value→(Ending→World→Prop)→Prop):Prop where
 mono: ∀h w vs R R',(∀e w',R e w'→R' e w')→T h w vs R→T h w vs R'
def Xb (P:Program) (T:Value→World→Array Value→(Ending→World→Prop)→Prop) (args:List AV) (H:List AObj) (V:wM→List AObj→Prop):Prop:=
 nbL H.length args∧(∀x∈H,objNb H.length x)∧ ∀ (C:Ctx) (φ:Nat→Value) (w:World),C.P=P→C.w0=w→C.N0=H.length→(∀l,l<H.length→C.φ0 l=φ l∧C.ln0 l=oW H[l]?)→(∀b o,C.M0 b o↔Cg φ H b o)→
  HSim C φ H w→ ∀vs:Array Value,nj (C.env φ H w) args vs.toList→
  T (φ 0) w vs fun e w'=> ∃o φ' H',V o H'∧ql C φ' {slots:=[],heap:=H',low:=H.length} {tmps:= #[],defers:=[]} w'∧o.rep (C.env φ' H' w') e
def I8 (P:Program) (T:Value→World→Array Value→(Ending→World→Prop)→Prop) (l:Nat) (args:List AV) (σ:AState) (K:wM→List AObj→Prop):Prop:=
 ∀ (C:Ctx) (φ:Nat→Value) (a:Act) (w:World),C.P=P→ql C φ σ a w→ ∀vs:Array Value,nj (C.env φ σ.heap w) args vs.toList→
   T (φ l) w vs fun e w'=> ∃o φ' H',K o H'∧ql C φ' {σ with heap:=H'} a w'∧o.rep (C.env φ' H' w') e
theorem Np {P:Program} {T:Value→World→Array Value→(Ending→World→Prop)→Prop} (hT:L7 T) {l0:Nat} {Ga args:List AV} {H:List AObj} {V:wM→List AObj→Prop} {K:wM→List AObj→Prop} (h:Xb P T args H V) (ρ:List Nat) (hlen:ρ.length=H.length) (hnd:ρ.Nodup)
 (hz: ∀φ:Nat→Value,T (φ (qu ρ σ.heap.length 0))=T (φ l0))
 (hargs:tD Ga (renL (qu ρ σ.heap.length) args)) (Dv: ∀ (i:Nat) (k:Nat) (x:AObj),ρ[i]? =some k→H[i]? =some x→σ.heap[k]? =some (x.ren (qu ρ σ.heap.length)))
 (hK: ∀o H',V o H'→K (o.ren (qu ρ σ.heap.length)) (vI ρ σ.heap H')):I8 P T l0 Ga σ K:=by
 obtain ⟨hnbA,Dz,hc⟩:=h
 intro C φ a w hP S vs hr
 let ρf:Nat→Nat:=qu ρ σ.heap.length
 have hρ: ∀l,l<H.length→ρ[l]? =some (ρf l):=by
  intro l hl
  have hl':l<ρ.length:=by omega
  simp only[ρf,qu,hl',if_true,gu,fj hl',Option.getD_some]
 let φc:Nat→Value:=fun l=>φ (ρf l)
 have Pu: ∀ (l:Nat) (x:AObj),H[l]? =some x→σ.heap[ρf l]? =some (x.ren ρf):=fun l x hx=>Dv l _ x (hρ l (fk.1 hx).1) hx
 have hρlt: ∀l,l<H.length→ρf l<σ.heap.length:=by
  intro l hl
  have:=Pu l H[l] (fj hl)
  exact (fk.1 this).1
 have hinj: ∀l l',l<H.length→l'<H.length→ρf l=ρf l'→l=l':=by
  intro l l' hl hl' he
  have h1:=hρ l hl
  have h2:=hρ l' hl'
  rw[he] at h1
  obtain ⟨i1,e1⟩:=fk.1 h1
  obtain ⟨i2,e2⟩:=fk.1 h2
  exact (List.getElem_inj hnd).1 (by rw[e1,e2])
 have UC: ∀b o,Cg φc H b o→Cg φ σ.heap b o:=by
  rintro b o ⟨l,x,hx,hm⟩
  exact ⟨ρf l,_,Pu l x hx,I4.2 hm⟩
 have hA0: ∀b o,((Cg φ σ.heap b o∨C.A b o)∧ ¬ Cg φc H b o)→b<w.heap.size:=by
  rintro b o ⟨⟨l,x,hx,hm⟩|hA,_⟩
  ·exact (S.objs l x hx).tB (AObj.qU hm)
  ·exact fA (C.hA b o hA) S.size
 let C':Ctx:=Ctx.mk C.P w (Cg φc H) (fun b o=>(Cg φ σ.heap b o∨C.A b o)∧ ¬ Cg φc H b o) hA0 (fun b o h=>let ⟨v,h1,h2,h3⟩:=S.know b o h;⟨v,h1,h2,fun hm=>h3 (UC b o hm)⟩) H.length φc (fun l=>oW H[l]?)
 have hmuEq: ∀b o,(Cg φc H b o∨C'.A b o)↔(Cg φ σ.heap b o∨C.A b o):=by
  intro b o
  constructor
  ·rintro (h|h)
   ·exact .inl (UC b o h)
   ·exact h.1
  ·intro h
   by_cases hm:Cg φc H b o
   ·exact .inl hm
   ·exact .inr ⟨h,hm⟩
 have un:UnLe H.length ρf (C.env φ σ.heap w) (C'.env φc H w):=by
  refine ⟨fy _,fun l hl=>⟨rfl,?_⟩,fun b o u hm hcell=>⟨fun hh=>hm ((hmuEq b o).1 hh),hcell⟩⟩
  simp only[Ctx.env]
  rw[Pu l H[l] (fj hl),BB,fj hl]
 have By: ∀ (l:Nat) (x:AObj) (b:Nat),H[l]? =some x→x.block (φc l) b→ ∃y:AObj,σ.heap[ρf l]? =some y∧y.block (φ (ρf l)) b:=fun l x b hx hb=>⟨_,Pu l x hx,z1.2 hb⟩
 have hown: ∀ (l:Nat) (x:AObj) (b:Nat),H[l]? =some x→x.block (φc l) b→ ∀o,Cg φ σ.heap b o→Cg φc H b o:=by
  rintro l x b hx hb o ⟨k,y,hy,hm⟩
  obtain ⟨z,hz,VC⟩:=By l x b hx hb
  have hk:=S.apart k (ρf l) y z b hy hz (AObj.qU hm) VC
  subst hk
  have hf:=Pu l x hx
  rw[hy] at hf
  cases hf
  exact ⟨l,x,hx,I4.1 hm⟩
 have hS':HSim C' φc H w:=by
  refine {slots:=rfl,defers:=uT.nil,objs:= ?_,apart:= ?_,vE:= ?_,size:=fy _,old:=fun _ _ _ _=>rfl,qM:=fun _ _ _=>rfl,Be:= ?_,wZ:=fun _ _=>rfl,rest:=⟨rfl,rfl⟩,low:=⟨rfl,fy _⟩,names:=fun l hl=> .inl ⟨rfl,.inl rfl⟩}
  ·intro l x hx
   exact qQ.Ax un (Dz x (fz hx)) (fun _ _=>rfl) (S.objs (ρf l) _ (Pu l x hx))
  ·intro l l' x x' b hx hx' hb hb'
   obtain ⟨z,hz,VC⟩:=By l x b hx hb
   obtain ⟨z',WO,hzb'⟩:=By l' x' b hx' hb'
   exact hinj l l' (fk.1 hx).1 (fk.1 hx').1 (S.apart _ _ z z' b hz WO VC hzb')
  ·rintro l x b o hx hb ⟨hA|hA,hn⟩
   ·exact hn (hown l x b hx hb o hA)
   ·obtain ⟨z,hz,VC⟩:=By l x b hx hb
    exact S.vE _ z b o hz VC hA
  ·intro l x b o hx hm _
   exact ⟨l,x,hx,hm⟩
 have hr':nj (C'.env φc H w) args vs.toList:=nj.Ax un _ _ hnbA (hargs _ _ hr)
 have yC:=hc C' φc w hP rfl rfl (fun l _=>⟨rfl,rfl⟩) (fun _ _=>Iff.rfl) hS' vs hr'
 rw[show φc 0=φ (qu ρ σ.heap.length 0) from rfl,hz φ] at yC
 refine hT.mono _ _ _ _ _ ?_ yC
 rintro e w' ⟨o,φ',H',hV,S',uX⟩
 have hHle:H.length≤H'.length:=S'.low.2
 let n:=σ.heap.length
 have WY: ∀k,k<n→(∃l,l<H.length∧ρf l=k)∨k ∉ ρ:=by
  intro k _
  by_cases hm:k∈ρ
  ·obtain ⟨i,hi⟩:=gk hm
   have SR:=(fk.1 hi).1
   left
   refine ⟨i,by omega,?_⟩
   have:=hρ i (by omega)
   rw[hi] at this;cases this;rfl
  ·exact .inr hm
 let ix:Nat→Option Nat:=Rj ρ
 have hix: ∀l,l<H.length→ix (ρf l)=some l:=by
  intro l hl
  exact No ρ l _ hnd (hρ l hl)
 have hix0: ∀k,k ∉ ρ→ix k=none:=by
  intro k hk
  exact Rk ρ k hk
 let φ2:Nat→Value:=fun k=>if k<n then (match ix k with|some l=>φ' l|none=>φ k) else φ' (H.length+(k-n))
 have P6: ∀l,l<H'.length→φ2 (ρf l)=φ' l:=by
  intro l hl
  by_cases h1:l<H.length
  ·simp only[φ2]
   rw[if_pos (hρlt l h1),hix l h1]
  ·have h2:ρf l=n+(l-H.length):=by
    have: ¬ l<ρ.length:=by omega
    show qu ρ σ.heap.length l=_
    unfold qu
    rw[if_neg this,hlen]
   simp only[φ2]
   rw[if_neg (by omega),h2]
   congr 1;omega
 have Rl: ∀k,k<n→k ∉ ρ→φ2 k=φ k:=by
  intro k hk hm
  simp only[φ2]
  rw[if_pos hk,hix0 k hm]
 let H2:List AObj:=vI ρ σ.heap H'
 have hH2f: ∀ (l:Nat) (hl:l<H'.length),H2[ρf l]? =some ((H'[l]).ren ρf):=by
  intro l hl
  simp only[H2,vI]
  by_cases h1:l<H.length
  ·have hlt:=hρlt l h1
   rw[fC (by rw[w8];exact hlt)]
   exact I7 ρ σ.heap _ l (ρf l) _ hnd (hρ l h1) (by rw[fK,fj hl];rfl) hlt
  ·have h2:ρf l=n+(l-H.length):=by
    have: ¬ l<ρ.length:=by omega
    show qu ρ σ.heap.length l=_
    unfold qu
    rw[if_neg this,hlen]
   rw[h2,fB (by rw[w8];omega),w8]
   rw[fK,List.getElem?_drop,hlen]
   have e:H.length+(n+(l-H.length)-σ.heap.length)=l:=by simp only[n];omega
   rw[e,fj hl];rfl
 have hH2o: ∀k,k<n→k ∉ ρ→H2[k]? =σ.heap[k]? :=by
  intro k hk hm
  simp only[H2,vI]
  rw[fC (by rw[w8];exact hk)]
  exact B2 ρ _ _ k hm
 have hH2len:H2.length=n+(H'.length-H.length):=by
  simp only[H2,vI,fT,w8,ga,List.length_drop,hlen];rfl
 have hH2: ∀ (k:Nat) (y:AObj),H2[k]? =some y→(∃l,∃hl:l<H'.length,k=ρf l∧y=(H'[l]).ren ρf)∨(k<n∧k ∉ ρ∧σ.heap[k]? =some y):=by
  intro k y hy
  have hk:k<H2.length:=(fk.1 hy).1
  by_cases h1:k<n
  ·rcases WY k h1 with ⟨l,hl,rfl⟩|hm
   ·left
    have:=hH2f l (by omega)
    rw[hy] at this;cases this
    exact ⟨l,by omega,rfl,rfl⟩
   ·right
    rw[hH2o k h1 hm] at hy
    exact ⟨h1,hm,hy⟩
  ·left
   have hl:H.length+(k-n)<H'.length:=by omega
   have hk2:ρf (H.length+(k-n))=k:=by
    have: ¬ H.length+(k-n)<ρ.length:=by omega
    show qu ρ σ.heap.length _=_
    unfold qu
    rw[if_neg this,hlen]
    simp only[n] at h1 ⊢;omega
   have:=hH2f _ hl
   rw[hk2,hy] at this;cases this
   exact ⟨_,hl,hk2.symm,rfl⟩
 have hMut2: ∀b o,Cg φ2 H2 b o→Cg φ' H' b o∨ ∃ (k:Nat) (y:AObj),k<n∧k ∉ ρ∧σ.heap[k]? =some y∧y.muts (φ k) b o:=by
  rintro b o ⟨k,y,hy,hm⟩
  rcases hH2 k y hy with ⟨l,hl,rfl,rfl⟩|⟨h1,h2,h3⟩
  ·left
   rw[P6 l hl] at hm
   exact ⟨l,_,fj hl,I4.1 hm⟩
  ·right
   rw[Rl k h1 h2] at hm
   exact ⟨k,y,h1,h2,h3,hm⟩
 have hsep: ∀ (k:Nat) (y:AObj) (b:Nat),k<n→k ∉ ρ→σ.heap[k]? =some y→y.block (φ k) b→ ∀o,¬ Cg φc H b o:=by
  rintro k y b hk hm hy hb o ⟨l,x,hx,LN⟩
  obtain ⟨z,hz,VC⟩:=By l x b hx (AObj.qU LN)
  have e:=S.apart k (ρf l) y z b hy hz hb VC
  apply hm
  rw[e]
  exact fz (hρ l (fk.1 hx).1)
 have QG: ∀ (l:Nat) (hl:l<H'.length) (b:Nat),(H'[l]).block (φ' l) b→b<w.heap.size→ ∃ (k:Nat) (x:AObj),H[k]? =some x∧x.block (φc k) b:=by
  intro l hl b hb hlt
  obtain ⟨o,LN⟩:=Ij hb
  obtain ⟨k,x,hx,hmx⟩:=S'.Be l _ b o (fj hl) LN hlt
  exact ⟨k,x,hx,AObj.qU hmx⟩
 have le:(C.env φ σ.heap w).Le n (C.env φ2 H2 w'):=by
  refine ⟨by simp only[Ctx.env];omega,fun k hk=> ?_,fun b o' u hm hcell=> ?_⟩
  ·rcases WY k hk with ⟨l,hl,rfl⟩|hm
   ·have hn:=S'.names l hl
    simp only[Ctx.env]
    rw[P6 l (by omega),hH2f l (by omega),BB,Pu l H[l] (fj hl),BB]
    have h1:oW H'[l]? =oW (some H'[l]):=by rw[fj (by omega)]
    have h2:C'.ln0 l=oW (some H[l]):=by show oW H[l]? =_;rw[fj hl]
    rw[h1,h2] at hn
    exact hn
   ·left
    simp only[Ctx.env]
    rw[Rl k hk hm,hH2o k hk hm]
    exact ⟨rfl,.inl rfl⟩
  ·have hb:=CG hcell
   simp only[Ctx.env] at hb hm ⊢
   have hnc: ¬ Cg φc H b o':=fun hh=>hm (.inl (UC b o' hh))
   refine ⟨?_,by rw[S'.old b o' hb hnc];exact hcell⟩
   rintro (hh|hh)
   ·rcases hMut2 b o' hh with ⟨l,x,hx,LN⟩|⟨k,y,_,_,hy,LN⟩
    ·exact hnc (S'.Be l x b o' hx LN hb)
    ·exact hm (.inl ⟨k,y,hy,LN⟩)
   ·exact hm (.inr hh)
 have ren:Ng H'.length ρf (C'.env φ' H' w') (C.env φ2 H2 w'):=by
  refine ⟨fun l hl=> ?_,fun l hl=> ?_,fun b o' u hm hcell=>⟨?_,hcell⟩⟩
  ·have:=hH2f l hl
   exact (fk.1 this).1
  ·simp only[Ctx.env]
   rw[P6 l hl,hH2f l hl,BB,fj hl]
   exact ⟨rfl,.inl rfl⟩
  ·simp only[Ctx.env] at hm ⊢
   rintro (hh|hh)
   ·rcases hMut2 b o' hh with h1|⟨k,y,hk,hkm,hy,LN⟩
    ·exact hm (.inl h1)
    ·exact hm (.inr ⟨.inl ⟨k,y,hy,LN⟩,hsep k y b hk hkm hy (AObj.qU LN) o'⟩)
   ·refine hm (.inr ⟨.inr hh,?_⟩)
    rintro ⟨l,x,hx,LN⟩
    obtain ⟨z,hz,VC⟩:=By l x b hx (AObj.qU LN)
    exact S.vE _ z b o' hz VC hh
 have S2:ql C φ2 {σ with heap:=H2} a w':=by
  have Az:uT C φ2 H2 w' σ.df a.defers:=by
   refine S.defers.step le (fun b hb hno=>S'.qM b hb (fun o' hh=> ?_)) (fun k x b hx hb=> ?_)
   ·obtain ⟨l,x,hx,LN⟩:=hh
    obtain ⟨z,WO,VC⟩:=By l x b hx (AObj.qU LN)
    exact hno _ z WO VC
   ·by_cases hbs:b<w.heap.size
    ·rcases hH2 k x hx with ⟨l,hl,rfl,rfl⟩|⟨h1,h2,h3⟩
     ·rw[P6 l hl] at hb
      obtain ⟨q,z,WO,VC⟩:=QG l hl b (z1.1 hb) hbs
      obtain ⟨z',hz2,hzb'⟩:=By q z b WO VC
      exact .inl ⟨_,z',hz2,hzb'⟩
     ·rw[Rl k h1 h2] at hb
      exact .inl ⟨k,x,h3,hb⟩
    ·exact .inr (by omega)
  refine {slots:=nj.mono le _ _ (nj.nb _ _ S.slots) S.slots,defers:=Az,objs:= ?_,apart:= ?_,vE:= ?_,size:=Nat.le_trans S.size S'.size,old:= ?_,qM:= ?_,Be:= ?_,wZ:=fun x hx=>(S'.wZ x (fA hx S.size)).trans (S.wZ x hx),rest:=⟨S'.rest.1.trans S.rest.1,S'.rest.2.trans S.rest.2⟩,low:=⟨S.low.1,by have:=S.low.2;show σ.low≤H2.length;omega⟩,names:= ?_}
  ·intro k y hy
   rcases hH2 k y hy with ⟨l,hl,rfl,rfl⟩|⟨h1,h2,h3⟩
   ·rw[P6 l hl]
    have r0:=S'.objs l _ (fj hl)
    exact qQ.ren ren (I5 r0) (fun _ _=>rfl) r0
   ·rw[Rl k h1 h2]
    have r0:=S.objs k y h3
    exact qQ.mono r0 le (fun b hb=>S'.qM b (r0.tB hb) (hsep k y b h1 h2 h3 hb))
  ·intro k k' x x' b hx hx' hb hb'
   rcases hH2 k x hx with ⟨l,hl,rfl,rfl⟩|⟨h1,h2,h3⟩<;>rcases hH2 k' x' hx' with ⟨l',hl',rfl,rfl⟩|⟨h1',h2',h3'⟩
   ·rw[P6 l hl] at hb
    rw[P6 l' hl'] at hb'
    have:=S'.apart l l' _ _ b (fj hl) (fj hl') (z1.1 hb) (z1.1 hb')
    rw[this]
   ·rw[P6 l hl] at hb
    rw[Rl k' h1' h2'] at hb'
    exfalso
    obtain ⟨q,z,hz,VC⟩:=QG l hl b (z1.1 hb) ((S.objs k' x' h3').tB hb')
    obtain ⟨o'',LN⟩:=Ij VC
    exact hsep k' x' b h1' h2' h3' hb' o'' ⟨q,z,hz,LN⟩
   ·rw[P6 l' hl'] at hb'
    rw[Rl k h1 h2] at hb
    exfalso
    obtain ⟨q,z,hz,VC⟩:=QG l' hl' b (z1.1 hb') ((S.objs k x h3).tB hb)
    obtain ⟨o'',LN⟩:=Ij VC
    exact hsep k x b h1 h2 h3 hb o'' ⟨q,z,hz,LN⟩
   ·rw[Rl k h1 h2] at hb
    rw[Rl k' h1' h2'] at hb'
    exact S.apart k k' x x' b h3 h3' hb hb'
  ·intro k x b o' hx hb
   rcases hH2 k x hx with ⟨l,hl,rfl,rfl⟩|⟨h1,h2,h3⟩
   ·rw[P6 l hl] at hb
    intro hA
    have hbs:b<w.heap.size:=fA (C.hA b o' hA) S.size
    obtain ⟨q,z,hz,VC⟩:=QG l hl b (z1.1 hb) hbs
    obtain ⟨z',WO,hzb'⟩:=By q z b hz VC
    exact S.vE _ z' b o' WO hzb' hA
   ·rw[Rl k h1 h2] at hb
    exact S.vE k x b o' h3 hb
  ·intro b o' hb hm
   have hb':b<w.heap.size:=fA hb S.size
   have hnc: ¬ Cg φc H b o':=by
    intro hh
    obtain ⟨k,y,hy,LN⟩:=UC b o' hh
    exact hm (S.Be k y b o' hy LN hb)
   exact (S'.old b o' hb' hnc).trans (S.old b o' hb hm)
  ·intro b hb hm
   have hb':b<w.heap.size:=fA hb S.size
   have hnc: ∀o',¬ Cg φc H b o':=by
    intro o' hh
    obtain ⟨k,y,hy,LN⟩:=UC b o' hh
    exact hm o' (S.Be k y b o' hy LN hb)
   exact (S'.qM b hb' hnc).trans (S.qM b hb hm)
  ·intro k x b o' hx LN hb
   rcases hH2 k x hx with ⟨l,hl,rfl,rfl⟩|⟨h1,h2,h3⟩
   ·rw[P6 l hl] at LN
    obtain ⟨q,z,hz,hmz⟩:=S'.Be l _ b o' (fj hl) (I4.1 LN) (fA hb S.size)
    obtain ⟨k2,y2,hy2,hmu2⟩:=UC b o' ⟨q,z,hz,hmz⟩
    exact S.Be k2 y2 b o' hy2 hmu2 hb
   ·rw[Rl k h1 h2] at LN
    exact S.Be k x b o' h3 LN hb
  ·intro k hk
   have hkn:k<n:=by have:=S.low;simp only[n];omega
   have hn:=S.names k hk
   show (φ2 k=_∧_)∨_
   rcases WY k hkn with ⟨l,hl,rfl⟩|hm
   ·have hn':=S'.names l hl
    rw[P6 l (by omega),hH2f l (by omega),BB]
    rw[Pu l H[l] (fj hl),BB] at hn
    have h1:oW H'[l]? =oW (some H'[l]):=by rw[fj (by omega)]
    have h2:C'.ln0 l=oW (some H[l]):=by show oW H[l]? =_;rw[fj hl]
    have h3:C'.φ0 l=φ (ρf l):=rfl
    rw[h1,h2,h3] at hn'
    rcases hn' with ⟨ha,hb|hb⟩|⟨⟨q,hq,hlt⟩,hp,hmp⟩
    ·rw[ha,hb];exact hn
    ·rw[hb]
     rcases hn with ⟨hc1,_⟩|⟨⟨q,hq,_⟩,hp,hmp⟩
     ·exact .inl ⟨by rw[ha];exact hc1,.inr rfl⟩
     ·exact .inr ⟨⟨q,hq,fun k' hk'=>by cases hk'⟩,hp,hmp⟩
    ·right
     rcases hn with ⟨hc1,hc2|hc2⟩|⟨⟨q2,hq2,hlt2⟩,hp2,hmp2⟩
     ·rw[hq] at hc2
      exact ⟨⟨q,hc2.symm,hlt⟩,by rw[←hc1];exact ⟨hp,hmp⟩⟩
     ·rw[hq] at hc2;cases hc2
     ·exact ⟨⟨q2,hq2,fun k' hk'=>by have:=hlt k' hk';have:=hlt2 q hq;omega⟩,hp2,hmp2⟩
   ·rw[Rl k hkn hm,hH2o k hkn hm];exact hn
 refine ⟨o.ren ρf,φ2,H2,hK o H' hV,S2,?_⟩
 cases o with
 |ret r=>
  cases e with
  |returned v=>exact rE.ren ren r v (rE.nb _ _ uX) uX
  |panicked chain=>exact uX.elim
  |outgrown=>exact uX.elim
 |panic x=>
  cases e with
  |returned v=>exact uX.elim
  |panicked chain=>
   obtain ⟨v,hv,hr⟩:=uX
   exact ⟨v,hv,rE.ren ren x v (rE.nb _ _ hr) hr⟩
  |outgrown=>exact uX.elim
theorem MK {P:Program} {f:FuncId}:L7 (fun _ w vs R=>Calls P f vs w R):=⟨fun _ _ _ _ _ hr h=>Calls.mono h hr⟩
theorem Xc {P:Program}:L7 (MH P):=⟨fun _ _ _ _ _ hr h D rec h1 h2=>(h D rec h1 h2).mono hr⟩
theorem VD {P:Program} {f:FuncId} {Ga args:List AV} {H:List AObj} {V:wM→List AObj→Prop} {K:wM→List AObj→Prop} (h:QF P f args H V) (ρ:List Nat) (hlen:ρ.length=H.length) (hnd:ρ.Nodup)
 (hargs:tD Ga (renL (qu ρ σ.heap.length) args)) (Dv: ∀ (i:Nat) (k:Nat) (x:AObj),ρ[i]? =some k→H[i]? =some x→σ.heap[k]? =some (x.ren (qu ρ σ.heap.length)))
 (hK: ∀o H',V o H'→K (o.ren (qu ρ σ.heap.length)) (vI ρ σ.heap H')):AZ P f Ga σ K:=
 ⟨h.1,Np (T:=fun _ w vs R=>Calls P f vs w R) (l0:=0) MK h.2 ρ hlen hnd (fun _=>rfl) hargs Dv hK⟩
end call
theorem qQ.monoN {E E':Env} {N:Nat} {x:AObj} {hd:Value} (r:qQ E x hd) (h:E.Le N E') (hn:objNb N x) (hs:E'.w=E.w:=by rfl):qQ E' x hd:=by
 cases x with
 |cells cs=>obtain ⟨b,c,t,h1,h2,rl,h3⟩:=r;exact ⟨b,c,t,h1,by rw[hs];exact h2,nj.mono h _ _ hn rl,h3⟩
 |acc u5 sz rows=>
  obtain ⟨base,cap,h1,h2,h3,h4,h5⟩:=r
  refine ⟨base,cap,h1,h2,h3,h4,fun a0 ha hc=> ?_⟩
  obtain ⟨h6,c,t,h7,h8,rl,h9⟩:=h5 a0 ha hc
  exact ⟨h6,c,t,by rw[hs];exact h7,h8,nj.mono h _ _ (Df hn) rl,h9⟩
 |map es=>obtain ⟨r',en,cl,h1,h2,rp⟩:=r;exact ⟨r',en,cl,h1,by rw[hs];exact h2,um.mono h hn rp⟩
 |loop k slots st uW=>obtain ⟨D,rec,h1,h2,h3,h4,rl⟩:=r;exact ⟨D,rec,h1,by rw[hs];exact h2,by rw[hs];exact h3,h4,nj.mono h _ _ hn rl⟩
 |iter s p=>obtain ⟨b,h1,h2⟩:=r;exact ⟨b,h1,by rw[hs];exact h2⟩
 |dead=>trivial
def Ik (σ:AState) (x r:AV) (H':List AObj):Prop:=
 ∀ (C:Ctx) (φ:Nat→Value) (a:Act) (w:World),ql C φ σ a w→ ∀v,rE (C.env φ σ.heap w) x v→
   ∃φ',ql C φ' {slots:=[],heap:=H',low:=σ.low} {tmps:= #[],defers:=[]} w∧rE (C.env φ' H' w) r v
def outX (low l k:Nat):Nat:=if k<low then k else if k=l then low else low+1+k
section export_
variable {σ:AState}
theorem Ik.sub {x r r':AV} {H':List AObj} (h:Ik σ x r H') (hs:Sub r r'):Ik σ x r' H':=fun C φ a w S v hv=>
 let ⟨φ',S',hr⟩:=h C φ a w S v hv
 ⟨φ',S',hs _ _ hr⟩
theorem Xd {H:List AObj} {low l:Nat} (hl:l<low):(H.take low)[l]? =H[l]? :=by rw[List.getElem?_take,if_pos hl]
theorem Zs {x:AV} {l:Nat} {y:AObj} (hl:σ.heap[l]? =some y) (Dt:σ.low≤l) (hnb: ∀z∈σ.heap.take σ.low,objNb σ.low z) (hy:objNb σ.low y) (hr:(x.ren (outX σ.low l)).nb (σ.low+1)):
 Ik σ x (x.ren (outX σ.low l)) (σ.heap.take σ.low++[y]):=by
 intro C φ a w S v hv
 have hlowle:=S.low.2
 have hHl:(σ.heap.take σ.low).length=σ.low:=by rw[fW];omega
 let H':=σ.heap.take σ.low++[y]
 let φ':Nat→Value:=fun k=>if k=σ.low then φ l else φ k
 have Zf: ∀k,k<σ.low→φ' k=φ k:=fun k hk=>by simp only[φ'];rw[if_neg (by omega)]
 have hφl:φ' σ.low=φ l:=by simp [φ']
 have hget0: ∀k,k<σ.low→H'[k]? =σ.heap[k]? :=by
  intro k hk
  simp only[H']
  rw[fC (by omega),Xd hk]
 have hgetl:H'[σ.low]? =some y:=by
  simp only[H']
  rw[fB (by omega),hHl,Nat.sub_self];rfl
 have hHlen:H'.length=σ.low+1:=by simp only[H',fT,hHl,fD,List.length_nil]
 have qb: ∀ (k:Nat) (z:AObj),H'[k]? =some z→(k<σ.low∧σ.heap[k]? =some z)∨(k=σ.low∧z=y):=by
  intro k z hz
  have hk:k<σ.low+1:=by rw[←hHlen];exact (fk.1 hz).1
  by_cases e:k=σ.low
  ·subst e;rw[hgetl] at hz;cases hz;exact .inr ⟨rfl,rfl⟩
  ·left
   rw[hget0 k (by omega)] at hz
   exact ⟨by omega,hz⟩
 let old:Nat→Nat:=fun k=>if k=σ.low then l else k
 have hold: ∀ (k:Nat) (z:AObj),H'[k]? =some z→σ.heap[old k]? =some z∧φ' k=φ (old k):=by
  intro k z hz
  rcases qb k z hz with ⟨h1,h2⟩|⟨rfl,rfl⟩
  ·simp only[old];rw[if_neg (by omega)];exact ⟨h2,Zf k h1⟩
  ·simp only[old,if_true];exact ⟨hl,hφl⟩
 have holdinj: ∀k k',k<σ.low+1→k'<σ.low+1→old k=old k'→k=k':=by
  intro k k' hk hk' he
  simp only[old] at he
  split at he<;>split at he<;>omega
 have BZ: ∀b o,Cg φ' H' b o→Cg φ σ.heap b o:=by
  rintro b o ⟨k,z,hz,hm⟩
  obtain ⟨h1,h2⟩:=hold k z hz
  rw[h2] at hm
  exact ⟨old k,z,h1,hm⟩
 have le:(C.env φ σ.heap w).Le σ.low (C.env φ' H' w):=by
  refine ⟨by simp only[Ctx.env];omega,fun k hk=> .inl ⟨Zf k hk,.inl (by simp only[Ctx.env];rw[hget0 k hk])⟩,fun b o u hm hc=>⟨fun h=>hm (h.imp (BZ b o) id),hc⟩⟩
 refine ⟨φ',{slots:=rfl,defers:=uT.nil,objs:= ?_,apart:= ?_,vE:= ?_,size:=S.size,old:=S.old,qM:=S.qM,Be:= ?_,wZ:=S.wZ,rest:=S.rest,low:=⟨S.low.1,by show σ.low≤H'.length;omega⟩,names:= ?_},?_⟩
 ·intro k z hz
  show qQ (C.env φ' H' w) z (φ' k)
  obtain ⟨h1,h2⟩:=hold k z hz
  rw[h2]
  refine (S.objs (old k) z h1).monoN le ?_
  rcases qb k z hz with ⟨h3,h4⟩|⟨rfl,rfl⟩
  ·exact hnb z (fz ((Xd h3).trans h4))
  ·exact hy
 ·intro k k' z z' b hz WO hb hb'
  obtain ⟨h1,h2⟩:=hold k z hz
  obtain ⟨h1',h2'⟩:=hold k' z' WO
  rw[h2] at hb
  rw[h2'] at hb'
  have hk:k<σ.low+1:=by rw[←hHlen];exact (fk.1 hz).1
  have hk':k'<σ.low+1:=by rw[←hHlen];exact (fk.1 WO).1
  exact holdinj k k' hk hk' (S.apart _ _ z z' b h1 h1' hb hb')
 ·intro k z b o hz hb
  obtain ⟨h1,h2⟩:=hold k z hz
  rw[h2] at hb
  exact S.vE _ z b o h1 hb
 ·intro k z b o hz hm hb
  obtain ⟨h1,h2⟩:=hold k z hz
  rw[h2] at hm
  exact S.Be _ z b o h1 hm hb
 ·intro k hk
  have hk':k<σ.low:=by have:=S.low.1;omega
  show (φ' k=_∧(oW H'[k]? =_∨_))∨_
  rw[Zf k hk',hget0 k hk']
  exact S.names k hk
 ·
  let E2:Env:={w,mu:=(C.env φ' H' w).mu,φ:=fun k=>if k<σ.low+1 then φ' k else φ (k-(σ.low+1)),ln:=fun k=>if k<σ.low+1 then oW H'[k]? else none,n:=σ.low+1+σ.heap.length}
  have ren:Ng σ.heap.length (outX σ.low l) (C.env φ σ.heap w) E2:=by
   refine ⟨fun k hk=> ?_,fun k hk=> ?_,fun b o u hm hc=>⟨fun h=>hm (h.imp (BZ b o) id),hc⟩⟩
   ·simp only[outX,E2]
    split
    ·omega
    ·split<;>omega
   ·simp only[outX,E2,Ctx.env]
    split
    ·rename_i h1
     rw[if_pos (by omega),if_pos (by omega),Zf k h1,hget0 k h1]
     exact ⟨rfl,.inl rfl⟩
    ·split
     ·rename_i h1 h2
      subst h2
      rw[if_pos (by omega),if_pos (by omega),hφl,hgetl,hl]
      exact ⟨rfl,.inl rfl⟩
     ·rw[if_neg (by omega),if_neg (by omega)]
      refine ⟨?_,.inr rfl⟩
      congr 1;omega
  have h1:=rE.ren ren x v (rE.nb _ _ hv) hv
  have le2:E2.Le (σ.low+1) (C.env φ' H' w):=by
   refine ⟨by simp only[Ctx.env];show σ.low+1≤H'.length;omega,fun k hk=> .inl ⟨?_,.inl ?_⟩,fun b o u hm hc=>⟨hm,hc⟩⟩
   ·show φ' k=if k<σ.low+1 then φ' k else _
    rw[if_pos hk]
   ·show oW H'[k]? =if k<σ.low+1 then oW H'[k]? else none
    rw[if_pos hk]
  exact rE.mono le2 _ v hr h1
end export_
theorem Ba {F:Fence} {n:Nat} {P:Program} {f:FuncId} {args:Array Value} {u:FrameMode} {w:World} {R R':Ending→FrameMode→World→Prop} (h:CallsDIn F n P f args u w R) (hr: ∀e u' w',R e u' w'→R' e u' w'):CallsDIn F n P f args u w R':=by
 refine ⟨h.1,fun c cs hc hroom=> ?_⟩
 obtain ⟨e,u',w',fr,hR,s9⟩:=h.2 c cs hc hroom
 exact ⟨e,u',w',fr,hr _ _ _ hR,s9⟩
def Xe (P:Program) (f:FuncId):Value→World→Array Value→(Ending→World→Prop)→Prop:=fun _ w vs R=>
 CallsDIn fO 0 P f vs .returning w fun e u' w'=> ∃r,e= .returned r∧settle u'= .returning∧R (.returned r) w'
def Xf (P:Program) (f:FuncId):Value→World→Array Value→(Ending→World→Prop)→Prop:=fun _ w vs R=> ∀ (VE:Array Value) (v:Value),vs=VE.push v→
 CallsDIn fO 0 P f VE (.panicking [{v,recovered:=false}]) w fun e u' w'=> ∃r,e= .returned r∧
  ((settle u'= .returning∧R (.returned r) w')∨ ∃v',settle u'= .panicking [{v:=v',recovered:=false}]∧R (.panicked [{v:=v',recovered:=false}]) w')
theorem UD {P:Program} {f:FuncId}:L7 (Xe P f):=⟨fun _ _ _ _ _ hr h=>Ba h fun _ _ _ ⟨r,h1,h2,h3⟩=>⟨r,h1,h2,hr _ _ h3⟩⟩
theorem UE {P:Program} {f:FuncId}:L7 (Xf P f):=⟨fun _ _ _ _ _ hr h VE v hv=>Ba (h VE v hv) fun _ _ _ ⟨r,h1,h2⟩=>⟨r,h1,h2.imp (fun ⟨h3,h4⟩=>⟨h3,hr _ _ h4⟩) fun ⟨v',h3,h4⟩=>⟨v',h3,hr _ _ h4⟩⟩⟩
def Nq (P:Program) (fin:Option AV→AState→Prop):List (FuncId×List AV)→Option AV→AState→Prop
 |[],m,σ=>fin m σ
 |(f,args)::ds,none,σ=>enters P f=true∧I8 P (Xe P f) 0 args {σ with df:=ds} (fun o H'=>match o with
    | .ret _=>Nq P fin ds none {σ with heap:=H',df:=ds}
    | .panic _=>False)
 |(f,args)::ds,some x,σ=>enters P f=true∧I8 P (Xf P f) 0 (args++[x]) {σ with df:=ds} (fun o H'=>match o with
    | .ret _=>Nq P fin ds none {σ with heap:=H',df:=ds}
    | .panic x'=>Nq P fin ds (some x') {σ with heap:=H',df:=ds})
section unw
variable {C:Ctx} {φ:Nat→Value} {σ:AState} {w:World} {tmps:Array Value} {ds:List Deferred}
theorem ql.unpush {x:AV} {v:Value} (S:ql C φ {σ with slots:=σ.slots++[x]} {tmps:=tmps.push v,defers:=ds} w) (hl:σ.slots.length=tmps.size):ql C φ σ {tmps,defers:=ds} w∧rE (C.env φ σ.heap w) x v:=by
 have h1:=S.slots.take σ.slots.length
 have h2:=S.slots.drop σ.slots.length
 have hlen:tmps.toList.length=σ.slots.length:=by simp [hl]
 simp only[fV] at h1 h2
 rw[fH rfl,fH hlen] at h1
 rw[fI rfl,fI hlen] at h2
 obtain ⟨u,us,he2,r1,_⟩:=h2
 simp only[fJ] at he2
 obtain ⟨rfl,_⟩:=he2
 exact ⟨{S with slots:=h1,defers:=S.defers},r1⟩
theorem ql.Zt {x:AV} {v:Value} (S:ql C φ σ {tmps,defers:=ds} w) (h:rE (C.env φ σ.heap w) x v):ql C φ {σ with slots:=σ.slots++[x]} {tmps:=tmps.push v,defers:=ds} w:=by
 refine {S with slots:= ?_,defers:=S.defers}
 have hv:nj (C.env φ σ.heap w) [x] [v]:=⟨v,[],rfl,h,rfl⟩
 simp only[fV]
 exact S.slots.append hv
theorem ql.len (S:ql C φ σ {tmps,defers:=ds} w):σ.slots.length=tmps.size:=by
 have:=S.slots.length
 simpa using this.symm
theorem ql.lenP {x:AV} {v:Value} (S:ql C φ {σ with slots:=σ.slots++[x]} {tmps:=tmps.push v,defers:=ds} w):σ.slots.length=tmps.size:=by
 have:=S.slots.length
 simp at this
 exact this.symm
theorem ql.pop {d:Deferred} (S:ql C φ σ {tmps,defers:=d::ds} w) (hm:MZ d=false):
 ∃f xs df' cap,σ.df=(f,xs)::df'∧d.target= .fn (.func f) cap∧nj (C.env φ σ.heap w) xs (d.args++cap).toList∧ql C φ {σ with df:=df'} {tmps,defers:=ds} w:=by
 obtain ⟨h1,h2,h3⟩:=S.defers
 simp only[List.filter_cons,hm,gj,if_true,Bool.false_eq_true,if_false] at h1 h3
 cases hdf:σ.df with
 |nil=>rw[hdf] at h3;cases h3
 |cons p df'=>
  obtain ⟨f,xs⟩:=p
  rw[hdf] at h3
  obtain ⟨d',s,cap,he,ht,hr,s9⟩:=h3
  simp only[fJ] at he
  obtain ⟨rfl,rfl⟩:=he
  exact ⟨f,xs,df',cap,rfl,ht,hr,{S with slots:=S.slots,defers:=⟨h1,fun d' hd'=>h2 d' (List.mem_cons_of_mem _ hd'),s9⟩}⟩
theorem Rm {P:Program} {d:Deferred} {f:FuncId} {cap:Array Value} (ht:d.target= .fn (.func f) cap) (he:enters P f=true):(invoke d.target d.args).run P w= .ok (.enter f (d.args++cap)) w:=by
 unfold enters at he
 split at he
 ·rename_i fn hfn
  simp only[fE,bne_iff_ne,ne_eq] at he
  have hnone:fn.body≠none:=by intro hb;simp [hb] at he
  simp [ht,invoke,callFunc,hfn,he.2,hnone]
 ·cases he
theorem ML {fn:Func} {R:Ending→World→Prop} {fin:Option AV→AState→Prop}
 (hr: ∀φ σ w,ql C φ σ {tmps,defers:=[]} w→fin none σ→ ∃v,(results fn tmps).run C.P w= .ok v w∧R (.returned v) w)
 (hp: ∀φ σ x v w,ql C φ σ {tmps,defers:=[]} w→rE (C.env φ σ.heap w) x v→fin (some x) σ→R (.panicked [{v,recovered:=false}]) w):
 ∀ (ds:List Deferred),
   (∀φ σ w,ql C φ σ {tmps,defers:=ds} w→Nq C.P fin σ.df none σ→LeavesInM fO 0 C.P fn tmps R ds .returning w)∧
   (∀φ σ x v w,ql C φ {σ with slots:=σ.slots++[x]} {tmps:=tmps.push v,defers:=ds} w→Nq C.P fin σ.df (some x) σ→LeavesInM fO 0 C.P fn tmps R ds (.panicking [{v,recovered:=false}]) w)
 |[]=>by
  refine ⟨fun φ σ w S h=> ?_,fun φ σ x v w S h=> ?_⟩
  ·have hd:σ.df=[]:=by
    have:=S.defers.2.2
    cases hdf:σ.df with
    |nil=>rfl
    |cons p r=>rw[hdf] at this;obtain ⟨_,_,_,h,_⟩:=this;cases h
   rw[hd] at h
   exact hr φ σ w S h
  ·obtain ⟨S',hx⟩:=S.unpush S.lenP
   have hd:σ.df=[]:=by
    have:=S'.defers.2.2
    cases hdf:σ.df with
    |nil=>rfl
    |cons p r=>rw[hdf] at this;obtain ⟨_,_,_,h,_⟩:=this;cases h
   rw[hd] at h
   exact hp φ σ x v w S' hx h
 |d::ds=>by
  obtain ⟨ihr,ihp⟩:=ML hr hp ds
  refine ⟨fun φ σ w S h=> ?_,fun φ σ x v w S h=> ?_⟩
  ·cases hm:MZ d with
   |true=>
    obtain ⟨D,hD,_⟩:=S.defers.2.1 d (List.mem_cons_self) hm
    subst hD
    obtain ⟨h1,S'⟩:=S.Nk
    exact ⟨by simp,.inl ⟨D,_,rfl,run_takeDeferred h1,ihr φ σ _ S' h⟩⟩
   |false=>
    obtain ⟨f,xs,df',cap,hdf,ht,hxs,S'⟩:=S.pop hm
    rw[hdf] at h
    obtain ⟨he,hc⟩:=h
    refine ⟨by simp,.inr ⟨fun h=>by simp [fO] at h,_,cap,f,d.args++cap,ht,Rm ht he,fun _ _=>trivial,?_⟩⟩
    refine Ba (hc C φ _ w rfl S' _ hxs) ?_
    rintro e u' w' ⟨r,rfl,hs,o,φ',H',hK,S2,uX⟩
    cases o with
    |ret r'=>
     simp only
     rw[hs]
     exact ihr φ' _ w' S2 hK
    |panic _=>exact hK.elim
  ·cases hm:MZ d with
   |true=>
    obtain ⟨D,hD,_⟩:=S.defers.2.1 d (List.mem_cons_self) hm
    subst hD
    obtain ⟨h1,S'⟩:=S.Nk
    exact ⟨by simp,.inl ⟨D,_,rfl,run_takeDeferred h1,ihp φ σ x v _ S' h⟩⟩
   |false=>
    obtain ⟨S1,hx⟩:=S.unpush S.lenP
    obtain ⟨f,xs,df',cap,hdf,ht,hxs,S'⟩:=S1.pop hm
    rw[hdf] at h
    obtain ⟨he,hc⟩:=h
    refine ⟨by simp,.inr ⟨fun h=>by simp [fO] at h,_,cap,f,d.args++cap,ht,Rm ht he,fun _ _=>trivial,?_⟩⟩
    have hargs:nj (C.env φ σ.heap w) (xs++[x]) ((d.args++cap).push v).toList:=by
     have hv:nj (C.env φ σ.heap w) [x] [v]:=⟨v,[],rfl,hx,rfl⟩
     rw[fV]
     exact hxs.append hv
    refine Ba (hc C φ _ w rfl S' _ hargs _ v rfl) ?_
    rintro e u' w' ⟨r,rfl,⟨hs,o,φ',H',hK,S2,uX⟩|⟨v',hs,o,φ',H',hK,S2,uX⟩⟩
    ·cases o with
     |ret r'=>
      simp only
      rw[hs]
      exact ihr φ' _ w' S2 hK
     |panic _=>exact uX.elim
    ·cases o with
     |ret r'=>exact uX.elim
     |panic x'=>
      simp only
      rw[hs]
      obtain ⟨v2,hv2,hr2⟩:=uX
      simp only[fJ,PanicEntry.mk.injEq,and_true] at hv2
      subst hv2
      exact ihp φ' _ x' _ w' (S2.Zt hr2) hK
end unw
def Rn (P:Program) (rs:List ResultVar) (V:wM→List AObj→Prop):Option AV→AState→Prop
 |none,σ=> ∃x,F9 P σ rs=some x∧ ∃r H',Ik σ x r H'∧V (.ret r) H'
 |some x,σ=> ∃r H',Ik σ x r H'∧V (.panic r) H'
def gPost (P:Program) (rs:List ResultVar) (V:wM→List AObj→Prop):qG→AState→Prop
 | .normal,σ=>Nq P (Rn P rs V) σ.df none σ
 | .ret,σ=>Nq P (Rn P rs V) σ.df none σ
 | .panic x,σ=>Nq P (Rn P rs V) σ.df (some x) σ
 |_,_=>False
theorem Xg {P:Program} {f:FuncId} {fn:Func} {c:Code} {args:List AV} {H:List AObj} {V:wM→List AObj→Prop} (hf:P.funcs[f]? =some fn) (hb:fn.body=some c) (hne:(fn.name != "runtime.NumGoroutine")=true) (hnb:nbL H.length args)
 (Dz: ∀x∈H,objNb H.length x) {n:Nat} (hn:fn.ntmps=n) {rs:List ResultVar} (Om:fn.results=rs.toArray)
 (h:QB P c (gPost P rs V) {slots:=args++fu (n-args.length) .any,heap:=H,low:=H.length}):QF P f args H V:=by
 refine ⟨?_,hnb,Dz,fun C φ w hP h0 hN0 hφ0 hM HS vs hr=> ?_⟩
 ·unfold enters;rw[hf];simp only[hb,fU,gm];exact hne
 ·subst hP
  refine (callsIn_wide (n:=0)).1 (callsIn_of_wp_marks hf hb trivial ?_)
  have hsz:vs.size=args.length:=by have:=hr.length;simpa using this
  have S:ql C φ {slots:=args++fu (n-args.length) .any,heap:=H,low:=H.length} {tmps:=vs++Array.replicate (fn.ntmps-vs.size) undef,defers:=[]} w:=by
   refine {HS with slots:= ?_,defers:=uT.nil}
   simp only[fL,gh]
   refine hr.append ?_
   rw[hsz,hn]
   have:=nj.Cr (E:=C.env φ H w) (fu (n-args.length) undef)
   simpa using this
  refine wpIn_mono (yw (ro:=none) c _ φ _ _ w (.inl rfl) h S) ?_
  intro e a' w' hq
  have Dt: ∀ {φ':Nat→Value} {σ':AState} {a'':Act} {w'':World},ql C φ' σ' a'' w''→σ'.low=H.length:=fun S'=>by rw[←S'.low.1];exact hN0
  have fin:=ML (C:=C) (tmps:=a'.tmps) (fn:=fn) (R:=fun e w'=> ∃o φ' H',V o H'∧ql C φ' {slots:=[],heap:=H',low:=H.length} {tmps:= #[],defers:=[]} w'∧o.rep (C.env φ' H' w') e) (fin:=Rn C.P rs V)
   (by
     rintro φ' σ' w' S' ⟨x,hx,r,H',hex,hV⟩
     obtain ⟨v,hv,rv⟩:=HD (fn:=fn) S' (by rw[Om];exact hx)
     obtain ⟨φ2,S2,hr2⟩:=hex C φ' _ w' S' v rv
     rw[Dt S'] at S2
     exact ⟨v,hv,.ret r,φ2,H',hV,S2,hr2⟩)
   (by
     rintro φ' σ' x v w' S' hx ⟨r,H',hex,hV⟩
     obtain ⟨φ2,S2,hr2⟩:=hex C φ' _ w' S' v hx
     rw[Dt S'] at S2
     exact ⟨.panic r,φ2,H',hV,S2,v,rfl,hr2⟩) a'.defers
  cases e with
  |normal=>obtain ⟨φ',σ',S',hq⟩:=hq;exact fin.1 φ' σ' w' S' hq
  |ret=>obtain ⟨φ',σ',S',hq⟩:=hq;exact fin.1 φ' σ' w' S' hq
  |exit id=>obtain ⟨_,_,_,hq⟩:=hq;exact hq.elim
  |goto l=>obtain ⟨_,_,_,hq⟩:=hq;exact hq.elim
  |panic chain=>
   obtain ⟨φ',σ',x,v,S',hq,hch,uX⟩:=hq
   subst hch
   exact fin.2 φ' σ' x v w' (ql.Zt (tmps:=a'.tmps) (ds:=a'.defers) S' uX) hq
  |outgrown=>exact hq.elim
def cEnd (P:Program) (rs:List ResultVar) (V:AV→Prop):Option AV→AState→Prop
 |none,σ=>endV V σ.heap (F9 P σ rs)
 |some _,_=>False
def retPostU (P:Program) (rs:List ResultVar) (V:AV→Prop):qG→AState→Prop
 | .normal,σ=>Nq P (cEnd P rs V) σ.df none σ
 | .ret,σ=>Nq P (cEnd P rs V) σ.df none σ
 | .panic x,σ=>Nq P (cEnd P rs V) σ.df (some x) σ
 |_,_=>False
theorem VF {P:Program} {f:FuncId} {fn:Func} {c:Code} {args:List AV} {V:AV→Prop} (hf:P.funcs[f]? =some fn) (hb:fn.body=some c) (hne:(fn.name != "runtime.NumGoroutine")=true) (hnb:nbL 0 args)
 (h:QB P c (retPostU P fn.results.toList V) {slots:=args++fu (fn.ntmps-args.length) .any,heap:=[]}):xY P f args V:=by
 refine ⟨?_,hnb,fun C φ w hP h0 hN hM vs hr=> ?_⟩
 ·unfold enters;rw[hf];simp only[hb,fU,gm];exact hne
 ·subst hP
  refine (callsIn_wide (n:=0)).1 (callsIn_of_wp_marks hf hb trivial ?_)
  have hsz:vs.size=args.length:=by have:=hr.length;simpa using this
  have S:ql C φ {slots:=args++fu (fn.ntmps-args.length) .any,heap:=[]} {tmps:=vs++Array.replicate (fn.ntmps-vs.size) undef,defers:=[]} w:=by
   refine {slots:= ?_,defers:=uT.nil,objs:=by simp,apart:=by simp,vE:=by simp,size:=by rw[h0];exact fy _,old:=fun b o _ _=>by rw[h0],qM:=fun b _ _=>by rw[h0],Be:=by simp,wZ:=fun x _=>by rw[h0],rest:=by rw[h0];exact ⟨rfl,rfl⟩,low:=⟨hN,fy _⟩,names:=fun l hl=>by rw[hN] at hl;exact absurd hl (fR _)}
   simp only[fL,gh]
   refine hr.append ?_
   rw[hsz]
   have:=nj.Cr (E:=C.env φ [] w) (fu (fn.ntmps-args.length) undef)
   simpa using this
  refine wpIn_mono (yw (ro:=none) c _ φ _ _ w (.inl rfl) h S) ?_
  intro e a' w' hq
  have fin:=ML (C:=C) (tmps:=a'.tmps) (fn:=fn) (R:=fun e w'=> ∃r v φ',V r∧e= .returned v∧rE (C.env φ' [] w') r v∧w.heap.size≤w'.heap.size∧(∀b,b<w.heap.size→w'.heap[b]? =w.heap[b]?)∧
        (∀x,x.block<w.heap.size→w'.frozen? x=w.frozen? x)∧w'.output=w.output∧w'.os=w.os) (fin:=cEnd C.P fn.results.toList V)
   (by
     intro φ' σ' w' S' hend
     simp only[cEnd] at hend
     cases hx:F9 C.P σ' fn.results.toList with
     |none=>rw[hx] at hend;exact hend.elim
     |some x=>
     rw[hx] at hend
     obtain ⟨hn,r0,hsub,hV⟩:=hend
     obtain ⟨v,hv,rv⟩:=HD S' hx
     refine ⟨v,hv,_,v,φ',hV,rfl,hsub _ _ (by have:=Of S' (S'.drops (by rw[←S'.low.1];exact hN)) x v;rw[←S'.low.1,hN] at this;exact this hn rv),?_,?_,?_,?_⟩
     ·rw[←h0];exact S'.size
     ·intro b hb;rw[←h0];exact S'.qM b (by rw[h0];exact hb) (fun o=>hM b o)
     ·intro y hy;rw[←h0];exact S'.wZ y (by rw[h0];exact hy)
     ·rw[←h0];exact S'.rest)
   (by
     intro φ' σ' x v w' S' hx hend
     exact hend.elim) a'.defers
  cases e with
  |normal=>obtain ⟨φ',σ',S',hq⟩:=hq;exact fin.1 φ' σ' w' S' hq
  |ret=>obtain ⟨φ',σ',S',hq⟩:=hq;exact fin.1 φ' σ' w' S' hq
  |exit id=>obtain ⟨_,_,_,hq⟩:=hq;exact hq.elim
  |goto l=>obtain ⟨_,_,_,hq⟩:=hq;exact hq.elim
  |panic chain=>
   obtain ⟨φ',σ',x,v,S',hq,hch,uX⟩:=hq
   subst hch
   exact fin.2 φ' σ' x v w' (ql.Zt (tmps:=a'.tmps) (ds:=a'.defers) S' uX) hq
  |outgrown=>exact hq.elim
attribute [go_sem] AV.ren renL BA AObj.ren wM.ren qu vI tP outX gPost
end Go.Abs
namespace Go.Abs
def Kd:List AV→List Tmp→List AV→List AV
 |s,p::ps,x::xs=>Kd (s.set p x) ps xs
 |s,_,_=>s
theorem UF {E:Env}: ∀ {ps:List Tmp} {xs:List AV} {vs:List Value} {s:List AV} {t:Array Value},nj E xs vs→nj E s t.toList→
 nj E (Kd s ps xs) ((ps.zip vs).foldl (fun t (p:Tmp×Value)=>t.setIfInBounds p.1 p.2) t).toList
 |[],_,_,_,_,_,h=>by simpa [Kd] using h
 |_::_,[],_,_,_,rfl,h=>by simpa [Kd] using h
 |p::ps,x::xs,_,s,t,⟨u,us,rfl,r1,r2⟩,h=>by
  simp only[Kd,List.zip_cons_cons,List.foldl_cons]
  refine UF r2 ?_
  have:=h.set (i:=p) r1
  simpa [Array.toList_setIfInBounds] using this
def Ro:qG→Option (Option Code)
 | .normal=>some none
 | .ret=>some (some .ret)
 | .exit id=>some (some (.exit id))
 |_=>none
def rPost (V:wM→List AObj→Prop) (e:qG) (σ:AState):Prop:=
 ∃j k s,Ro e=some (sQ k.js j)∧σ.heap[0]? =some (.loop k s .busy 0)∧ ∃r H',Ik {σ with heap:=σ.heap.set 0 (.loop k s (stP (sQ k.js j)) j)} (.bool (sQ k.js j).isNone) r H'∧V (.ret r) H'
theorem VG {P:Program} {k:xR} {slots args:List AV} {H:List AObj} {V:wM→List AObj→Prop} (hH:H[0]? =some (.loop k slots .ready 0))
 (hnb:nbL H.length args) (Dz: ∀x∈H,objNb H.length x) (hn:xA k.assign=true∧xA k.body=true)
 (h:QB P k.assign (qG.then (fun σ1=> ∃k1 s1,σ1.heap[0]? =some (.loop k1 s1 .ready 0)∧QB P k.body (rPost V) {σ1 with heap:=σ1.heap.set 0 (.loop k1 s1 .busy 0)}) (fun _ _=>False))
   {slots:=Kd slots k.ps.toList args,heap:=H,low:=H.length}):Xb P (MH P) args H V:=by
 refine ⟨hnb,Dz,fun C φ w hP h0 hN hφ0 hM HS vs hr D rec hφ hw=> ?_⟩
 subst hP
 have hpos:0<H.length:=(fk.1 hH).1
 have hstay: ∀ {φ':Nat→Value} {σ':AState} {a':Act} {w':World},ql C φ' σ' a' w'→φ' 0= .func (.yield (D+1)) #[] #[]:=by
  intro φ' σ' a' w' S'
  rcases S'.names 0 (by omega) with ⟨h1,_⟩|⟨⟨n,h1,_⟩,_⟩
  ·rw[h1,(hφ0 0 hpos).1];exact hφ
  ·rw[(hφ0 0 hpos).2,hH] at h1;cases h1
 have Dt: ∀ {φ':Nat→Value} {σ':AState} {a':Act} {w':World},ql C φ' σ' a' w'→σ'.low=H.length:=fun S'=>by rw[←S'.low.1];exact hN
 have Dv: ∀ {φ':Nat→Value} {σ':AState} {a':Act} {w':World} {k:xR} {s:List AV} {st:LoopState} {c:Int},ql C φ' σ' a' w'→σ'.heap[0]? =some (.loop k s st c)→
  ∃KF,w'.heap[D+1]? =some (.loop KF)∧(KF.params=k.ps∧KF.assign=k.assign∧KF.body=k.body∧KF.state=st∧KF.pending=sQ k.js c∧KF.defers=D)∧nj (C.env φ' σ'.heap w') s KF.tmps.toList:=by
  intro φ' σ' a' w' k s st c S' h0
  obtain ⟨D',KF,e1,g1,g2,g3,rl⟩:=S'.objs 0 _ h0
  rw[hstay S'] at e1
  simp only[Value.func.injEq,Fn.yield.injEq,Nat.add_right_cancel_iff,and_true] at e1
  subst e1
  exact ⟨KF,g1,g3,rl⟩
 obtain ⟨rec0,g1,g3,rl⟩:=Dv HS hH
 rw[hw] at g1;cases g1
 rw[g3.1,g3.2.1,g3.2.2.1]
 refine roundIn_of_wpIn (F:=fO) trivial ?_
 have S:ql C φ {slots:=Kd slots k.ps.toList args,heap:=H,low:=H.length} {tmps:=(k.ps.zip vs).foldl (fun tmps (t,a)=>tmps.setIfInBounds t a) rec.tmps,defers:=[]} w:=by
  refine {HS with slots:= ?_,defers:=uT.nil}
  have:=UF (ps:=k.ps.toList) hr rl
  simpa only[←Array.foldl_toList,Array.toList_zip] using this
 refine wpIn_mono (yw (ro:=some (D+1)) k.assign _ φ _ _ w (.inr hn.1) h S) ?_
 intro e a1 w1 hq
 cases e with
 |exit id=>obtain ⟨_,_,_,hq⟩:=hq;exact hq.elim
 |goto l=>obtain ⟨_,_,_,hq⟩:=hq;exact hq.elim
 |ret=>obtain ⟨_,_,_,hq⟩:=hq;exact hq.elim
 |panic ch=>obtain ⟨_,_,_,_,_,hq,_⟩:=hq;exact hq.elim
 |outgrown=>exact hq.elim
 |normal=>
  obtain ⟨φ1,σ1,S1,k1,s1,hH1,hbody⟩:=hq
  obtain ⟨rec1,kk,k3,_⟩:=Dv S1 hH1
  refine ⟨_,run_beginRound kk k3.2.2.2.1,?_⟩
  have S2:=S1.VA (st':= .busy) (Fl:=0) hH1 (hstay S1) kk
  have e2:({rec1 with state:= .busy,pending:=sQ k1.js 0}:Loop)={rec1 with state:= .busy}:=by
   rw[←k3.2.2.2.2.1]
  rw[e2] at S2
  refine wpIn_mono (yw (ro:=some (D+1)) k.body _ _ _ _ _ (.inr hn.2) hbody S2) ?_
  have fin: ∀ (e:qG) (c:Option Code) (φ2:Nat→Value) (σ2:AState) (a2:Act) (w3:World),Ro e=some c→ql C φ2 σ2 a2 w3→rPost V e σ2→
   ∃v w',(Instr.endRound (D+1) c).run C.P w3= .ok v w'∧ ∃o φ' H',V o H'∧ql C φ' {slots:=[],heap:=H',low:=H.length} {tmps:= #[],defers:=[]} w'∧o.rep (C.env φ' H' w') (.returned v):=by
   rintro e c φ2 σ2 a2 w3 hj S3 ⟨j,k2,s2,hj',hH2,r,H',hex,hV⟩
   rw[hj] at hj'
   obtain rfl:c=sQ k2.js j:=gw hj'
   obtain ⟨rec2,m1,m3,_⟩:=Dv S3 hH2
   have S4:=S3.VA (st':=stP (sQ k2.js j)) (Fl:=j) hH2 (hstay S3) m1
   have hend:=run_endRound (P:=C.P) (sQ k2.js j) m1
   have est:(if (sQ k2.js j).isNone then LoopState.ready else .done)=stP (sQ k2.js j):=by cases sQ k2.js j<;>rfl
   rw[est] at hend
   obtain ⟨φ5,S5,hr5⟩:=hex C φ2 a2 _ S4 (.bool (sQ k2.js j).isNone) rfl
   rw[show σ2.low=H.length from Dt S3] at S5
   exact ⟨_,_,hend,.ret r,φ5,H',hV,S5,hr5⟩
  intro e a2 w3 hq
  cases e with
  |normal=>obtain ⟨φ2,σ2,S3,hq⟩:=hq;exact fin .normal none φ2 σ2 a2 w3 rfl S3 hq
  |ret=>obtain ⟨φ2,σ2,S3,hq⟩:=hq;exact fin .ret _ φ2 σ2 a2 w3 rfl S3 hq
  |exit id=>obtain ⟨φ2,σ2,S3,hq⟩:=hq;exact fin (.exit id) _ φ2 σ2 a2 w3 rfl S3 hq
  |goto l=>obtain ⟨_,_,_,_,_,_,hq,_⟩:=hq;cases hq
  |panic ch=>obtain ⟨_,_,_,_,_,⟨_,_,_,hq,_⟩,_⟩:=hq;cases hq
  |outgrown=>exact hq.elim
end Go.Abs
namespace Go.Abs
def child:Nat→Code→Code
 |0,.seq x _=>x
 |1,.seq _ y=>y
 |0,.cond _ x _=>x
 |1,.cond _ _ y=>y
 |0,.block _ x=>x
 |0,.loop x=>x
 |0,.scope x=>x
 |_,_=> .skip
def sub:List Nat→Code→Code
 |[],c=>c
 |d::p,c=>child d (sub p c)
inductive Kt where
 |at (p:List Nat)
 |cut (p:List Nat)
 |ops (ops:Array Oper) (rest:List Oper)
 |GF (p:List Nat) (rest:List Oper) (j:Nat) (tr:List Tr)
 |q9 (id:Nat)
 |lp (m:Nat) (p:List Nat)
 |lq (m:Nat) (p:List Nat)
 |rb
 |rd
def Zu (σ:AState):Option AObj→Option AState
 |some (.loop k s .ready 0)=>some {σ with heap:=σ.heap.set 0 (.loop k s .busy 0)}
 |_=>none
def On (σ:AState):Option AState:=Zu σ σ.heap[0]?
section
variable {R:Type}
def Zv:Code→Array Oper
 | .region _ ops _=>ops
 |_=> #[]
def tM (M:Mach R) (p:List Nat):Array Oper:=Zv (sub p M.body)
noncomputable def yF (M:Mach R):Kt→AState→Option (qG×AState)
 | .at p,σ=>exec M (sub p M.body) p σ
 | .cut p,σ=>(M.cut p σ).map fun σ'=>(.normal,σ')
 | .ops ops rest,σ=>vO M ops rest σ
 | .GF p rest j tr,σ=>Dy M (tM M p) rest j tr σ
 | .q9 _,σ=>some (.normal,σ)
 | .lp m p,σ=>(M.qR p σ).bind (lqN (M.qR p) (exec M (sub (0::p) M.body) (0::p)) m)
 | .lq m p,σ=>lqN (M.qR p) (exec M (sub (0::p) M.body) (0::p)) m σ
 | .rb,σ=>(On σ).map fun σ'=>(.normal,σ')
 | .rd,_=>none
noncomputable def fin (M:Mach R):List Kt→qG→AState→Option R
 |[],.normal,σ=>M.out σ
 |[],.ret,σ=>M.out σ
 |[],.panic x,σ=>M.xT x σ
 |[],_,_=>none
 | .rd::_,e,σ=>M.pS e σ
 | .q9 id::k,.exit id',σ=>if id'=id then fin M k .normal σ else fin M k (.exit id') σ
 |x::k,.normal,σ=>match yF M x σ with
  |some (e,σ')=>fin M k e σ'
  |none=>none
 |_::k,e,σ=>fin M k e σ
noncomputable def run (M:Mach R) (k:List Kt) (σ:AState):Option R:=fin M k .normal σ
variable {M:Mach R} {k:List Kt} {σ:AState}
theorem run_nil:run M [] σ=M.out σ:=rfl
theorem run_blk {id:Nat}:run M (.q9 id::k) σ=run M k σ:=rfl
theorem sw {x:Kt} (h: ∀id,x≠ .q9 id) (h2:x≠ .rd:=by simp):fin M (x::k) .normal σ=match yF M x σ with
 |some (e,σ')=>fin M k e σ'
 |none=>none:=by
 cases x<;>first|rfl|exact absurd rfl (h _)|exact absurd rfl h2
theorem Xh {ops:Array Oper}:run M (.ops ops []::k) σ=run M k σ:=rfl
theorem VH {p:List Nat} {j:Nat} {tr:List Tr}:run M (.GF p [] j tr::k) σ=run M k σ:=rfl
def behind (id:Nat):List Kt→Option (List Kt)
 |[]=>none
 | .q9 id'::k=>if id=id' then some k else behind id k
 | .rd::_=>none
 |_::k=>behind id k
def isRd:Kt→Bool
 | .rd=>true
 |_=>false
def Xi:List Kt→Bool
 |[]=>false
 |x::k=>isRd x||Xi k
theorem Cv {id:Nat}: ∀ {k k':List Kt},behind id k=some k'→fin M k (.exit id) σ=run M k' σ
 |[],_,h=>by simp [behind] at h
 | .q9 id'::k,k',h=>by
   simp only[behind] at h
   split at h
   ·rename_i e
    cases h
    subst e
    simp only[fin,if_true];rfl
   ·rename_i e
    simp only[fin,e,if_false]
    exact Cv h
 | .at _::k,k',h=>Cv (k:=k) (by simpa [behind] using h)
 | .cut _::k,k',h=>Cv (k:=k) (by simpa [behind] using h)
 | .ops _ _::k,k',h=>Cv (k:=k) (by simpa [behind] using h)
 | .GF _ _ _ _::k,k',h=>Cv (k:=k) (by simpa [behind] using h)
 | .lp _ _::k,k',h=>Cv (k:=k) (by simpa [behind] using h)
 | .lq _ _::k,k',h=>Cv (k:=k) (by simpa [behind] using h)
 | .rb::k,k',h=>Cv (k:=k) (by simpa [behind] using h)
 | .rd::k,k',h=>by simp [behind] at h
theorem Cw {id:Nat}: ∀ {k:List Kt},behind id k=none→fin M k (.exit id) σ=bif Xi k then M.pS (.exit id) σ else none
 |[],_=>rfl
 | .q9 id'::k,h=>by
   simp only[behind] at h
   split at h
   ·cases h
   ·rename_i e
    simp only[fin,e,if_false]
    exact Cw h
 | .rb::k,h=>Cw (k:=k) (by simpa [behind] using h)
 | .rd::k,h=>rfl
 | .at _::k,h=>Cw (k:=k) (by simpa [behind] using h)
 | .cut _::k,h=>Cw (k:=k) (by simpa [behind] using h)
 | .ops _ _::k,h=>Cw (k:=k) (by simpa [behind] using h)
 | .GF _ _ _ _::k,h=>Cw (k:=k) (by simpa [behind] using h)
 | .lp _ _::k,h=>Cw (k:=k) (by simpa [behind] using h)
 | .lq _ _::k,h=>Cw (k:=k) (by simpa [behind] using h)
theorem E3: ∀ {k:List Kt},fin M k .ret σ=bif Xi k then M.pS .ret σ else M.out σ
 |[]=>rfl
 | .rb::k=>E3 (k:=k)
 | .rd::k=>rfl
 | .q9 _::k=>E3 (k:=k)
 | .at _::k=>E3 (k:=k)
 | .cut _::k=>E3 (k:=k)
 | .ops _ _::k=>E3 (k:=k)
 | .GF _ _ _ _::k=>E3 (k:=k)
 | .lp _ _::k=>E3 (k:=k)
 | .lq _ _::k=>E3 (k:=k)
noncomputable def Xj (M:Mach R) (x:AV) (σ:AState) (k:List Kt):Option R:=bif Xi k then M.pS (.panic x) σ else M.xT x σ
theorem z7 {x:AV}: ∀ {k:List Kt},fin M k (.panic x) σ=Xj M x σ k
 |[]=>rfl
 | .rb::k=>z7 (k:=k)
 | .rd::k=>rfl
 | .q9 _::k=>z7 (k:=k)
 | .at _::k=>z7 (k:=k)
 | .cut _::k=>z7 (k:=k)
 | .ops _ _::k=>z7 (k:=k)
 | .GF _ _ _ _::k=>z7 (k:=k)
 | .lp _ _::k=>z7 (k:=k)
 | .lq _ _::k=>z7 (k:=k)
noncomputable def UG (M:Mach R) (σ:AState) (id:Nat) (k:List Kt):Option (List Kt)→Option R
 |some k=>run M k σ
 |none=>bif Xi k then M.pS (.exit id) σ else none
theorem Zw {id:Nat} {k k':List Kt}:UG M σ id k (some k')=run M k' σ:=rfl
theorem Zx {id:Nat} {k:List Kt}:UG M σ id k none=bif Xi k then M.pS (.exit id) σ else none:=rfl
noncomputable def retK (M:Mach R) (σ:AState) (k:List Kt):Option R:=bif Xi k then M.pS .ret σ else M.out σ
noncomputable def KG (M:Mach R) (k:List Kt) (σ:AState):Option Code→Option R
 |none=>run M k σ
 |some .ret=>retK M σ k
 |some (.exit id)=>UG M σ id k (behind id k)
 |_=>none
noncomputable def Oo (M:Mach R) (k:List Kt) (σ:AState) (H':List AObj):Option AObj→Option R
 |some (.loop lk _ st uW)=>pcond (st=stP (sQ lk.js uW)) (KG M k {σ with heap:=H'.set σ.heap.length .dead} (sQ lk.js uW))
 |_=>none
noncomputable def Il (M:Mach R) (k:List Kt) (σ:AState):Option (AV×List AObj)→Option R
 |some (_,H')=>Oo M k σ H' H'[σ.heap.length]?
 |none=>none
noncomputable def stepR (M:Mach R) (lk:xR) (k:List Kt) (σ:AState):AV→Option R
 | .func (.func f) first cap=>Il M k σ (M.cl f (first++[.map σ.heap.length]++cap) (σ.heap++[.loop lk σ.slots .ready 0]))
 |_=>none
theorem Zy:KG M k σ none=run M k σ:=rfl
theorem stepJ_ret:KG M k σ (some .ret)=retK M σ k:=rfl
theorem Zz {id:Nat}:KG M k σ (some (.exit id))=UG M σ id k (behind id k):=rfl
theorem ZA {b:Bool} {x y:Option Code}:KG M k σ (bif b then x else y)=bif b then KG M k σ x else KG M k σ y:=by cases b<;>rfl
theorem Pv {H':List AObj} {lk:xR} {s:List AV} {st:LoopState} {uW:Int}:Oo M k σ H' (some (.loop lk s st uW))=pcond (st=stP (sQ lk.js uW)) (KG M k {σ with heap:=H'.set σ.heap.length .dead} (sQ lk.js uW)):=rfl
theorem Xk {r:AV} {H':List AObj}:Il M k σ (some (r,H'))=Oo M k σ H' H'[σ.heap.length]? :=rfl
theorem Xl:Il M k σ none=none:=rfl
theorem Xm {α:Type} {o:Option α} {f:α→Option (AV×List AObj)}:Il M k σ (o.bind f)=o.bind fun x=>Il M k σ (f x):=by cases o<;>rfl
theorem Xn {b:Bool} {x y:Option (AV×List AObj)}:Il M k σ (bif b then x else y)=bif b then Il M k σ x else Il M k σ y:=by cases b<;>rfl
theorem ZB {lk:xR} {f:FuncId} {first cap:List AV}:stepR M lk k σ (.func (.func f) first cap)=Il M k σ (M.cl f (first++[.map σ.heap.length]++cap) (σ.heap++[.loop lk σ.slots .ready 0])):=rfl
noncomputable def Oq (M:Mach R) (c:Operand) (p:List Nat) (k:List Kt) (σ:AState):AV→Option R
 | .bool b=>bif b then run M (.at (0::p)::k) (Rh c true σ) else run M (.at (1::p)::k) (Rh c false σ)
 |_=>none
theorem Xo {c:Operand} {p:List Nat}:Oq M c p k σ (.bool true)=run M (.at (0::p)::k) (Rh c true σ):=rfl
theorem VI {c:Operand} {p:List Nat}:Oq M c p k σ (.bool false)=run M (.at (1::p)::k) (Rh c false σ):=rfl
theorem ZC {c:Operand} {p:List Nat} {b:Bool}:Oq M c p k σ (.bool b)=bif b then run M (.at (0::p)::k) (Rh c true σ) else run M (.at (1::p)::k) (Rh c false σ):=rfl
def wH (M:Mach R) (p:List Nat):Bool:=
 match sub p M.body with
 | .region _ ops _=>CW ops
 |_=>false
def lkAt (js:List (Int×Code)):Code→xR
 | .rangeFunc _ ps as body=>⟨ps,as,body,js⟩
 |_=>⟨#[],.skip,.skip,[]⟩
def lkM (M:Mach R) (p:List Nat):xR:=lkAt (M.js p) (sub p M.body)
noncomputable def BD (M:Mach R) (p:List Nat) (k:List Kt) (σ:AState):Code→Option R
 | .skip=>run M k σ
 | .region _ ops false=>run M (.ops ops ops.toList::k) σ
 | .region _ ops true=>pcond (M.P.follows .mixedOrders=true∧wH M p=true) (run M (.GF p ops.toList 0 []::k) σ)
 | .seq _ _=>run M (.at (0::p):: .cut (1::p):: .at (1::p)::k) σ
 | .cond c _ _=>Oq M c p k σ (σ.ev c)
 | .block id _=>run M (.at (0::p):: .q9 id::k) σ
 | .loop _=>run M (.lp M.n p::k) σ
 | .exit id=>UG M σ id k (behind id k)
 | .scope _=>run M (.at (0::p)::k) σ
 | .label _=>run M k σ
 | .ret=>retK M σ k
 | .rangeFunc g _ _ _=>stepR M (lkM M p) k σ (σ.ev g)
 |_=>none
theorem fin_block {id:Nat} {e:qG}:fin M (.q9 id::k) e σ=match (match e with
 | .exit id'=>if id'=id then (qG.normal,σ) else (.exit id',σ)
 |e=>(e,σ)) with
 |(e,σ)=>fin M k e σ:=by
 cases e with
 |exit id'=>
  simp only[fin]
  split<;>rfl
 |_=>rfl
theorem Rp {x:Kt} {e:qG} (h: ∀id,x≠ .q9 id) (he:e≠ .normal) (h2:x≠ .rd:=by simp):fin M (x::k) e σ=fin M k e σ:=by
 cases x<;>cases e<;>first|rfl|exact absurd rfl (h _)|exact absurd rfl he|exact absurd rfl h2
theorem run_at {p:List Nat}:run M (.at p::k) σ=BD M p k σ (sub p M.body):=by
 show fin M (.at p::k) .normal σ=_
 rw[sw (by simp)]
 simp only[yF]
 cases hc:sub p M.body with
 |skip=>rfl
 |region id ops b=>
  cases b with
  |false=>
   simp only[exec,BD]
   show _=fin M (.ops ops ops.toList::k) .normal σ
   rw[sw (by simp)]
   simp only[yF]
  |true=>
   simp only[exec,BD]
   show _=pcond _ (fin M (.GF p ops.toList 0 []::k) .normal σ)
   rw[sw (by simp)]
   simp only[yF]
   have hd:wH M p=CW ops:=by simp only[wH,hc]
   have ho:tM M p=ops:=by simp only[tM,hc,Zv]
   rw[hd,ho]
   by_cases hp:M.P.follows .mixedOrders=true∧CW ops=true
   ·simp only[pcond,if_pos hp]
   ·simp only[pcond,if_neg hp]
 |seq x y=>
  simp only[exec,BD]
  show _=fin M (.at (0::p):: .cut (1::p):: .at (1::p)::k) .normal σ
  rw[sw (by simp)]
  have h0:sub (0::p) M.body=x:=by simp [sub,hc,child]
  have h1:sub (1::p) M.body=y:=by simp [sub,hc,child]
  simp only[yF,h0]
  cases hx:exec M x (0::p) σ with
  |none=>rfl
  |some r=>
   obtain ⟨e1,σ1⟩:=r
   cases e1 with
   |normal=>
    simp only
    rw[sw (by simp)]
    simp only[yF]
    cases hcut:M.cut (1::p) σ1 with
    |none=>rfl
    |some σ2=>
     simp only[fF,gb]
     rw[sw (by simp)]
     simp only[yF,h1]
   |_=>
    simp only
    rw[Rp (by simp) (by simp),Rp (by simp) (by simp)]
 |cond c x y=>
  simp only[exec,BD]
  have h0:sub (0::p) M.body=x:=by simp [sub,hc,child]
  have h1:sub (1::p) M.body=y:=by simp [sub,hc,child]
  cases hv:σ.ev c with
  |bool b=>
   simp only[Oq]
   cases b with
   |true=>
    simp only[cond_true]
    show _=fin M (.at (0::p)::k) .normal _
    rw[sw (by simp)]
    simp only[yF,h0]
   |false=>
    simp only[cond_false]
    show _=fin M (.at (1::p)::k) .normal _
    rw[sw (by simp)]
    simp only[yF,h1]
  |_=>rfl
 |block id x=>
  simp only[exec,BD]
  have h0:sub (0::p) M.body=x:=by simp [sub,hc,child]
  show _=fin M (.at (0::p):: .q9 id::k) .normal σ
  rw[sw (by simp)]
  simp only[yF,h0]
  cases hx:exec M x (0::p) σ with
  |none=>rfl
  |some r=>
   obtain ⟨e1,σ1⟩:=r
   simp only
   rw[fin_block]
   cases e1 with
   |exit id'=>
    by_cases he:id'=id
    ·simp only[he,if_true]
    ·simp only[he,if_false]
   |_=>rfl
 |loop x=>
  simp only[exec,BD]
  have h0:sub (0::p) M.body=x:=by simp [sub,hc,child]
  show _=fin M (.lp M.n p::k) .normal σ
  rw[sw (by simp)]
  simp only[yF,h0]
 |exit id=>
  simp only[exec,BD]
  cases hb:behind id k with
  |none=>exact Cw hb
  |some k'=>exact Cv hb
 |scope x=>
  simp only[exec,BD]
  have h0:sub (0::p) M.body=x:=by simp [sub,hc,child]
  show _=fin M (.at (0::p)::k) .normal σ
  rw[sw (by simp)]
  simp only[yF,h0]
 |label l=>rfl
 |ret=>exact E3
 |goto l=>rfl
 |rangeFunc g ps as body=>
  have hlk:lkM M p=⟨ps,as,body,M.js p⟩:=by simp only[lkM,hc,lkAt]
  simp only[exec,BD,hlk]
  cases hv:σ.ev g with
  |func fn first cap=>
   cases fn with
   |func f=>
    simp only[rngX,stepR]
    cases Vk:M.cl f (first++[.map σ.heap.length]++cap) (σ.heap++[.loop ⟨ps,as,body,M.js p⟩ σ.slots .ready 0]) with
    |none=>rfl
    |some q=>
     obtain ⟨r,H'⟩:=q
     simp only[Il]
     cases hH:H'[σ.heap.length]? with
     |none=>rfl
     |some x=>
      cases x with
      |loop lk s st uW=>
       simp only[endX,Oo]
       by_cases hst:st=stP (sQ lk.js uW)
       ·simp only[pcond,if_pos hst]
        generalize sQ lk.js uW=pc
        cases pc with
        |none=>rfl
        |some c=>
         cases c with
         |ret=>exact E3
         |exit id=>
          simp only[Xa,KG]
          cases hb:behind id k with
          |none=>exact Cw hb
          |some k'=>exact Cv hb
         |_=>rfl
       ·simp only[pcond,if_neg hst]
      |_=>rfl
   |_=>rfl
  |_=>rfl
 |refuse s=>rfl
theorem ZD {p:List Nat}:BD M p k σ .skip=run M k σ:=rfl
theorem VJ {p:List Nat} {id:Nat} {ops:Array Oper}:BD M p k σ (.region id ops false)=run M (.ops ops ops.toList::k) σ:=rfl
theorem ZE {p:List Nat} {id:Nat} {ops:Array Oper}:BD M p k σ (.region id ops true)=pcond (M.P.follows .mixedOrders=true) (pcond (wH M p=true) (run M (.GF p ops.toList 0 []::k) σ)):=by
 rw[←I6];rfl
theorem stepN_seq {p:List Nat} {x y:Code}:BD M p k σ (.seq x y)=run M (.at (0::p):: .cut (1::p):: .at (1::p)::k) σ:=rfl
theorem ZF {p:List Nat} {c:Operand} {x y:Code}:BD M p k σ (.cond c x y)=Oq M c p k σ (σ.ev c):=rfl
theorem Xp {p:List Nat} {id:Nat} {x:Code}:BD M p k σ (.block id x)=run M (.at (0::p):: .q9 id::k) σ:=rfl
theorem ZG {p:List Nat} {x:Code}:BD M p k σ (.loop x)=run M (.lp M.n p::k) σ:=rfl
theorem ZH {p:List Nat} {id:Nat}:BD M p k σ (.exit id)=UG M σ id k (behind id k):=rfl
theorem Xq {p:List Nat} {g:Operand} {ps:Array Tmp} {as body:Code}:BD M p k σ (.rangeFunc g ps as body)=stepR M (lkM M p) k σ (σ.ev g):=rfl
theorem Xr {p:List Nat} {x:Code}:BD M p k σ (.scope x)=run M (.at (0::p)::k) σ:=rfl
theorem Xs {p:List Nat} {l:Nat}:BD M p k σ (.label l)=run M k σ:=rfl
theorem stepN_ret {p:List Nat}:BD M p k σ .ret=retK M σ k:=rfl
theorem run_rb:run M (.rb::k) σ=(On σ).bind fun σ'=>run M k σ':=by
 show fin M (.rb::k) .normal σ=_
 rw[sw (by simp)]
 simp only[yF]
 cases On σ<;>rfl
theorem run_rd:run M (.rd::k) σ=M.pS .normal σ:=rfl
theorem run_cut {p:List Nat}:run M (.cut p::k) σ=(M.cut p σ).bind fun σ'=>run M k σ':=by
 show fin M (.cut p::k) .normal σ=_
 rw[sw (by simp)]
 simp only[yF]
 cases M.cut p σ<;>rfl
theorem run_lp {m:Nat} {p:List Nat}:run M (.lp m p::k) σ=(M.qR p σ).bind fun σ'=>run M (.lq m p::k) σ':=by
 show fin M (.lp m p::k) .normal σ=_
 rw[sw (by simp)]
 simp only[yF]
 cases h:M.qR p σ with
 |none=>rfl
 |some σ'=>
  simp only[fF]
  show _=fin M (.lq m p::k) .normal σ'
  rw[sw (by simp)]
  simp only[yF]
theorem nK {p:List Nat}:run M (.lq 0 p::k) σ=none:=by
 show fin M (.lq 0 p::k) .normal σ=_
 rw[sw (by simp)]
 simp only[yF,lqN]
theorem nL {m:Nat} {p:List Nat}:run M (.lq (m+1) p::k) σ=run M (.at (0::p):: .lp m p::k) σ:=by
 show fin M (.lq (m+1) p::k) .normal σ=fin M (.at (0::p):: .lp m p::k) .normal σ
 rw[sw (by simp),sw (by simp)]
 simp only[yF,lqN]
 cases hx:exec M (sub (0::p) M.body) (0::p) σ with
 |none=>rfl
 |some r=>
  obtain ⟨e1,σ1⟩:=r
  cases e1 with
  |normal=>
   simp only
   rw[sw (by simp)]
   simp only[yF]
  |_=>
   simp only
   rw[Rp (by simp) (by simp)]
noncomputable def sJ (M:Mach R) (ops:Array Oper) (dst:Option Tmp) (rest:List Oper) (k:List Kt) (σ:AState):Option wL→Option R
 |some e=>pcond e.pre (run M (.ops ops rest::k) (σ.app dst e))
 |none=>none
noncomputable def GG (M:Mach R) (ops:Array Oper) (dst:Option Tmp) (rest:List Oper) (k:List Kt) (σ:AState):Option (AV×List AObj)→Option R
 |some (r,H')=>run M (.ops ops rest::k) (AState.put {σ with heap:=H'} dst r)
 |none=>none
noncomputable def Gb (M:Mach R) (ops:Array Oper) (dst:Option Tmp) (rest:List Oper) (k:List Kt) (σ:AState):Option (wM×List AObj)→Option R
 |some (.ret r,H')=>run M (.ops ops rest::k) (AState.put {σ with heap:=H'} dst r)
 |some (.panic x,H')=>Xj M x {σ with heap:=H'} k
 |none=>none
noncomputable def Xt (M:Mach R) (ops:Array Oper) (dst:Option Tmp) (rest:List Oper) (k:List Kt) (σ:AState):Option (FuncId×List AV)→Option R
 |some p=>run M (.ops ops rest::k) (σ.dfr p dst)
 |none=>none
noncomputable def Xu (M:Mach R) (k:List Kt) (σ:AState):Option AV→Option R
 |some x=>Xj M x σ k
 |none=>none
noncomputable def uo (M:Mach R) (ops:Array Oper) (dst:Option Tmp) (rest:List Oper) (k:List Kt) (σ:AState):Op→Option R
 | .defer c=>Xt M ops dst rest k σ (AB σ (.defer c))
 | .panic x=>Xu M k σ (F8 σ (.panic x))
 |o=>sJ M ops dst rest k σ (n6 M.P σ o)
noncomputable def UH (M:Mach R) (ops:Array Oper) (o:Oper) (rest:List Oper) (k:List Kt) (σ:AState):Option (Nat×List AV)→Option R
 |some (l,args)=>GG M ops o.dst rest k σ (M.cy l args σ.heap)
 |none=>uo M ops o.dst rest k σ o.op
noncomputable def Rq (M:Mach R) (ops:Array Oper) (o:Oper) (rest:List Oper) (k:List Kt) (σ:AState):Option (FuncId×List AV)→Option R
 |some (f,args)=>bif M.q6 f then Gb M ops o.dst rest k σ (M.cp f args σ.heap) else GG M ops o.dst rest k σ (M.cl f args σ.heap)
 |none=>UH M ops o rest k σ (yieldOf σ o.op)
noncomputable def Xv (M:Mach R) (ops:Array Oper) (o:Oper) (rest:List Oper) (k:List Kt) (σ:AState):Option Bool→Option R
 |none=>none
 |some b=>bif b then Rq M ops o rest k (uH ops o true σ) (qn (uH ops o true σ) o.op) else run M (.ops ops rest::k) ((uH ops o false σ).put o.dst (.raw undef))
theorem run_ops {ops:Array Oper} {o:Oper} {rest:List Oper}:run M (.ops ops (o::rest)::k) σ=Xv M ops o rest k σ (sH ops o σ):=by
 have hr: ∀σ,run M (.ops ops rest::k) σ=match vO M ops rest σ with|some (e,σ')=>fin M k e σ'|none=>none:=by
  intro σ
  show fin M (.ops ops rest::k) .normal σ=_
  rw[sw (by simp)]
  simp only[yF]
 have hl:run M (.ops ops (o::rest)::k) σ=match vO M ops (o::rest) σ with|some (e,σ')=>fin M k e σ'|none=>none:=by
  show fin M (.ops ops (o::rest)::k) .normal σ=_
  rw[sw (by simp)]
  simp only[yF]
 rw[hl]
 simp only[vO]
 cases hw:sH ops o σ with
 |none=>rfl
 |some b=>
  simp only[Xv]
  cases b with
  |false=>simp only[cond_false,hr]
  |true=>
   simp only[cond_true]
   cases hc:qn (uH ops o true σ) o.op with
   |some q=>
    obtain ⟨f,args⟩:=q
    simp only[Rq]
    cases hi:M.q6 f with
    |true=>
     simp only[cond_true]
     cases ha:M.cp f args (uH ops o true σ).heap with
     |none=>simp only[Gb]
     |some q=>
      obtain ⟨r,H'⟩:=q
      cases r with
      |ret r=>simp only[Gb,hr]
      |panic x=>simp only[Gb,z7]
    |false=>
     simp only[cond_false]
     cases ha:M.cl f args (uH ops o true σ).heap with
     |none=>simp only[GG]
     |some q=>obtain ⟨r,H'⟩:=q;simp only[GG,hr]
   |none=>
    simp only[Rq]
    cases hy:yieldOf (uH ops o true σ) o.op with
    |some q=>
     obtain ⟨l,args⟩:=q
     simp only[UH]
     cases ha:M.cy l args (uH ops o true σ).heap with
     |none=>simp only[GG]
     |some q=>obtain ⟨r,H'⟩:=q;simp only[GG,hr]
    |none=>
     simp only[UH]
     have key:(∀c,o.op≠ .defer c)→(∀x,o.op≠ .panic x)→uo M ops o.dst rest k (uH ops o true σ) o.op=sJ M ops o.dst rest k (uH ops o true σ) (n6 M.P (uH ops o true σ) o.op):=by
      intro h1 h2
      unfold uo
      split
      ·rename_i hh;exact absurd hh (h1 _)
      ·rename_i hh;exact absurd hh (h2 _)
      ·rfl
     by_cases h1: ∃c,o.op= .defer c
     ·obtain ⟨c,M6⟩:=h1
      simp only[M6,n6,uo]
      cases AB (uH ops o true σ) (.defer c) with
      |some p=>simp only[Xt,hr]
      |none=>simp only[Xt,F8]
     ·by_cases h2: ∃x,o.op= .panic x
      ·obtain ⟨x,hx⟩:=h2
       simp only[hx,n6,uo,AB]
       cases F8 (uH ops o true σ) (.panic x) with
       |some p=>simp only[Xu,z7]
       |none=>simp only[Xu]
      ·rw[key (fun c M6=>h1 ⟨c,M6⟩) (fun x hx=>h2 ⟨x,hx⟩)]
       cases he:n6 M.P (uH ops o true σ) o.op with
       |none=>
        simp only[sJ]
        have e1:AB (uH ops o true σ) o.op=none:=by
         unfold AB
         split
         ·rename_i hh;exact absurd ⟨_,hh⟩ h1
         ·rfl
        have e2:F8 (uH ops o true σ) o.op=none:=by
         unfold F8
         split
         ·rename_i hh;exact absurd ⟨_,hh⟩ h2
         ·rfl
        simp only[e1,e2]
       |some e=>
        simp only[sJ,hr]
        by_cases hp:e.pre
        ·simp only[pcond,if_pos hp]
        ·simp only[pcond,if_neg hp]
theorem ZI {ops:Array Oper} {o:Oper} {rest:List Oper}:Xv M ops o rest k σ (some true)=Rq M ops o rest k (uH ops o true σ) (qn (uH ops o true σ) o.op):=rfl
theorem Xw {ops:Array Oper} {o:Oper} {rest:List Oper}:Xv M ops o rest k σ (some false)=run M (.ops ops rest::k) ((uH ops o false σ).put o.dst (.raw undef)):=rfl
theorem stepW_sym {ops:Array Oper} {o:Oper} {rest:List Oper} {b:Bool}:Xv M ops o rest k σ (some b)=bif b then Rq M ops o rest k (uH ops o true σ) (qn (uH ops o true σ) o.op) else run M (.ops ops rest::k) ((uH ops o false σ).put o.dst (.raw undef)):=rfl
theorem ZJ {ops:Array Oper} {o:Oper} {rest:List Oper} {f:FuncId} {args:List AV}:Rq M ops o rest k σ (some (f,args))=bif M.q6 f then Gb M ops o.dst rest k σ (M.cp f args σ.heap) else GG M ops o.dst rest k σ (M.cl f args σ.heap):=rfl
theorem stepP_ret {ops:Array Oper} {dst:Option Tmp} {rest:List Oper} {r:AV} {H':List AObj}:Gb M ops dst rest k σ (some (.ret r,H'))=run M (.ops ops rest::k) (AState.put {σ with heap:=H'} dst r):=rfl
theorem stepP_pan {ops:Array Oper} {dst:Option Tmp} {rest:List Oper} {x:AV} {H':List AObj}:Gb M ops dst rest k σ (some (.panic x,H'))=Xj M x {σ with heap:=H'} k:=rfl
theorem ZK {ops:Array Oper} {dst:Option Tmp} {rest:List Oper}:Gb M ops dst rest k σ none=none:=rfl
theorem ZL {ops:Array Oper} {dst:Option Tmp} {rest:List Oper} {α:Type} {o:Option α} {f:α→Option (wM×List AObj)}:Gb M ops dst rest k σ (o.bind f)=o.bind fun x=>Gb M ops dst rest k σ (f x):=by
 cases o<;>rfl
theorem ZM {ops:Array Oper} {dst:Option Tmp} {rest:List Oper} {b:Bool} {x y:Option (wM×List AObj)}:Gb M ops dst rest k σ (bif b then x else y)=bif b then Gb M ops dst rest k σ x else Gb M ops dst rest k σ y:=by cases b<;>rfl
theorem ZN {ops:Array Oper} {dst:Option Tmp} {rest:List Oper} {p:FuncId×List AV}:Xt M ops dst rest k σ (some p)=run M (.ops ops rest::k) (σ.dfr p dst):=rfl
theorem ZP {x:AV}:Xu M k σ (some x)=Xj M x σ k:=rfl
theorem ZQ {ops:Array Oper} {o:Oper} {rest:List Oper}:Rq M ops o rest k σ none=UH M ops o rest k σ (yieldOf σ o.op):=rfl
theorem ZR {ops:Array Oper} {o:Oper} {rest:List Oper} {l:Nat} {args:List AV}:UH M ops o rest k σ (some (l,args))=GG M ops o.dst rest k σ (M.cy l args σ.heap):=rfl
theorem ZS {ops:Array Oper} {o:Oper} {rest:List Oper}:UH M ops o rest k σ none=uo M ops o.dst rest k σ o.op:=rfl
theorem ZT {ops:Array Oper} {dst:Option Tmp} {rest:List Oper}:sJ M ops dst rest k σ none=none:=rfl
theorem ZU {ops:Array Oper} {dst:Option Tmp} {rest:List Oper} {x:AV} {rd:List Nat} {up:List (Nat×AObj)} {nw:List AObj} {p:Prop}:
 sJ M ops dst rest k σ (some {val:=x,rd,up,nw,pre:=p})=pcond p (run M (.ops ops rest::k) {σ.put dst x with heap:=p4 σ.heap up++nw}):=rfl
theorem ZV {ops:Array Oper} {dst:Option Tmp} {rest:List Oper} {α:Type} {o:Option α} {f:α→Option wL}:sJ M ops dst rest k σ (o.bind f)=o.bind fun x=>sJ M ops dst rest k σ (f x):=by
 cases o<;>rfl
theorem stepE_ite {ops:Array Oper} {dst:Option Tmp} {rest:List Oper} {p:Prop} [Decidable p] {a b:Option wL}:sJ M ops dst rest k σ (if p then a else b)=bif decide p then sJ M ops dst rest k σ a else sJ M ops dst rest k σ b:=by
 by_cases h:p<;>simp [h]
theorem ZW {ops:Array Oper} {dst:Option Tmp} {rest:List Oper} {r:AV} {H':List AObj}:GG M ops dst rest k σ (some (r,H'))=run M (.ops ops rest::k) (AState.put {σ with heap:=H'} dst r):=rfl
theorem ZX {ops:Array Oper} {dst:Option Tmp} {rest:List Oper}:GG M ops dst rest k σ none=none:=rfl
theorem ZY {ops:Array Oper} {dst:Option Tmp} {rest:List Oper} {α:Type} {o:Option α} {f:α→Option (AV×List AObj)}:GG M ops dst rest k σ (o.bind f)=o.bind fun x=>GG M ops dst rest k σ (f x):=by
 cases o<;>rfl
def HF (M:Mach R) (p:List Nat) (tr:List Tr) (j:Nat) (e:wL):Prop:=Bn (tM M p) tr j e
def As (M:Mach R) (p:List Nat) (i j:Nat):Bool:=Q5 (tM M p) i j
theorem ZZ {p:List Nat} {tr:List Tr} {j:Nat} {e:wL}:HF M p tr j e=(e.idle=true∨(tr.all fun t=>zZ t e||As M p t.j j)=true):=rfl
noncomputable def wO (M:Mach R) (p:List Nat) (dst:Option Tmp) (rest:List Oper) (j:Nat) (tr:List Tr) (k:List Kt) (σ:AState):Option wL→Option R
 |some e=>pcond (e.pre∧HF M p tr j e) (run M (.GF p rest (j+1) (CY tr j σ.heap.length e)::k) (σ.app dst e))
 |none=>none
noncomputable def GH (M:Mach R) (p:List Nat) (dst:Option Tmp) (rest:List Oper) (j:Nat) (tr:List Tr) (k:List Kt) (σ:AState):Option AV→Option R
 |some r=>run M (.GF p rest (j+1) tr::k) (σ.put dst r)
 |none=>none
def KH (M:Mach R) (p:List Nat) (c:Nat) (rest:List Oper) (j:Nat) (σ:AState):Prop:=HC M.P (tM M p) c rest j σ
noncomputable def EA (M:Mach R) (p:List Nat) (dst:Option Tmp) (rest:List Oper) (j:Nat) (tr:List Tr) (k:List Kt) (σ:AState):Option CO→Option R
 |some (.ret e)=>wO M p dst rest j tr k σ (some e)
 |some (.pan x H')=>pcond (FV tr=true∧KH M p j rest (j+1) (σ.put dst (.raw undef))) (Xj M x {σ with slots:=MJ (tM M p) σ.slots,heap:=H'} k)
 |none=>none
noncomputable def MM (M:Mach R) (p:List Nat) (o:Oper) (rest:List Oper) (j:Nat) (tr:List Tr) (k:List Kt) (σ:AState):Option (FuncId×List AV)→Option R
 |some (f,args)=>bif M.B1 f then EA M p o.dst rest j tr k σ (M.co f args σ.heap) else bif M.B0 f then wO M p o.dst rest j tr k σ (M.ce f args σ.heap) else GH M p o.dst rest j tr k σ (M.cd f args)
 |none=>wO M p o.dst rest j tr k σ (n6 M.P σ o.op)
noncomputable def Rr (M:Mach R) (p:List Nat) (o:Oper) (rest:List Oper) (j:Nat) (tr:List Tr) (k:List Kt) (σ:AState):Option Bool→Option R
 |none=>none
 |some b=>bif b then MM M p o rest j tr k (uH (tM M p) o true σ) (qn (uH (tM M p) o true σ) o.op) else run M (.GF p rest (j+1) tr::k) ((uH (tM M p) o false σ).put o.dst (.raw undef))
theorem run_dops {p:List Nat} {o:Oper} {rest:List Oper} {j:Nat} {tr:List Tr}:run M (.GF p (o::rest) j tr::k) σ=Rr M p o rest j tr k σ (sH (tM M p) o σ):=by
 have hr: ∀j tr σ,run M (.GF p rest j tr::k) σ=match Dy M (tM M p) rest j tr σ with|some (e,σ')=>fin M k e σ'|none=>none:=by
  intro j tr σ
  show fin M (.GF p rest j tr::k) .normal σ=_
  rw[sw (by simp)]
  simp only[yF]
 have hl:run M (.GF p (o::rest) j tr::k) σ=match Dy M (tM M p) (o::rest) j tr σ with|some (e,σ')=>fin M k e σ'|none=>none:=by
  show fin M (.GF p (o::rest) j tr::k) .normal σ=_
  rw[sw (by simp)]
  simp only[yF]
 rw[hl]
 simp only[Dy]
 cases hw:sH (tM M p) o σ with
 |none=>rfl
 |some b=>
  simp only[Rr]
  cases b with
  |false=>simp only[cond_false,hr]
  |true=>
   simp only[cond_true]
   cases hc:qn (uH (tM M p) o true σ) o.op with
   |some q=>
    obtain ⟨f,args⟩:=q
    simp only[MM]
    cases hic:M.B1 f with
    |true=>
     simp only[cond_true]
     cases he:M.co f args (uH (tM M p) o true σ).heap with
     |none=>simp only[EA]
     |some q=>
      cases q with
      |ret e=>
       simp only[EA,wO,hr]
       have hpe:(e.pre∧HF M p tr j e)=(e.pre∧Bn (tM M p) tr j e):=rfl
       rw[hpe]
       by_cases hp:e.pre∧Bn (tM M p) tr j e
       ·simp only[pcond,if_pos hp]
       ·simp only[pcond,if_neg hp]
      |pan x H'=>
       simp only[EA,KH]
       by_cases hp:FV tr=true∧HC M.P (tM M p) j rest (j+1) ((uH (tM M p) o true σ).put o.dst (.raw undef))
       ·simp only[pcond,if_pos hp,z7]
       ·simp only[pcond,if_neg hp]
    |false=>
    simp only[cond_false]
    cases hi:M.B0 f with
    |true=>
     simp only[cond_true]
     cases he:M.ce f args (uH (tM M p) o true σ).heap with
     |none=>simp only[wO]
     |some e=>
      simp only[wO,hr]
      have hpe:(e.pre∧HF M p tr j e)=(e.pre∧Bn (tM M p) tr j e):=rfl
      rw[hpe]
      by_cases hp:e.pre∧Bn (tM M p) tr j e
      ·simp only[pcond,if_pos hp]
      ·simp only[pcond,if_neg hp]
    |false=>
     simp only[cond_false]
     cases ha:M.cd f args with
     |none=>simp only[GH]
     |some r=>simp only[GH,hr]
   |none=>
    simp only[MM]
    cases he:n6 M.P (uH (tM M p) o true σ) o.op with
    |none=>simp only[wO]
    |some e=>
     simp only[wO,hr]
     have hpe:(e.pre∧HF M p tr j e)=(e.pre∧Bn (tM M p) tr j e):=rfl
     rw[hpe]
     by_cases hp:e.pre∧Bn (tM M p) tr j e
     ·simp only[pcond,if_pos hp]
     ·simp only[pcond,if_neg hp]
theorem Xx {p:List Nat} {o:Oper} {rest:List Oper} {j:Nat} {tr:List Tr}:Rr M p o rest j tr k σ (some true)=MM M p o rest j tr k (uH (tM M p) o true σ) (qn (uH (tM M p) o true σ) o.op):=rfl
theorem VK {p:List Nat} {o:Oper} {rest:List Oper} {j:Nat} {tr:List Tr}:Rr M p o rest j tr k σ (some false)=run M (.GF p rest (j+1) tr::k) ((uH (tM M p) o false σ).put o.dst (.raw undef)):=rfl
theorem Z0 {p:List Nat} {o:Oper} {rest:List Oper} {j:Nat} {tr:List Tr} {b:Bool}:Rr M p o rest j tr k σ (some b)=bif b then MM M p o rest j tr k (uH (tM M p) o true σ) (qn (uH (tM M p) o true σ) o.op) else run M (.GF p rest (j+1) tr::k) ((uH (tM M p) o false σ).put o.dst (.raw undef)):=rfl
theorem Xy {p:List Nat} {o:Oper} {rest:List Oper} {j:Nat} {tr:List Tr} {f:FuncId} {args:List AV}:MM M p o rest j tr k σ (some (f,args))=bif M.B1 f then EA M p o.dst rest j tr k σ (M.co f args σ.heap) else bif M.B0 f then wO M p o.dst rest j tr k σ (M.ce f args σ.heap) else GH M p o.dst rest j tr k σ (M.cd f args):=rfl
theorem Z1 {p:List Nat} {dst:Option Tmp} {rest:List Oper} {j:Nat} {tr:List Tr} {e:wL}:EA M p dst rest j tr k σ (some (.ret e))=wO M p dst rest j tr k σ (some e):=rfl
theorem Z2 {p:List Nat} {dst:Option Tmp} {rest:List Oper} {j:Nat} {tr:List Tr} {x:AV} {H':List AObj}:EA M p dst rest j tr k σ (some (.pan x H'))=pcond (FV tr=true) (pcond (KH M p j rest (j+1) (σ.put dst (.raw undef))) (Xj M x {σ with slots:=MJ (tM M p) σ.slots,heap:=H'} k)):=by
 rw[←I6];rfl
theorem Xz {p:List Nat} {dst:Option Tmp} {rest:List Oper} {j:Nat} {tr:List Tr}:EA M p dst rest j tr k σ none=none:=rfl
theorem XA {p:List Nat} {dst:Option Tmp} {rest:List Oper} {j:Nat} {tr:List Tr} {α:Type} {o:Option α} {f:α→Option CO}:EA M p dst rest j tr k σ (o.bind f)=o.bind fun x=>EA M p dst rest j tr k σ (f x):=by
 cases o<;>rfl
theorem restP_nil {p:List Nat} {c j:Nat}:KH M p c [] j σ=True:=rfl
def XB (M:Mach R) (p:List Nat) (c j:Nat):Bool:=tC (tM M p) c j
theorem Z3 {p:List Nat} {c j:Nat} {o:Oper} {rest:List Oper} (h:XB M p c j=true):KH M p c (o::rest) j σ=KH M p c rest (j+1) (σ.put o.dst (.raw undef)):=by
 unfold XB at h
 show HC M.P (tM M p) c (o::rest) j σ=HC M.P (tM M p) c rest (j+1) (σ.put o.dst (.raw undef))
 simp only[HC,h]
theorem XC {p:List Nat} {dst:Option Tmp} {rest:List Oper} {j:Nat} {tr:List Tr}:wO M p dst rest j tr k σ none=none:=rfl
theorem XD {p:List Nat} {dst:Option Tmp} {rest:List Oper} {j:Nat} {tr:List Tr} {x:AV} {pr:Prop}:
 wO M p dst rest j tr k σ (some {val:=x,rd:=[],up:=[],nw:=[],pre:=pr})=pcond pr (run M (.GF p rest (j+1) tr::k) (σ.put dst x)):=by
 simp only[wO,HF,Bn,wL.idle,CY,fX,Bool.and_true,gj,true_or,and_true,cond_true]
 rw[CH]
theorem XE {p:List Nat} {dst:Option Tmp} {rest:List Oper} {j:Nat} {tr:List Tr} {x:AV} {rd:List Nat} {up:List (Nat×AObj)} {nw:List AObj} {pr:Prop}:
 wO M p dst rest j tr k σ (some {val:=x,rd,up,nw,pre:=pr})=pcond pr (pcond (HF M p tr j {val:=x,rd,up,nw,pre:=pr}) (run M (.GF p rest (j+1) (CY tr j σ.heap.length {val:=x,rd,up,nw,pre:=pr})::k) {σ.put dst x with heap:=p4 σ.heap up++nw})):=by
 rw[←I6];rfl
theorem XF {p:List Nat} {dst:Option Tmp} {rest:List Oper} {j:Nat} {tr:List Tr} {α:Type} {o:Option α} {f:α→Option wL}:wO M p dst rest j tr k σ (o.bind f)=o.bind fun x=>wO M p dst rest j tr k σ (f x):=by
 cases o<;>rfl
theorem Z4 {p:List Nat} {dst:Option Tmp} {rest:List Oper} {j:Nat} {tr:List Tr} {pr:Prop} [Decidable pr] {a b:Option wL}:wO M p dst rest j tr k σ (if pr then a else b)=bif decide pr then wO M p dst rest j tr k σ a else wO M p dst rest j tr k σ b:=by
 by_cases h:pr<;>simp [h]
theorem XG {p:List Nat} {dst:Option Tmp} {rest:List Oper} {j:Nat} {tr:List Tr} {r:AV}:GH M p dst rest j tr k σ (some r)=run M (.GF p rest (j+1) tr::k) (σ.put dst r):=rfl
theorem XH {p:List Nat} {dst:Option Tmp} {rest:List Oper} {j:Nat} {tr:List Tr}:GH M p dst rest j tr k σ none=none:=rfl
theorem XI {p:List Nat} {dst:Option Tmp} {rest:List Oper} {j:Nat} {tr:List Tr} {α:Type} {o:Option α} {f:α→Option AV}:GH M p dst rest j tr k σ (o.bind f)=o.bind fun x=>GH M p dst rest j tr k σ (f x):=by
 cases o<;>rfl
theorem MN (G:Good M) {r:R} {Q:qG→AState→Prop} (h:run M [.at []] σ=some r) (hQ: ∀σ',M.out σ'=some r→Q .normal σ'∧Q .ret σ') (hP: ∀x σ',M.xT x σ'=some r→Q (.panic x) σ'):QB M.P M.body Q σ:=by
 have h':fin M [.at []] .normal σ=some r:=h
 rw[sw (by simp)] at h'
 simp only[yF,sub] at h'
 cases hx:exec M M.body [] σ with
 |none=>simp only[hx] at h';cases h'
 |some q=>
  obtain ⟨e,σ'⟩:=q
  simp only[hx] at h'
  refine yE G _ [] Q σ e σ' hx ?_
  cases e with
  |normal=>exact (hQ σ' h').1
  |ret=>exact (hQ σ' h').2
  |panic x=>exact hP x σ' h'
  |_=>simp only[fin] at h';cases h'
theorem run_sound (G:Good M) {r:R} {Q:qG→AState→Prop} (h:run M [.at []] σ=some r) (hQ: ∀σ',M.out σ'=some r→Q .normal σ'∧Q .ret σ') (hP: ∀x σ',M.xT x σ'=none):QB M.P M.body Q σ:=
 MN G h hQ fun x σ' hx=>by rw[hP x σ'] at hx;cases hx
def Rs:Op→Bool
 | .call {callee:= .value _,..}=>false
 | .panic _=>false
 |_=>true
def Rt:Code→Bool
 | .skip=>true
 | .region _ ops _=>ops.toList.all fun o=>Rs o.op
 | .seq x y=>Rt x&&Rt y
 |_=>false
theorem KI {σ:AState} {o:Op} (h:Rs o=true):qn σ o=none:=by
 unfold qn
 split
 ·cases h
 ·rfl
theorem XJ {σ:AState} {o:Op} (h:Rs o=true):F8 σ o=none:=by
 unfold F8
 split
 ·cases h
 ·rfl
theorem JF {M:Mach R} {ops:Array Oper}: ∀ (rest:List Oper) (σ:AState) (e:qG) (σ':AState),rest.all (fun o=>Rs o.op)=true→vO M ops rest σ=some (e,σ')→e= .normal
 |[],σ,e,σ',_,h=>by simp only[vO,ff,fq] at h;exact h.1.symm
 |o::rest,σ,e,σ',hc,h=>by
  rw[gp,fE] at hc
  have ih:=fun σ=>JF (M:=M) (ops:=ops) rest σ e σ' hc.2
  simp only[vO] at h
  split at h
  ·cases h
  ·rename_i b _
   cases b with
   |false=>simp only[cond_false] at h;exact ih _ h
   |true=>
    simp only[cond_true,KI hc.1,XJ hc.1] at h
    split at h
    ·split at h
     ·exact ih _ h
     ·cases h
    ·split at h
     ·rw[pU] at h;exact ih _ h.2
     ·split at h
      ·exact ih _ h
      ·cases h
theorem Ru {M:Mach R} {ops:Array Oper}: ∀ (rest:List Oper) (j:Nat) (tr:List Tr) (σ:AState) (e:qG) (σ':AState),rest.all (fun o=>Rs o.op)=true→Dy M ops rest j tr σ=some (e,σ')→e= .normal
 |[],_,_,σ,e,σ',_,h=>by simp only[Dy,ff,fq] at h;exact h.1.symm
 |o::rest,j,tr,σ,e,σ',hc,h=>by
  rw[gp,fE] at hc
  have ih:=fun tr σ=>Ru (M:=M) (ops:=ops) rest (j+1) tr σ e σ' hc.2
  simp only[Dy] at h
  split at h
  ·cases h
  ·rename_i b _
   cases b with
   |false=>simp only[cond_false] at h;exact ih _ _ h
   |true=>
    simp only[cond_true,KI hc.1] at h
    split at h
    ·rw[pU] at h;exact ih _ _ h.2
    ·cases h
theorem Ot {M:Mach R}: ∀ (c:Code) (p:List Nat) (σ:AState) (e:qG) (σ':AState),Rt c=true→exec M c p σ=some (e,σ')→e= .normal
 | .skip,_,_,e,_,_,h=>by simp only[exec,ff,fq] at h;exact h.1.symm
 | .region _ ops false,_,_,e,_,hp,h=>by
   simp only[exec] at h
   exact JF _ _ _ _ hp h
 | .region _ ops true,_,_,e,_,hp,h=>by
   simp only[exec] at h
   rw[pU] at h
   exact Ru _ _ _ _ _ _ hp h.2
 | .seq x y,p,σ,e,σ',hp,h=>by
   simp only[Rt,fE] at hp
   simp only[exec] at h
   cases hx:exec M x (0::p) σ with
   |none=>simp only[hx] at h;cases h
   |some r=>
    obtain ⟨e1,σ1⟩:=r
    have:=Ot x _ _ _ _ hp.1 hx
    subst this
    simp only[hx] at h
    cases hc:M.cut (1::p) σ1 with
    |none=>simp only[hc,Option.bind_none] at h;cases h
    |some σ2=>
     simp only[hc,fF] at h
     exact Ot y _ _ _ _ hp.2 h
 | .cond _ _ _,_,_,_,_,hp,_=>by cases hp
 | .block _ _,_,_,_,_,hp,_=>by cases hp
 | .loop _,_,_,_,_,hp,_=>by cases hp
 | .exit _,_,_,_,_,hp,_=>by cases hp
 | .scope _,_,_,_,_,hp,_=>by cases hp
 | .label _,_,_,_,_,hp,_=>by cases hp
 | .ret,_,_,_,_,hp,_=>by cases hp
 | .goto _,_,_,_,_,hp,_=>by cases hp
 | .rangeFunc _ _ _ _,_,_,_,_,hp,_=>by cases hp
 | .refuse _,_,_,_,_,hp,_=>by cases hp
theorem fnT_run {lk:xR} {slots args:List AV} {H:List AObj} {V:wM→List AObj→Prop} {r:R} (G:Good M) (hbody:M.body= .seq lk.assign lk.body) (hp:Rt lk.assign=true) (hn:xA lk.assign=true∧xA lk.body=true)
 (hH:H[0]? =some (.loop lk slots .ready 0)) (hnb:nbL H.length args) (Dz: ∀x∈H,objNb H.length x) (hout: ∀e σ,M.pS e σ=some r→rPost V e σ)
 (h:run M [.at [0],.rb,.at [1],.rd] {slots:=Kd slots lk.ps.toList args,heap:=H,low:=H.length}=some r):Xb M.P (MH M.P) args H V:=by
 refine VG hH hnb Dz hn ?_
 have h0:sub [0] M.body=lk.assign:=by rw[hbody];rfl
 have h1:sub [1] M.body=lk.body:=by rw[hbody];rfl
 have h':fin M [.at [0],.rb,.at [1],.rd] .normal {slots:=Kd slots lk.ps.toList args,heap:=H,low:=H.length}=some r:=h
 rw[sw (by simp)] at h'
 simp only[yF,h0] at h'
 cases hx:exec M lk.assign [0] {slots:=Kd slots lk.ps.toList args,heap:=H,low:=H.length} with
 |none=>simp only[hx] at h';cases h'
 |some q=>
  obtain ⟨e,σ'⟩:=q
  have:=Ot _ _ _ _ _ hp hx
  subst this
  simp only[hx] at h'
  refine yE G _ [0] _ _ .normal σ' hx ?_
  rw[sw (by simp)] at h'
  simp only[yF] at h'
  cases hb:On σ' with
  |none=>simp only[hb,Option.map_none] at h';cases h'
  |some σ2=>
   simp only[hb,gb] at h'
   unfold On Zu at hb
   split at hb
   ·rename_i k s hk
    simp only[ff] at hb
    subst hb
    refine ⟨k,s,hk,?_⟩
    rw[sw (by simp)] at h'
    simp only[yF,h1] at h'
    cases F7:exec M lk.body [1] {σ' with heap:=σ'.heap.set 0 (.loop k s .busy 0)} with
    |none=>simp only[F7] at h';cases h'
    |some q=>
     obtain ⟨e2,σ3⟩:=q
     simp only[F7] at h'
     refine yE G _ [1] _ _ e2 σ3 F7 ?_
     exact hout e2 σ3 (by cases e2<;>exact h')
   ·cases hb
theorem pg {f:FuncId} {fn:Func} {args:List AV} {V:AV→Prop} {r:R} {n:Nat} {rs:List ResultVar} (G:Good M) (hf:M.P.funcs[f]? =some fn) (hb:fn.body=some M.body) (hne:(fn.name != "runtime.NumGoroutine")=true) (hnb:nbL 0 args)
 (hn:fn.ntmps=n) (Om:fn.results=rs.toArray) (hout: ∀σ,M.out σ=some r→σ.df=[]∧endV V σ.heap (F9 M.P σ rs))
 (h:run M [.at []] {slots:=args++fu (n-args.length) .any,heap:=[]}=some r) (hP: ∀x σ',M.xT x σ'=none:=by intros;rfl):xY M.P f args V:=by
 refine W8 hf hb hne hnb ?_
 rw[Om,hn]
 refine run_sound G h (fun σ' hs=> ?_) hP
 have:=hout σ' hs
 exact ⟨this,this⟩
end
end Go.Abs
namespace Go.Abs
section lists
variable {α β γ:Type}
def mapO (f:β→Option α):List β→Option (List α)
 |[]=>some []
 |x::xs=>(f x).bind fun y=>(mapO f xs).bind fun ys=>some (y::ys)
theorem mapO_nil (f:β→Option α):mapO f []=some []:=rfl
theorem mapO_cons (f:β→Option α) (x:β) (xs:List β):mapO f (x::xs)=(f x).bind fun y=>(mapO f xs).bind fun ys=>some (y::ys):=rfl
theorem Pw (f:β→Option α): ∀a b:List β,mapO f (a++b)=(mapO f a).bind fun x=>(mapO f b).bind fun y=>some (x++y)
 |[],b=>by cases h:mapO f b<;>simp [mapO,h]
 |x::a,b=>by
  simp only[List.cons_append,mapO,Pw f a b]
  cases f x<;>simp
  cases mapO f a<;>simp
  cases mapO f b<;>simp
theorem Rv {f:β→Option α} {g:α→β} (h: ∀x,f (g x)=some x): ∀xs:List α,mapO f (xs.map g)=some xs
 |[]=>rfl
 |x::xs=>by simp [mapO,h x,Rv h xs]
def mp (f:α→β) (xs:List α):List β:=xs.map f
theorem uq (f:α→β) (xs:List α):mp f xs=xs.map f:=rfl
attribute [irreducible] mp
theorem EB (f:α→β) (xs:List α):(mp f xs).length=xs.length:=by rw[uq,ga]
theorem mp_take (f:α→β) (xs:List α) (n:Nat):(mp f xs).take n=mp f (xs.take n):=by rw[uq,uq,List.map_take]
theorem mp_drop (f:α→β) (xs:List α) (n:Nat):(mp f xs).drop n=mp f (xs.drop n):=by rw[uq,uq,List.map_drop]
theorem Rw (f:α→β) (xs:List α):(mp f xs).isEmpty=xs.isEmpty:=by rw[uq];cases xs<;>rfl
theorem CK {f:β→Option α} {g:α→β} (h: ∀x,f (g x)=some x) (xs:List α):mapO f (mp g xs)=some xs:=by rw[uq];exact Rv h xs
theorem bind_map' {f:α→β} {g:β→Option γ} {o:Option α}:(gx f o).bind g=o.bind fun x=>g (f x):=by cases o<;>rfl
theorem Z5 {f:α→Option β} {g:β→Option γ} {o:Option α}:(o.bind f).bind g=o.bind fun x=>(f x).bind g:=by cases o<;>rfl
theorem bind_cond {f:α→Option β} {b:Bool} {x y:Option α}:(bif b then x else y).bind f=bif b then x.bind f else y.bind f:=by cases b<;>rfl
theorem Z6 {f:α→Option β}:(none:Option α).bind f=none:=rfl
theorem AG {f:α→Option β} {x:α}:(some x).bind f=f x:=rfl
def xz (xs:List α) (n:Int):Option α:=if 0≤n then xs[n.toNat]? else none
theorem idxA_mp {f:α→β} {xs:List α} {n:Int}:xz (mp f xs) n=gx f (xz xs n):=by
 rw[uq];unfold xz;split<;>simp
theorem idxA_zero {x:α} {xs:List α}:xz (x::xs) 0=some x:=rfl
theorem idxA_one {x y:α} {xs:List α}:xz (x::y::xs) 1=some y:=rfl
theorem idxA_two {x y z:α} {xs:List α}:xz (x::y::z::xs) 2=some z:=rfl
end lists
def zN:List AV→List AV→Prop
 |[],ys=>ys=[]
 |x::xs,ys=> ∃y zs,ys=y::zs∧Sub x y∧zN xs zs
theorem zN.nil:zN [] []:=rfl
theorem zN.cons {x y:AV} {xs ys:List AV} (h:Sub x y) (hs:zN xs ys):zN (x::xs) (y::ys):=⟨y,ys,rfl,h,hs⟩
theorem zN.subL: ∀ {xs ys:List AV},zN xs ys→tD xs ys
 |[],_,rfl=>tD.nil
 |_::_,_,⟨_,_,rfl,h,hs⟩=>tD.cons h (zN.subL hs)
theorem zN.subM: ∀ {xs ys:List AV},zN xs ys→Oe xs ys
 |[],_,rfl=>Oe.nil
 |_::_,_,⟨_,_,rfl,h,hs⟩=>Oe.cons h (zN.subM hs)
theorem zN.length: ∀ {xs ys:List AV},zN xs ys→xs.length=ys.length
 |[],_,rfl=>rfl
 |_::_,_,⟨_,_,rfl,_,hs⟩=>by simp [zN.length hs]
theorem zN.append: ∀ {xs ys us vs:List AV},zN xs ys→zN us vs→zN (xs++us) (ys++vs)
 |[],_,_,_,rfl,h=>h
 |_::_,_,_,_,⟨y,zs,rfl,h,hs⟩,h2=>⟨y,zs++_,rfl,h,zN.append hs h2⟩
theorem tX.nil {H:List AObj} {n:Nat}:tX H n [] []:=rfl
theorem tX.cons {H:List AObj} {n:Nat} {x y:AV} {xs ys:List AV} (h:Uz H n x y) (hs:tX H n xs ys):tX H n (x::xs) (y::ys):=⟨y,ys,rfl,h,hs⟩
theorem tX.append {H:List AObj} {n:Nat}: ∀ {xs ys us vs:List AV},tX H n xs ys→tX H n us vs→tX H n (xs++us) (ys++vs)
 |[],_,_,_,rfl,h=>h
 |_::_,_,_,_,⟨y,zs,rfl,h,hs⟩,h2=>⟨y,zs++_,rfl,h,tX.append hs h2⟩
theorem Uz.toSub {n:Nat} {x y:AV} (h:Uz [] n x y):Sub x y:=by
 rcases h with h|⟨l,m,sz,rows,_,hl,_⟩
 ·exact h.1
 ·simp at hl
theorem tX.toSub {n:Nat}: ∀ {xs ys:List AV},tX [] n xs ys→zN xs ys
 |[],_,rfl=>rfl
 |_::_,_,⟨y,zs,rfl,h,hs⟩=>⟨y,zs,rfl,h.toSub,tX.toSub hs⟩
theorem Co.toSub {n:Nat} {x y:AV} (h:Co [] n x y):Sub x y:=by
 rcases h with h|⟨cs,ds,rfl,rfl,h⟩
 ·exact h.toSub
 ·exact Sub.agg h.toSub.subL
theorem tX.toCoL {H:List AObj} {n:Nat}: ∀ {xs ys:List AV},tX H n xs ys→AE H n xs ys
 |[],_,rfl=>rfl
 |_::_,_,⟨y,zs,rfl,h,hs⟩=>⟨y,zs,rfl,.inl h,tX.toCoL hs⟩
structure Row (α:Type) where
 enc:α→List AV
 dec:List AV→Option α
 sz:Nat
 ok: ∀r x,dec r=some x→zN r (enc x)
 nb: ∀n x,nbL n (enc x)
structure Ty (α:Type) where
 enc:α→AV
 dec:List AObj→AV→Option α
 ok: ∀H n v x,dec H v=some x→Co H n v (enc x)
 nb: ∀n x,(enc x).nb n
section rows
variable {α:Type}
def Fm (sz k:Nat) (rows:List (List AV)):Bool:=sz==k||rows.isEmpty
def dL (r:Row α) (H:List AObj):AV→Option (List α)
 | .nY _ sz rows=>bif Fm sz r.sz rows then mapO r.dec rows else none
 | .acc l n=>match H[l]? with
   |some (.acc true sz rows)=>bif (rows.length==n)&&Fm sz r.sz rows then mapO r.dec rows else none
   |_=>none
 |_=>none
theorem EC {r:Row α}: ∀ {rows:List (List AV)} {xs:List α},mapO r.dec rows=some xs→JD rows (mp r.enc xs)∧CI rows (mp r.enc xs)
 |[],xs,h=>by
  simp only[mapO,ff] at h
  subst h
  rw[uq]
  exact ⟨JD.nil,rfl⟩
 |c::rows,xs,h=>by
  simp only[mapO,fc,ff] at h
  obtain ⟨y,hy,ys,hys,rfl⟩:=h
  obtain ⟨h1,h2⟩:=EC hys
  have h3:=r.ok _ _ hy
  rw[uq] at h1 h2 ⊢
  exact ⟨JD.cons h3.subM h1,_,_,rfl,⟨h3.length,h3.subL⟩,h2⟩
theorem xk {r:Row α} {n:Nat}: ∀xs:List α,Gq n (mp r.enc xs)
 |[]=>by rw[uq];trivial
 |x::xs=>by have:=xk (r:=r) (n:=n) xs;rw[uq] at this ⊢;exact ⟨r.nb n x,this⟩
theorem JG {t:Bool} {sz k:Nat} {rows vV:List (List AV)} (h:Fm sz k rows=true) (hs:JD rows vV):Sub (.nY t sz rows) (.nY false k vV):=by
 unfold Fm at h
 simp only[Bool.or_eq_true,beq_iff_eq,List.isEmpty_iff] at h
 rcases h with rfl|rfl
 ·exact Sub.nY hs
 ·have:vV=[]:=fS hs.1.symm
  subst this
  exact Sub.empty _ _ _
theorem I9 {r:Row α} {H:List AObj} {n:Nat} {v:AV} {xs:List α} (h:dL r H v=some xs):Uz H n v (.nY false r.sz (mp r.enc xs)):=by
 unfold dL at h
 split at h
 ·rename_i t sz rows
  cases hs:Fm sz r.sz rows with
  |false=>simp [hs] at h
  |true=>
   simp only[hs,cond_true] at h
   exact .inl ⟨JG hs (EC h).1,xk xs⟩
 ·rename_i l m
  split at h
  ·rename_i sz rows hl
   cases hs:Fm sz r.sz rows with
   |false=>simp [hs] at h
   |true=>
    cases hm:(rows.length==m) with
    |false=>simp [hm] at h
    |true=>
     simp only[hs,hm,Bool.and_self,cond_true] at h
     exact .inr ⟨l,m,sz,rows,rfl,hl,by simpa using hm,JG hs (EC h).1,xk xs⟩
  ·cases h
 ·cases h
def tyL (r:Row α):Ty (List α) where
 enc xs:= .nY false r.sz (mp r.enc xs)
 dec:=dL r
 ok _ _ _ _ h:= .inl (I9 h)
 nb _ xs:=xk xs
theorem tyL_enc {r:Row α} {xs:List α}:(tyL r).enc xs= .nY false r.sz (mp r.enc xs):=rfl
theorem tyL_dec {r:Row α} {H:List AObj} {v:AV}:(tyL r).dec H v=dL r H v:=rfl
end rows
def sb (s:List UInt8):ByteArray:=⟨s.toArray⟩
abbrev Str:=List UInt8
def dI (k:IntKind):AV→Option Int
 | .int k' n=>if k'=k then some n else none
 |_=>none
def dB:AV→Option Bool
 | .bool b=>some b
 |_=>none
def dS:AV→Option Str
 | .str b=>some b.data.toList
 |_=>none
theorem Gc {k:IntKind} {H:List AObj} {n:Nat} {v:AV} {x:Int} (h:dI k v=some x):Uz H n v (.int k x):=by
 unfold dI at h
 split at h
 ·split at h
  ·cases h;rename_i e;subst e;exact Uz.sub (Sub.refl _) trivial
  ·cases h
 ·cases h
theorem XK {H:List AObj} {n:Nat} {v:AV} {x:Bool} (h:dB v=some x):Uz H n v (.bool x):=by
 unfold dB at h
 split at h
 ·cases h;exact Uz.sub (Sub.refl _) trivial
 ·cases h
theorem VM (b:ByteArray):sb b.data.toList=b:=by
 cases b;rfl
theorem Rx {H:List AObj} {n:Nat} {v:AV} {x:Str} (h:dS v=some x):Uz H n v (.str (sb x)):=by
 unfold dS at h
 split at h
 ·cases h;rw[VM];exact Uz.sub (Sub.refl _) trivial
 ·cases h
theorem Px (s:Str):dS (.str (sb s))=some s:=rfl
theorem KJ (k:IntKind) (n:Int):dI k (.int k n)=some n:=by simp [dI]
theorem HG (b:Bool):dB (.bool b)=some b:=rfl
theorem dS_empty:dS (.str ByteArray.empty)=some []:=rfl
theorem dS_emptyL:dS (.str ⟨#[]⟩)=some []:=rfl
def pT (k:IntKind):Ty Int:=⟨.int k,fun _=>dI k,fun _ _ _ _ h=> .inl (Gc h),fun _ _=>trivial⟩
def oF:Ty Bool:=⟨.bool,fun _=>dB,fun _ _ _ _ h=> .inl (XK h),fun _ _=>trivial⟩
def uI:Ty Str:=⟨fun s=> .str (sb s),fun _=>dS,fun _ _ _ _ h=> .inl (Rx h),fun _ _=>trivial⟩
theorem tyI_enc {k:IntKind} {x:Int}:(pT k).enc x= .int k x:=rfl
theorem tyI_dec {k:IntKind} {H:List AObj} {v:AV}:(pT k).dec H v=dI k v:=rfl
theorem tyB_enc {x:Bool}:oF.enc x= .bool x:=rfl
theorem tyB_dec {H:List AObj} {v:AV}:oF.dec H v=dB v:=rfl
theorem tyS_enc {x:Str}:uI.enc x= .str (sb x):=rfl
theorem tyS_dec {H:List AObj} {v:AV}:uI.dec H v=dS v:=rfl
def dF (f:FuncId):AV→Option Unit
 | .func (.func g) [] []=>if g=f then some () else none
 |_=>none
theorem dF_lit (f:FuncId):dF f (.func (.func f) [] [])=some ():=by simp [dF]
def E4 (f:FuncId):Ty Unit where
 enc _:= .func (.func f) [] []
 dec _:=dF f
 ok H n v x h:=by
  unfold dF at h
  split at h
  ·split at h
   ·rename_i e;subst e;exact Co.same ⟨trivial,trivial⟩
   ·cases h
  ·cases h
 nb _ _:=⟨trivial,trivial⟩
theorem tyF_enc {f:FuncId} {x:Unit}:(E4 f).enc x= .func (.func f) [] []:=rfl
theorem tyF_dec {f:FuncId} {H:List AObj} {v:AV}:(E4 f).dec H v=dF f v:=rfl
def KK (n:Int):List AV:=[.int .i64 n]
def pP (s:Str):List AV:=[.str (sb s)]
def Nr (b:Bool):List AV:=[.bool b]
def Ry (n:Int):List AV:=[.int .u8 n]
def XL (k:IntKind):List AV→Option Int
 |[c]=>dI k c
 |_=>none
def dB1:List AV→Option Bool
 |[c]=>dB c
 |_=>none
def dS1:List AV→Option Str
 |[c]=>dS c
 |_=>none
def rowI:Row Int where
 enc:=KK
 dec:=XL .i64
 sz:=1
 ok r x h:=by
  unfold XL at h
  split at h
  ·exact zN.cons (Gc (H:=[]) (n:=0) h).toSub zN.nil
  ·cases h
 nb _ _:=⟨trivial,trivial⟩
def rowU:Row Int where
 enc:=Ry
 dec:=XL .u8
 sz:=1
 ok r x h:=by
  unfold XL at h
  split at h
  ·exact zN.cons (Gc (H:=[]) (n:=0) h).toSub zN.nil
  ·cases h
 nb _ _:=⟨trivial,trivial⟩
def rowB:Row Bool where
 enc:=Nr
 dec:=dB1
 sz:=1
 ok r x h:=by
  unfold dB1 at h
  split at h
  ·exact zN.cons (XK (H:=[]) (n:=0) h).toSub zN.nil
  ·cases h
 nb _ _:=⟨trivial,trivial⟩
def sD:Row Str where
 enc:=pP
 dec:=dS1
 sz:=1
 ok r x h:=by
  unfold dS1 at h
  split at h
  ·exact zN.cons (Rx (H:=[]) (n:=0) h).toSub zN.nil
  ·cases h
 nb _ _:=⟨trivial,trivial⟩
theorem rowI_f:rowI.enc=KK∧rowI.dec=XL .i64∧rowI.sz=1:=⟨rfl,rfl,rfl⟩
theorem rowU_f:rowU.enc=Ry∧rowU.dec=XL .u8∧rowU.sz=1:=⟨rfl,rfl,rfl⟩
theorem rowB_f:rowB.enc=Nr∧rowB.dec=dB1∧rowB.sz=1:=⟨rfl,rfl,rfl⟩
theorem Rz:sD.enc=pP∧sD.dec=dS1∧sD.sz=1:=⟨rfl,rfl,rfl⟩
theorem Fo:(∀xs:List Int,mapO (XL .i64) (mp KK xs)=some xs)∧(∀xs:List Int,mapO (XL .u8) (mp Ry xs)=some xs)∧(∀xs:List Bool,mapO dB1 (mp Nr xs)=some xs)∧ ∀xs:List Str,mapO dS1 (mp pP xs)=some xs:=
 ⟨CK fun x=>by simp [XL,KK,dI],CK fun x=>by simp [XL,Ry,dI],CK fun x=>rfl,CK fun x=>rfl⟩
structure LO (α:Type) where
 enc:α→List AV
 dec:List AObj→List AV→Option α
 ok: ∀H n cs x,dec H cs=some x→tX H n cs (enc x)
 nb: ∀n x,nbL n (enc x)
section cel
variable {α:Type}
def dC (c:LO α) (H:List AObj):AV→Option α
 | .agg cs=>c.dec H cs
 |_=>none
def nG (c:LO α):Ty α where
 enc x:= .agg (c.enc x)
 dec:=dC c
 ok H n v x h:=by
  unfold dC at h
  split at h
  ·exact .inr ⟨_,_,rfl,rfl,c.ok H n _ _ h⟩
  ·cases h
 nb n x:=c.nb n x
theorem tyC_enc {c:LO α} {x:α}:(nG c).enc x= .agg (c.enc x):=rfl
theorem tyC_dec {c:LO α} {H:List AObj} {v:AV}:(nG c).dec H v=dC c H v:=rfl
end cel
def tyU:Ty Unit where
 enc _:= .tup []
 dec _
  | .tup []=>some ()
  |_=>none
 ok H n v x h:=by
  split at h
  ·exact Co.same trivial
  ·cases h
 nb _ _:=trivial
theorem tyU_enc {x:Unit}:tyU.enc x= .tup []:=rfl
theorem tyU_dec {H:List AObj}:tyU.dec H (.tup [])=some ():=rfl
section tuples
variable {α β γ δ ε:Type}
def d2 (a:Ty α) (b:Ty β):AV→Option (α×β)
 | .tup [x,y]=>(a.dec [] x).bind fun u=>(b.dec [] y).bind fun v=>some (u,v)
 |_=>none
def d3 (a:Ty α) (b:Ty β) (c:Ty γ):AV→Option (α×β×γ)
 | .tup [x,y,z]=>(a.dec [] x).bind fun u=>(b.dec [] y).bind fun v=>(c.dec [] z).bind fun w=>some (u,v,w)
 |_=>none
def d4 (a:Ty α) (b:Ty β) (c:Ty γ) (d:Ty δ):AV→Option (α×β×γ×δ)
 | .tup [x,y,z,p]=>(a.dec [] x).bind fun u=>(b.dec [] y).bind fun v=>(c.dec [] z).bind fun w=>(d.dec [] p).bind fun q=>some (u,v,w,q)
 |_=>none
def d5 (a:Ty α) (b:Ty β) (c:Ty γ) (d:Ty δ) (e:Ty ε):AV→Option (α×β×γ×δ×ε)
 | .tup [x,y,z,p,s]=>(a.dec [] x).bind fun u=>(b.dec [] y).bind fun v=>(c.dec [] z).bind fun w=>(d.dec [] p).bind fun q=>(e.dec [] s).bind fun t=>some (u,v,w,q,t)
 |_=>none
def Lt (a:Ty α) (b:Ty β):Ty (α×β) where
 enc x:= .tup [a.enc x.1,b.enc x.2]
 dec _:=d2 a b
 ok H n v x h:=by
  unfold d2 at h
  split at h
  ·simp only[fc,ff] at h
   obtain ⟨u,hu,w,hw,rfl⟩:=h
   exact Co.sub (Sub.tup (tD.cons (a.ok [] 0 _ _ hu).toSub (tD.cons (b.ok [] 0 _ _ hw).toSub tD.nil))) ⟨a.nb n u,b.nb n w,trivial⟩
  ·cases h
 nb n x:=⟨a.nb n _,b.nb n _,trivial⟩
def Py (a:Ty α) (b:Ty β) (c:Ty γ):Ty (α×β×γ) where
 enc x:= .tup [a.enc x.1,b.enc x.2.1,c.enc x.2.2]
 dec _:=d3 a b c
 ok H n v x h:=by
  unfold d3 at h
  split at h
  ·simp only[fc,ff] at h
   obtain ⟨u,hu,w,hw,p,hp,rfl⟩:=h
   exact Co.sub (Sub.tup (tD.cons (a.ok [] 0 _ _ hu).toSub (tD.cons (b.ok [] 0 _ _ hw).toSub (tD.cons (c.ok [] 0 _ _ hp).toSub tD.nil)))) ⟨a.nb n u,b.nb n w,c.nb n p,trivial⟩
  ·cases h
 nb n x:=⟨a.nb n _,b.nb n _,c.nb n _,trivial⟩
def ty4 (a:Ty α) (b:Ty β) (c:Ty γ) (d:Ty δ):Ty (α×β×γ×δ) where
 enc x:= .tup [a.enc x.1,b.enc x.2.1,c.enc x.2.2.1,d.enc x.2.2.2]
 dec _:=d4 a b c d
 ok H n v x h:=by
  unfold d4 at h
  split at h
  ·simp only[fc,ff] at h
   obtain ⟨u,hu,w,hw,p,hp,q,hq,rfl⟩:=h
   exact Co.sub (Sub.tup (tD.cons (a.ok [] 0 _ _ hu).toSub (tD.cons (b.ok [] 0 _ _ hw).toSub (tD.cons (c.ok [] 0 _ _ hp).toSub (tD.cons (d.ok [] 0 _ _ hq).toSub tD.nil))))) ⟨a.nb n u,b.nb n w,c.nb n p,d.nb n q,trivial⟩
  ·cases h
 nb n x:=⟨a.nb n _,b.nb n _,c.nb n _,d.nb n _,trivial⟩
def ty5 (a:Ty α) (b:Ty β) (c:Ty γ) (d:Ty δ) (e:Ty ε):Ty (α×β×γ×δ×ε) where
 enc x:= .tup [a.enc x.1,b.enc x.2.1,c.enc x.2.2.1,d.enc x.2.2.2.1,e.enc x.2.2.2.2]
 dec _:=d5 a b c d e
 ok H n v x h:=by
  unfold d5 at h
  split at h
  ·simp only[fc,ff] at h
   obtain ⟨u,hu,w,hw,p,hp,q,hq,s,hs,rfl⟩:=h
   exact Co.sub (Sub.tup (tD.cons (a.ok [] 0 _ _ hu).toSub (tD.cons (b.ok [] 0 _ _ hw).toSub (tD.cons (c.ok [] 0 _ _ hp).toSub (tD.cons (d.ok [] 0 _ _ hq).toSub (tD.cons (e.ok [] 0 _ _ hs).toSub tD.nil)))))) ⟨a.nb n u,b.nb n w,c.nb n p,d.nb n q,e.nb n s,trivial⟩
  ·cases h
 nb n x:=⟨a.nb n _,b.nb n _,c.nb n _,d.nb n _,e.nb n _,trivial⟩
theorem ty2_enc {a:Ty α} {b:Ty β} {x:α×β}:(Lt a b).enc x= .tup [a.enc x.1,b.enc x.2]:=rfl
theorem ty2_dec {a:Ty α} {b:Ty β} {H:List AObj} {v:AV}:(Lt a b).dec H v=d2 a b v:=rfl
theorem ty3_enc {a:Ty α} {b:Ty β} {c:Ty γ} {x:α×β×γ}:(Py a b c).enc x= .tup [a.enc x.1,b.enc x.2.1,c.enc x.2.2]:=rfl
theorem ty3_dec {a:Ty α} {b:Ty β} {c:Ty γ} {H:List AObj} {v:AV}:(Py a b c).dec H v=d3 a b c v:=rfl
theorem ty4_enc {a:Ty α} {b:Ty β} {c:Ty γ} {d:Ty δ} {x:α×β×γ×δ}:(ty4 a b c d).enc x= .tup [a.enc x.1,b.enc x.2.1,c.enc x.2.2.1,d.enc x.2.2.2]:=rfl
theorem ty4_dec {a:Ty α} {b:Ty β} {c:Ty γ} {d:Ty δ} {H:List AObj} {v:AV}:(ty4 a b c d).dec H v=d4 a b c d v:=rfl
theorem ty5_enc {a:Ty α} {b:Ty β} {c:Ty γ} {d:Ty δ} {e:Ty ε} {x:α×β×γ×δ×ε}:(ty5 a b c d e).enc x= .tup [a.enc x.1,b.enc x.2.1,c.enc x.2.2.1,d.enc x.2.2.2.1,e.enc x.2.2.2.2]:=rfl
theorem ty5_dec {a:Ty α} {b:Ty β} {c:Ty γ} {d:Ty δ} {e:Ty ε} {H:List AObj} {v:AV}:(ty5 a b c d e).dec H v=d5 a b c d e v:=rfl
end tuples
noncomputable def pS {ρ:Type} (P:Program) (rs:List ResultVar) (t:Ty ρ) (σ:AState):Option ρ:=
 bif σ.df.isEmpty then (F9 P σ rs).bind fun x=>pcond ((Pq 0 σ.heap x).nb 0) (t.dec [] (Pq 0 σ.heap x)) else none
theorem oZ {ρ:Type} {P:Program} {rs:List ResultVar} {t:Ty ρ} {σ:AState} {r:ρ} (h:pS P rs t σ=some r):σ.df=[]∧endV (fun v=>v=t.enc r) σ.heap (F9 P σ rs):=by
 unfold pS at h
 cases hd:σ.df with
 |cons p q=>rw[hd] at h;cases h
 |nil=>
 rw[hd] at h
 simp only[fX,cond_true] at h
 refine ⟨rfl,?_⟩
 cases hx:F9 P σ rs with
 |none=>rw[hx] at h;cases h
 |some x=>
  rw[hx] at h
  simp only[fF] at h
  rw[pU] at h
  exact ⟨h.1,_,(t.ok [] 0 _ _ h.2).toSub,rfl⟩
abbrev Ent:=List AV→List AObj→Option (AV×List AObj)
abbrev EntD:=List AV→Option AV
section entries
variable {α β γ δ ε ζ ρ:Type}
def JH (t:Ty ρ) (F:Option ρ):Ent
 |[],H=>F.bind fun r=>some (t.enc r,H)
 |_,_=>none
def p9 (a:Ty α) (t:Ty ρ) (F:α→Option ρ):Ent
 |[x],H=>(a.dec H x).bind fun x=>(F x).bind fun r=>some (t.enc r,H)
 |_,_=>none
def su (a:Ty α) (b:Ty β) (t:Ty ρ) (F:α→β→Option ρ):Ent
 |[x,y],H=>(a.dec H x).bind fun x=>(b.dec H y).bind fun y=>(F x y).bind fun r=>some (t.enc r,H)
 |_,_=>none
def MO (a:Ty α) (b:Ty β) (c:Ty γ) (t:Ty ρ) (F:α→β→γ→Option ρ):Ent
 |[x,y,z],H=>(a.dec H x).bind fun x=>(b.dec H y).bind fun y=>(c.dec H z).bind fun z=>(F x y z).bind fun r=>some (t.enc r,H)
 |_,_=>none
def Z7 (a:Ty α) (b:Ty β) (c:Ty γ) (d:Ty δ) (t:Ty ρ) (F:α→β→γ→δ→Option ρ):Ent
 |[x,y,z,u],H=>(a.dec H x).bind fun x=>(b.dec H y).bind fun y=>(c.dec H z).bind fun z=>(d.dec H u).bind fun u=>(F x y z u).bind fun r=>some (t.enc r,H)
 |_,_=>none
def ent5 (a:Ty α) (b:Ty β) (c:Ty γ) (d:Ty δ) (e:Ty ε) (t:Ty ρ) (F:α→β→γ→δ→ε→Option ρ):Ent
 |[x,y,z,u,v],H=>(a.dec H x).bind fun x=>(b.dec H y).bind fun y=>(c.dec H z).bind fun z=>(d.dec H u).bind fun u=>(e.dec H v).bind fun v=>(F x y z u v).bind fun r=>some (t.enc r,H)
 |_,_=>none
def ent6 (a:Ty α) (b:Ty β) (c:Ty γ) (d:Ty δ) (e:Ty ε) (f:Ty ζ) (t:Ty ρ) (F:α→β→γ→δ→ε→ζ→Option ρ):Ent
 |[x,y,z,u,v,w],H=>(a.dec H x).bind fun x=>(b.dec H y).bind fun y=>(c.dec H z).bind fun z=>(d.dec H u).bind fun u=>(e.dec H v).bind fun v=>(f.dec H w).bind fun w=>(F x y z u v w).bind fun r=>some (t.enc r,H)
 |_,_=>none
noncomputable def vW (e:Ent):EntD:=fun args=>pcond (nbL 0 args) ((e args []).bind fun r=>some r.1)
def Ja (P:Program) (f:FuncId) (e:Ent):Prop:= ∀args σ r H',e args σ.heap=some (r,H')→AZ P f args σ (fun o Du=>o= .ret r∧Du=H')
def KL (P:Program) (f:FuncId) (e:EntD):Prop:= ∀args r,e args=some r→xY P f args (fun v=>v=r)
variable {P:Program} {f:FuncId} {a:Ty α} {b:Ty β} {c:Ty γ} {d:Ty δ} {e:Ty ε} {g:Ty ζ} {t:Ty ρ}
theorem Lu {F:Option ρ} (h: ∀r,F=some r→xY P f [] (fun v=>v=t.enc r)):Ja P f (JH t F):=by
 intro args σ r H' he
 unfold JH at he
 split at he
 ·simp only[fc,ff,fq] at he
  obtain ⟨r',hr,rfl,rfl⟩:=he
  exact Nn (n:=0) (h r' hr) AE.nil
 ·cases he
theorem pZ {F:α→Option ρ} (h: ∀x r,F x=some r→xY P f [a.enc x] (fun v=>v=t.enc r)):Ja P f (p9 a t F):=by
 intro args σ r H' he
 unfold p9 at he
 split at he
 ·simp only[fc,ff,fq] at he
  obtain ⟨x,hx,r',hr,rfl,rfl⟩:=he
  exact Nn (n:=0) (h x r' hr) (AE.cons (a.ok _ 0 _ _ hx) AE.nil)
 ·cases he
theorem sI {F:α→β→Option ρ} (h: ∀x y r,F x y=some r→xY P f [a.enc x,b.enc y] (fun v=>v=t.enc r)):Ja P f (su a b t F):=by
 intro args σ r H' he
 unfold su at he
 split at he
 ·simp only[fc,ff,fq] at he
  obtain ⟨x,hx,y,hy,r',hr,rfl,rfl⟩:=he
  exact Nn (n:=0) (h x y r' hr) (AE.cons (a.ok _ 0 _ _ hx) (AE.cons (b.ok _ 0 _ _ hy) AE.nil))
 ·cases he
theorem ent3_ok {F:α→β→γ→Option ρ} (h: ∀x y z r,F x y z=some r→xY P f [a.enc x,b.enc y,c.enc z] (fun v=>v=t.enc r)):Ja P f (MO a b c t F):=by
 intro args σ r H' he
 unfold MO at he
 split at he
 ·simp only[fc,ff,fq] at he
  obtain ⟨x,hx,y,hy,z,hz,r',hr,rfl,rfl⟩:=he
  exact Nn (n:=0) (h x y z r' hr) (AE.cons (a.ok _ 0 _ _ hx) (AE.cons (b.ok _ 0 _ _ hy) (AE.cons (c.ok _ 0 _ _ hz) AE.nil)))
 ·cases he
theorem ent0_okD {F:Option ρ} (h: ∀r,F=some r→xY P f [] (fun w=>w=t.enc r)):KL P f (vW (JH t F)):=by
 intro args r he
 unfold vW at he
 rw[pU] at he
 obtain ⟨hnb,he⟩:=he
 unfold JH at he
 split at he
 ·simp only[fc,ff,Prod.exists,fq] at he
  obtain ⟨_,_,⟨r',hr,rfl,rfl⟩,rfl⟩:=he
  exact Nl (h r' hr) (tD.nil) hnb
 ·cases he
theorem DA {F:α→Option ρ} (h: ∀x r,F x=some r→xY P f [a.enc x] (fun w=>w=t.enc r)):KL P f (vW (p9 a t F)):=by
 intro args r he
 unfold vW at he
 rw[pU] at he
 obtain ⟨hnb,he⟩:=he
 unfold p9 at he
 split at he
 ·simp only[fc,ff,Prod.exists,fq] at he
  obtain ⟨_,_,⟨x,hx,r',hr,rfl,rfl⟩,rfl⟩:=he
  exact Nl (h x r' hr) (tD.cons (a.ok _ 0 _ _ hx).toSub tD.nil) hnb
 ·cases he
theorem DB {F:α→β→Option ρ} (h: ∀x y r,F x y=some r→xY P f [a.enc x,b.enc y] (fun w=>w=t.enc r)):KL P f (vW (su a b t F)):=by
 intro args r he
 unfold vW at he
 rw[pU] at he
 obtain ⟨hnb,he⟩:=he
 unfold su at he
 split at he
 ·simp only[fc,ff,Prod.exists,fq] at he
  obtain ⟨_,_,⟨x,hx,y,hy,r',hr,rfl,rfl⟩,rfl⟩:=he
  exact Nl (h x y r' hr) (tD.cons (a.ok _ 0 _ _ hx).toSub (tD.cons (b.ok _ 0 _ _ hy).toSub tD.nil)) hnb
 ·cases he
theorem RA {F:α→β→γ→Option ρ} (h: ∀x y z r,F x y z=some r→xY P f [a.enc x,b.enc y,c.enc z] (fun w=>w=t.enc r)):KL P f (vW (MO a b c t F)):=by
 intro args r he
 unfold vW at he
 rw[pU] at he
 obtain ⟨hnb,he⟩:=he
 unfold MO at he
 split at he
 ·simp only[fc,ff,Prod.exists,fq] at he
  obtain ⟨_,_,⟨x,hx,y,hy,z,hz,r',hr,rfl,rfl⟩,rfl⟩:=he
  exact Nl (h x y z r' hr) (tD.cons (a.ok _ 0 _ _ hx).toSub (tD.cons (b.ok _ 0 _ _ hy).toSub (tD.cons (c.ok _ 0 _ _ hz).toSub tD.nil))) hnb
 ·cases he
theorem XM {F:α→β→γ→δ→Option ρ} (h: ∀x y z u r,F x y z u=some r→xY P f [a.enc x,b.enc y,c.enc z,d.enc u] (fun w=>w=t.enc r)):KL P f (vW (Z7 a b c d t F)):=by
 intro args r he
 unfold vW at he
 rw[pU] at he
 obtain ⟨hnb,he⟩:=he
 unfold Z7 at he
 split at he
 ·simp only[fc,ff,Prod.exists,fq] at he
  obtain ⟨_,_,⟨x,hx,y,hy,z,hz,u,hu,r',hr,rfl,rfl⟩,rfl⟩:=he
  exact Nl (h x y z u r' hr) (tD.cons (a.ok _ 0 _ _ hx).toSub (tD.cons (b.ok _ 0 _ _ hy).toSub (tD.cons (c.ok _ 0 _ _ hz).toSub (tD.cons (d.ok _ 0 _ _ hu).toSub tD.nil)))) hnb
 ·cases he
end entries
def oJ:List (Nat×Ent)→FuncId→List AV→List AObj→Option (AV×List AObj)
 |[],_,_,_=>none
 |(g,e)::t,f,args,H=>if f=g then e args H else oJ t f args H
def oN:List (Nat×EntD)→FuncId→List AV→Option AV
 |[],_,_=>none
 |(g,e)::t,f,args=>if f=g then e args else oN t f args
theorem m5 {P:Program}: ∀f args (σ:AState) r H',oJ [] f args σ.heap=some (r,H')→AZ P f args σ (fun o Du=>o= .ret r∧Du=H'):=by
 intro f args σ r H' h;cases h
theorem mZ {P:Program} {g:Nat} {e:Ent} {t:List (Nat×Ent)} (h1:Ja P g e) (h2: ∀f args (σ:AState) r H',oJ t f args σ.heap=some (r,H')→AZ P f args σ (fun o Du=>o= .ret r∧Du=H')):
 ∀f args (σ:AState) r H',oJ ((g,e)::t) f args σ.heap=some (r,H')→AZ P f args σ (fun o Du=>o= .ret r∧Du=H'):=by
 intro f args σ r H' h
 simp only[oJ] at h
 split at h
 ·rename_i hg;subst hg;exact h1 _ _ _ _ h
 ·exact h2 _ _ _ _ _ h
theorem m6 {P:Program}: ∀f args r,oN [] f args=some r→xY P f args (fun v=>v=r):=by
 intro f args r h;cases h
theorem qt {P:Program} {g:Nat} {e:EntD} {t:List (Nat×EntD)} (h1:KL P g e) (h2: ∀f args r,oN t f args=some r→xY P f args (fun v=>v=r)):
 ∀f args r,oN ((g,e)::t) f args=some r→xY P f args (fun v=>v=r):=by
 intro f args r h
 simp only[oN] at h
 split at h
 ·rename_i hg;subst hg;exact h1 _ _ h
 ·exact h2 _ _ _ h
structure NZ where
 f:List AObj→Nat→AV→Option AV
 ok: ∀H n v v',f H n v=some v'→Co H n v v'
structure ZO where
 f:List AObj→Nat→AObj→Option AObj
 ok: ∀H n x y,f H n x=some y→GB H n x y
def zA:NZ:=⟨fun _ _ _=>some .any,fun _ _ _ _ h=>by cases h;exact Co.any⟩
noncomputable def zK:NZ:=⟨fun _ n v=>pcond (v.nb n) (some v),fun _ _ _ _ h=>by rw[pU] at h;obtain ⟨h1,h2⟩:=h;cases h2;exact Co.same h1⟩
def zT {α:Type} (t:Ty α):NZ:=⟨fun H _ v=>(t.dec H v).bind fun x=>some (t.enc x),fun H n v v' h=>by
 simp only[fc,ff] at h
 obtain ⟨x,hx,rfl⟩:=h
 exact t.ok H n v x hx⟩
theorem VN {sz:Nat} {rows vV:List (List AV)} (hs:JD rows vV):Sub (.nY true sz rows) (.nY true sz vV):=by
 rintro E v ⟨base,cap,hv,h1,h2,h3,h4,h5⟩
 refine ⟨base,cap,by rw[←hs.1];exact hv,by rw[←hs.1];exact h1,fun _=>by rw[←hs.1];exact h2 rfl,h3,fun a ha hne=>h4 a ha ?_,fun a ha=>hs.2 E sz _ _ (h5 a ha)⟩
 rintro rfl
 exact hne (fS hs.1.symm)
def dLt {α:Type} (r:Row α):AV→Option (List α)
 | .nY true sz rows=>bif sz==r.sz then mapO r.dec rows else none
 |_=>none
def zL {α:Type} (r:Row α):NZ:=⟨fun _ _ v=>(dLt r v).bind fun x=>some (.nY true r.sz (mp r.enc x)),fun H n v v' h=>by
 simp only[fc,ff] at h
 obtain ⟨x,hx,rfl⟩:=h
 unfold dLt at hx
 split at hx
 ·rename_i sz rows
  cases hz:(sz==r.sz) with
  |false=>rw[hz] at hx;cases hx
  |true=>
   rw[hz,cond_true] at hx
   obtain rfl:=beq_iff_eq.1 hz
   exact .inl (.inl ⟨VN (EC hx).1,xk x⟩)
 ·cases hx⟩
theorem zL_f {α:Type} {r:Row α} {H:List AObj} {n:Nat} {v:AV}:(zL r).f H n v=(dLt r v).bind fun x=>some (.nY true r.sz (mp r.enc x)):=rfl
theorem zA_f {H:List AObj} {n:Nat} {v:AV}:zA.f H n v=some .any:=rfl
theorem zK_f {H:List AObj} {n:Nat} {v:AV}:zK.f H n v=pcond (v.nb n) (some v):=rfl
theorem zT_f {α:Type} {t:Ty α} {H:List AObj} {n:Nat} {v:AV}:(zT t).f H n v=(t.dec H v).bind fun x=>some (t.enc x):=rfl
def P7:List NZ→List AObj→Nat→List AV→Option (List AV)
 |[],_,_,[]=>some []
 |z::zs,H,n,v::vs=>(z.f H n v).bind fun u=>(P7 zs H n vs).bind fun us=>some (u::us)
 |_,_,_,_=>none
theorem QH: ∀ {zs:List NZ} {H:List AObj} {n:Nat} {vs us:List AV},P7 zs H n vs=some us→AE H n vs us
 |[],_,_,[],us,h=>by simp only[P7,ff] at h;subst h;rfl
 |z::zs,H,n,v::vs,us,h=>by
  simp only[P7,fc,ff] at h
  obtain ⟨u,hu,ws,hws,rfl⟩:=h
  exact AE.cons (z.ok _ _ _ _ hu) (QH hws)
 |[],_,_,_::_,_,h=>by simp [P7] at h
 |_::_,_,_,[],_,h=>by simp [P7] at h
def oD:ZO:=⟨fun _ _ _=>some .dead,fun _ _ _ _ h=>by cases h;exact .inl rfl⟩
noncomputable def oK:ZO:=⟨fun _ n x=>pcond (objNb n x) (some x),fun _ _ _ _ h=>by rw[pU] at h;obtain ⟨h1,h2⟩:=h;cases h2;exact .inr (.inl ⟨rfl,h1⟩)⟩
def oCf (zs:List NZ) (H:List AObj) (n:Nat):AObj→Option AObj
 | .cells cs=>(P7 zs H n cs).bind fun ds=>some (.cells ds)
 |_=>none
def oC (zs:List NZ):ZO:=⟨oCf zs,fun H n x y h=>by
 unfold oCf at h
 split at h
 ·simp only[fc,ff] at h
  obtain ⟨ds,hd,rfl⟩:=h
  exact .inr (.inr (.inl ⟨_,_,rfl,rfl,QH hd⟩))
 ·cases h⟩
def oTf {α:Type} (c:LO α) (H:List AObj):AObj→Option AObj
 | .cells cs=>(c.dec H cs).bind fun x=>some (.cells (c.enc x))
 |_=>none
def oT {α:Type} (c:LO α):ZO:=⟨fun H _=>oTf c H,fun H n x y h=>by
 unfold oTf at h
 split at h
 ·simp only[fc,ff] at h
  obtain ⟨z,hz,rfl⟩:=h
  exact .inr (.inr (.inl ⟨_,_,rfl,rfl,(c.ok H n _ _ hz).toCoL⟩))
 ·cases h⟩
def oAf {α:Type} (r:Row α):AObj→Option AObj
 | .acc u5 sz rows=>(mapO r.dec rows).bind fun xs=>some (.acc u5 sz (mp r.enc xs))
 |_=>none
def oA {α:Type} (r:Row α):ZO:=⟨fun _ _=>oAf r,fun H n x y h=>by
 unfold oAf at h
 split at h
 ·simp only[fc,ff] at h
  obtain ⟨xs,hx,rfl⟩:=h
  exact .inr (.inr (.inr (.inl ⟨_,_,_,_,rfl,rfl,(EC hx).2,xk xs⟩)))
 ·cases h⟩
theorem oD_f {H:List AObj} {n:Nat} {x:AObj}:oD.f H n x=some .dead:=rfl
theorem oK_f {H:List AObj} {n:Nat} {x:AObj}:oK.f H n x=pcond (objNb n x) (some x):=rfl
theorem oC_f {zs:List NZ} {H:List AObj} {n:Nat} {cs:List AV}:(oC zs).f H n (.cells cs)=(P7 zs H n cs).bind fun ds=>some (.cells ds):=rfl
theorem oT_f {α:Type} {c:LO α} {H:List AObj} {n:Nat} {cs:List AV}:(oT c).f H n (.cells cs)=(c.dec H cs).bind fun x=>some (.cells (c.enc x)):=rfl
theorem oA_f {α:Type} {r:Row α} {H:List AObj} {n:Nat} {u5:Bool} {sz:Nat} {rows:List (List AV)}:(oA r).f H n (.acc u5 sz rows)=(mapO r.dec rows).bind fun xs=>some (.acc u5 sz (mp r.enc xs)):=rfl
def Z8:List ZO→List AObj→Nat→List AObj→Option (List AObj)
 |[],_,_,_=>some []
 |z::zs,H,n,v::vs=>(z.f H n v).bind fun u=>(Z8 zs H n vs).bind fun us=>some (u::us)
 |_::_,_,_,[]=>none
theorem zipO_ok: ∀ {zs:List ZO} {H:List AObj} {n:Nat} {vs us:List AObj},Z8 zs H n vs=some us→Lr H n vs us∧us.length=zs.length
 |[],_,_,vs,us,h=>by simp only[Z8,ff] at h;subst h;exact ⟨Lr.nil,rfl⟩
 |z::zs,H,n,v::vs,us,h=>by
  simp only[Z8,fc,ff] at h
  obtain ⟨u,hu,ws,hws,rfl⟩:=h
  obtain ⟨h1,h2⟩:=zipO_ok hws
  exact ⟨⟨z.ok _ _ _ _ hu,h1⟩,by simp [h2]⟩
 |_::_,_,_,[],_,h=>by simp [Z8] at h
theorem XN {n:Nat}:Vr n []=True:=eq_true Nd
theorem VO {n:Nat} {p:FuncId×List AV} {r:List (FuncId×List AV)}:Vr n (p::r)=(nbL n p.2∧Vr n r):=by
 apply propext
 constructor
 ·intro h;exact ⟨h p (by simp),fun q hq=>h q (by simp [hq])⟩
 ·rintro ⟨h1,h2⟩ q hq
  rcases fG.1 hq with rfl|hq
  ·exact h1
  ·exact h2 q hq
noncomputable def nrmZ (zs:List NZ) (zo:List ZO) (σ:AState):Option AState:=
 (P7 zs σ.heap zo.length σ.slots).bind fun ss=>(Z8 zo σ.heap zo.length σ.heap).bind fun hs=>bif decide (σ.low≤zo.length) then pcond (Vr zo.length σ.df) (some ⟨ss,hs,σ.low,σ.df⟩) else none
theorem nrmZ_ok {zs:List NZ} {zo:List ZO} {σ σ':AState} (h:nrmZ zs zo σ=some σ'):FN σ σ':=by
 unfold nrmZ at h
 simp only[fc] at h
 obtain ⟨ss,h1,hs,h2,h3⟩:=h
 cases hl:decide (σ.low≤zo.length) with
 |false=>simp [hl] at h3
 |true=>
  simp only[hl,cond_true] at h3
  rw[pU] at h3
  obtain ⟨hdf,h3⟩:=h3
  simp only[ff] at h3
  subst h3
  obtain ⟨h4,h5⟩:=zipO_ok h2
  have hle:σ.low≤hs.length:=by rw[h5];exact of_decide_eq_true hl
  refine S6.imp ⟨⟨⟨rfl,hle⟩,rfl,by rw[h5];exact hdf⟩,?_,?_⟩
  ·show AE σ.heap hs.length σ.slots ss
   rw[h5];exact QH h1
  ·show Lr σ.heap hs.length σ.heap hs
   rw[h5];exact h4
def Jb (i sz:Nat) (u5:Bool) (σ:AState):AState:=
 match σ.slots[i]? with
 |some (.nY true _ [])=>{slots:=σ.slots.set i (.acc σ.heap.length 0),heap:=σ.heap++[.acc u5 sz []],low:=σ.low,df:=σ.df}
 |_=>σ
theorem XO {i sz:Nat} {u5:Bool} {σ:AState}:FN σ (Jb i sz u5 σ):=by
 unfold Jb
 split
 ·rename_i s h
  exact WZ h
 ·exact FN.refl σ
end Go.Abs
namespace Go.Abs
section ghost
variable {C:Ctx} {φ:Nat→Value} {σ:AState} {a:Act} {w:World}
theorem JI {cs ds:List AV} {h:Value} {b o:Nat}:(AObj.cells cs).muts h b o→(AObj.cells ds).muts h b o:=by
 intro hm
 cases h with
 |pointer p=>cases p<;>exact hm
 |_=>exact hm
theorem Fp {cs ds:List AV} {h:Value} {b:Nat}:(AObj.cells cs).block h b→(AObj.cells ds).block h b:=by
 intro hm
 cases h with
 |pointer p=>cases p<;>exact hm
 |_=>exact hm
theorem JJ {H:List AObj} {l:Nat} {cs ds:List AV} (hl:H[l]? =some (.cells cs)) {k:Nat} {x:AObj} (hx:(H.set l (.cells ds))[k]? =some x):(k=l∧x= .cells ds)∨(k≠l∧H[k]? =some x):=by
 by_cases e:k=l
 ·subst e
  have hlt:k<H.length:=(fk.1 hl).1
  rw[fm hlt] at hx
  cases hx;exact .inl ⟨rfl,rfl⟩
 ·rw[fo (fun h=>e h.symm)] at hx
  exact .inr ⟨e,hx⟩
theorem Z9 {l:Nat} {cs ds:List AV} (hl:σ.heap[l]? =some (.cells cs)):C.env φ (σ.heap.set l (.cells ds)) w=C.env φ σ.heap w:=by
 have hlt:l<σ.heap.length:=(fk.1 hl).1
 have LN: ∀b o,Cg φ (σ.heap.set l (.cells ds)) b o↔Cg φ σ.heap b o:=by
  intro b o
  constructor
  ·rintro ⟨k,x,hx,hm⟩
   rcases JJ hl hx with ⟨rfl,rfl⟩|⟨_,hx⟩
   ·exact ⟨k,_,hl,JI hm⟩
   ·exact ⟨k,x,hx,hm⟩
  ·rintro ⟨k,x,hx,hm⟩
   by_cases e:k=l
   ·subst e
    rw[hl] at hx;cases hx
    exact ⟨k,_,fm hlt,JI hm⟩
   ·exact ⟨k,x,by rw[fo (fun h=>e h.symm)];exact hx,hm⟩
 unfold Ctx.env
 congr 1
 ·funext b o
  exact propext (or_congr (LN b o) Iff.rfl)
 ·funext k
  by_cases e:k=l
  ·subst e;rw[fm hlt,hl];rfl
  ·rw[fo (fun h=>e h.symm)]
 ·exact fM
theorem ql.recell (S:ql C φ σ a w) {l:Nat} {cs ds:List AV} (hl:σ.heap[l]? =some (.cells cs)) (h: ∀b c t,φ l= .pointer (some ⟨b,0,none⟩)→w.heap[b]? =some (.cells c t (0,0))→nj (C.env φ σ.heap w) cs c.toList→nj (C.env φ σ.heap w) ds c.toList):
 ql C φ {σ with heap:=σ.heap.set l (.cells ds)} a w:=by
 have hlt:l<σ.heap.length:=(fk.1 hl).1
 have henv:C.env φ (σ.heap.set l (.cells ds)) w=C.env φ σ.heap w:=Z9 hl
 have Az:uT C φ (σ.heap.set l (.cells ds)) w σ.df a.defers:=S.defers.step' (fun xs vs _ r=>by rw[henv];exact r) (fun _ _ _=>rfl) (fun k x b hx hb=>by
  rcases JJ hl hx with ⟨rfl,rfl⟩|⟨_,hx⟩
  ·exact .inl ⟨k,_,hl,Fp hb⟩
  ·exact .inl ⟨k,x,hx,hb⟩)
 refine {slots:= ?_,defers:=Az,objs:= ?_,apart:= ?_,vE:= ?_,size:=S.size,old:=S.old,qM:=S.qM,Be:= ?_,wZ:=S.wZ,rest:=S.rest,low:=⟨S.low.1,by show σ.low≤(σ.heap.set l (.cells ds)).length;rw[fM];exact S.low.2⟩,names:= ?_}
 ·show nj (C.env φ (σ.heap.set l (.cells ds)) w) σ.slots a.tmps.toList
  rw[henv];exact S.slots
 ·intro k x hx
  show qQ (C.env φ (σ.heap.set l (.cells ds)) w) x (φ k)
  rw[henv]
  rcases JJ hl hx with ⟨rfl,rfl⟩|⟨_,hx⟩
  ·obtain ⟨b,c,t,h1,h2,h3,h4⟩:=S.objs k _ hl
   exact ⟨b,c,t,h1,h2,h b c t h1 h2 h3,h4⟩
  ·exact S.objs k x hx
 ·intro k k' x x' b hx hx' hb hb'
  rcases JJ hl hx with ⟨e1,rfl⟩|⟨_,h2⟩<;>rcases JJ hl hx' with ⟨e2,rfl⟩|⟨_,h3⟩
  ·rw[e1,e2]
  ·rw[e1] at hb ⊢;exact S.apart _ _ _ _ b hl h3 (Fp hb) hb'
  ·rw[e2] at hb' ⊢;exact S.apart _ _ _ _ b h2 hl hb (Fp hb')
  ·exact S.apart _ _ _ _ b h2 h3 hb hb'
 ·intro k x b o hx hb
  rcases JJ hl hx with ⟨rfl,rfl⟩|⟨_,hx⟩
  ·exact S.vE _ _ b o hl (Fp hb)
  ·exact S.vE _ _ b o hx hb
 ·intro k x b o hx hm hb
  rcases JJ hl hx with ⟨rfl,rfl⟩|⟨_,hx⟩
  ·exact S.Be _ _ b o hl (JI hm) hb
  ·exact S.Be _ _ b o hx hm hb
 ·intro k hk
  have:=S.names k hk
  show (φ k=_∧(oW (σ.heap.set l (.cells ds))[k]? =_∨oW (σ.heap.set l (.cells ds))[k]? =none))∨((∃q,_∧ ∀k',oW (σ.heap.set l (.cells ds))[k]? =some k'→q<k')∧_)
  have e:oW (σ.heap.set l (.cells ds))[k]? =oW σ.heap[k]? :=by
   by_cases e:k=l
   ·subst e;rw[fm hlt,hl];rfl
   ·rw[fo (fun h=>e h.symm)]
  rw[e];exact this
theorem ghostCell {l off s sz:Nat} {cs:List AV} (hl:σ.heap[l]? =some (.cells cs)) (hc:cs[off]? =some (.nY true s [])):
 FN σ {slots:=σ.slots,heap:=σ.heap.set l (.cells (cs.set off (.acc σ.heap.length 0)))++[.acc true sz []],low:=σ.low,df:=σ.df}:=by
 intro C φ a w S
 have hlt:l<σ.heap.length:=(fk.1 hl).1
 obtain ⟨b,c,t,hφ,hh,rl,h1⟩:=S.objs l _ hl
 obtain ⟨v,hv,base,cap,rfl,_,hcap,_⟩:=rl.get hc
 have hcap:cap=0:=hcap rfl
 subst hcap
 have S':=S.M5 (u5:=true) (sz:=sz) (rows:=[]) (w':=w) (h':= .slice base 0 0) (fy _) (fun _ _=>rfl) (fun _=>rfl) ⟨rfl,rfl⟩ (by
  intro b hb
  cases base<;>simp [AObj.block] at hb) (fun E' _ _=>⟨base,0,rfl,fy _,fun _=>rfl,by simp,fun b _ h0=>absurd rfl h0⟩)
 refine ⟨(fun k=>if k=σ.heap.length then .slice base 0 0 else φ k),?_⟩
 have hl':(σ.heap++[AObj.acc true sz []])[l]? =some (.cells cs):=by rw[fC hlt];exact hl
 have S2:=S'.recell (l:=l) (cs:=cs) (ds:=cs.set off (.acc σ.heap.length 0)) hl' (by
  intro b2 c2 t2 h3 h4 r
  have e1:b2=b:=by
   have h3':(if l=σ.heap.length then Value.slice base 0 0 else φ l)= .pointer (some ⟨b2,0,none⟩):=h3
   rw[if_neg (by omega),hφ] at h3'
   simpa using h3'.symm
  subst e1
  rw[show w.heap[b2]? =some (.cells c t (0,0)) from hh] at h4
  simp only[ff,Obj.cells.injEq] at h4
  obtain ⟨rfl,_⟩:=h4
  have P5:=nj.set (i:=off) (c:= .acc σ.heap.length 0) (v:= .slice base 0 0) r ⟨by simp [Ctx.env],⟨_,_,_,rfl⟩,fun k hk=>by
   simp only[Ctx.env,fB (fy _),Nat.sub_self,fP,oW,ff] at hk
   exact ⟨by simp,fun _=>by simp [Ctx.env]⟩⟩
  have hsame:c.toList.set off (.slice base 0 0)=c.toList:=by
   obtain ⟨hlt2,he⟩:=fk.1 hv
   have he':c.toList[off]= .slice base 0 0:=he
   rw[←he',List.set_getElem_self]
  rw[hsame] at P5
  exact P5)
 have P5:(σ.heap++[AObj.acc true sz []]).set l (.cells (cs.set off (.acc σ.heap.length 0)))=σ.heap.set l (.cells (cs.set off (.acc σ.heap.length 0)))++[.acc true sz []]:=by
  rw[List.set_append_left _ _ hlt]
 rw[P5] at S2
 exact S2
def gCell (l off sz:Nat) (σ:AState):AState:=
 match σ.heap[l]? with
 |some (.cells cs)=>match cs[off]? with
  |some (.nY true _ [])=>{slots:=σ.slots,heap:=σ.heap.set l (.cells (cs.set off (.acc σ.heap.length 0)))++[.acc true sz []],low:=σ.low,df:=σ.df}
  |_=>σ
 |_=>σ
theorem gCell_ok {l off sz:Nat} {σ:AState}:FN σ (gCell l off sz σ):=by
 unfold gCell
 split
 ·rename_i cs hl
  split
  ·rename_i s hc
   exact ghostCell hl hc
  ·exact FN.refl σ
 ·exact FN.refl σ
end ghost
structure Nrm where
 gs:List (Nat×Nat×Bool)
 gc:List (Nat×Nat×Nat)
 zs:List NZ
 zo:List ZO
 sel:Option Nat
 selm:Option (Nat×Nat)
def isLstS:Option AV→Bool
 |some (.nY _ _ _)=>true
 |_=>false
def selO:Option Nat→AState→Bool
 |none,_=>true
 |some i,σ=>isLstS σ.slots[i]?
def isMapS (k:Nat):Option AV→Bool
 |some (.map k')=>k'==k
 |_=>false
def selM:Option (Nat×Nat)→AState→Bool
 |none,_=>true
 |some (i,k),σ=>isMapS k σ.slots[i]?
def VP:List (Nat×Nat×Bool)→AState→AState
 |[],σ=>σ
 |(i,sz,b)::r,σ=>VP r (Jb i sz b σ)
def RB:List (Nat×Nat×Nat)→AState→AState
 |[],σ=>σ
 |(l,o,sz)::r,σ=>RB r (gCell l o sz σ)
theorem UI: ∀ {g:List (Nat×Nat×Bool)} {σ:AState},FN σ (VP g σ)
 |[],σ=>FN.refl σ
 |(_,_,_)::_,_=>XO.trans UI
theorem Ou: ∀ {g:List (Nat×Nat×Nat)} {σ:AState},FN σ (RB g σ)
 |[],σ=>FN.refl σ
 |(_,_,_)::_,_=>gCell_ok.trans Ou
noncomputable def nrmN (N:Nrm) (σ:AState):Option AState:=nrmZ N.zs N.zo (RB N.gc (VP N.gs σ))
theorem nrmN_ok {N:Nrm} {σ σ':AState} (h:nrmN N σ=some σ'):FN σ σ':=(UI.trans Ou).trans (nrmZ_ok h)
noncomputable def oO:List (List Nat×Nrm)→List Nat→AState→Option AState
 |[],_,σ=>some σ
 |(q,N)::t,p,σ=>if p=q then (bif selO N.sel σ&&selM N.selm σ then nrmN N σ else oO t p σ) else oO t p σ
theorem nT: ∀ (t:List (List Nat×Nrm)) (p:List Nat) (σ σ':AState),oO t p σ=some σ'→FN σ σ'
 |[],_,σ,σ',h=>by simp only[oO,ff] at h;subst h;exact FN.refl _
 |(q,N)::t,p,σ,σ',h=>by
  simp only[oO] at h
  split at h
  ·cases hs:(selO N.sel σ&&selM N.selm σ) with
   |true=>rw[hs] at h;exact nrmN_ok h
   |false=>rw[hs] at h;exact nT t p σ σ' h
  ·exact nT t p σ σ' h
def ixA (σ:AState) (sz:Nat) (x i:AV):Option wL:=
 match x,i with
 | .nY _ sz' rows,.int _ n=>if sz'=sz then (xz rows n).bind fun r=>some {val:= .pp r} else none
 | .acc l m,.int _ n=>match σ.heap[l]? with
   |some (.acc true sz' rows)=>if sz'=sz∧rows.length=m then (xz rows n).bind fun r=>some {val:= .pp r,rd:=[l]} else none
   |some (.acc false sz' rows)=>if sz'=sz∧rows.length=m then (xz rows n).bind fun _=>some {val:= .own l n.toNat m 0 sz,rd:=[l]} else none
   |_=>none
 |_,_=>none
def idxB (s:ByteArray) (n:Int):Option UInt8:=if 0≤n then s[n.toNat]? else none
def ixS (x i:AV):Option wL:=
 match x,i with
 | .str s,.int _ n=>(idxB s n).bind fun b=>some {val:= .int .u8 b.toNat}
 |_,_=>none
def ldA (P:Program) (σ:AState) (t:TypeId) (v:AV):Option wL:=
 match so P t,v with
 |some (g,n),.ptr l off=>match σ.heap[l]? with
  |some (.cells cs)=>(qF g n (cs.drop off)).bind fun v=>ldV σ.heap l v
  |_=>none
 |some (g,n),.pp cs=>(qF g n cs).bind fun v=>some {val:=v}
 |some (g,n),.own l i m o sz=>match σ.heap[l]? with
  |some (.acc false sz' rows)=>if sz'=sz∧rows.length=m then rows[i]?.bind fun r=>(qF g n (r.drop o)).bind fun v=>some {val:=v,rd:=[l]} else none
  |_=>none
 |some (false,_),.raw v=>QS v
 |_,_=>none
def stA (P:Program) (σ:AState) (t:TypeId) (v:AV) (ys:Option (List AV)):Option wL:=
 match so P t,v,ys with
 |some (_,n),.ptr l off,some ys=>match σ.heap[l]? with
  |some (.cells cs)=>if ys.length=n∧off+n≤cs.length then some {val:= .any,rd:=[l],up:=[(l,.cells (splice cs off ys))]} else none
  |_=>none
 |some (_,n),.own l i m o sz,some ys=>match σ.heap[l]? with
  |some (.acc false sz' rows)=>if sz'=sz∧rows.length=m then rows[i]?.bind fun r=>if ys.length=n∧o+n≤sz then some {val:= .any,rd:=[l],up:=[(l,.acc false sz (rows.set i (splice r o ys)))]} else none else none
  |_=>none
 |_,_,_=>none
def selI (n:Int) (f:Nat→Option wL):Nat→Nat→Option wL
 |0,_=>none
 |c+1,i=>bif n==(i:Int) then f i else selI n f c (i+1)
theorem selI_eq {n:Int} {f:Nat→Option wL}: ∀ (c i:Nat),selI n f c i=if (i:Int)≤n∧n<(i:Int)+c then f n.toNat else none
 |0,i=>by rw[if_neg (by omega)];rfl
 |c+1,i=>by
  rw[selI,selI_eq c (i+1)]
  cases h:n==(i:Int) with
  |true=>
   have:=beq_iff_eq.1 h
   subst this
   rw[cond_true,if_pos (by omega:(i:Int)≤(i:Int)∧(i:Int)<(i:Int)+((c+1:Nat):Int)),Int.toNat_natCast]
  |false=>
   have:=beq_eq_false_iff_ne.1 h
   rw[cond_false]
   by_cases h2:(i:Int)≤n∧n<(i:Int)+((c+1:Nat):Int)
   ·rw[if_pos h2,if_pos (by omega)]
   ·rw[if_neg h2,if_neg (by omega)]
def ixP (len sz:Nat) (x i:AV):Option wL:=
 match x,i with
 | .ptr l off,.int _ n=>if len≤8 then selI n (fun i=>some {val:= .ptr l (off+i*sz)}) len 0 else if 0≤n∧n<len then some {val:= .ptr l (off+n.toNat*sz)} else none
 | .pp cs,.int _ n=>if 0≤n∧n<len then (QO sz n.toNat cs).bind fun ds=>some {val:= .pp ds} else none
 | .raw (.pointer (some ⟨b,o,none⟩)),.int _ n=>if 0≤n∧n<len then some {val:= .raw (.pointer (some ⟨b,o+n.toNat*sz,none⟩))} else none
 |_,_=>none
def FW (P:Program) (σ:AState):Op→Option wL
 | .indexAddr t x i=>match q8 P t with
   |some (_,sz,_)=>ixA σ sz (σ.ev x) (σ.ev i)
   |none=>match WH P t with
    |some (len,sz)=>ixP len sz (σ.ev x) (σ.ev i)
    |none=>none
 | .index t x i=>if vU P t=true then ixS (σ.ev x) (σ.ev i) else none
 | .binOp op t x y ty=>match op with
   | .eql=>n6 P σ (.binOp .eql t x y ty)
   | .neq=>n6 P σ (.binOp .neq t x y ty)
   |op=>(Un op (σ.ev x) (σ.ev y)).bind fun v=>some {val:=v}
 | .load t x=>ldA P σ t (σ.ev x)
 | .store t x y=>stA P σ t (σ.ev x) (cellsOf (σ.ev y))
 |o=>n6 P σ o
theorem ED (H:List AObj): ∀cs:List AV,nbL 0 cs→N6 H cs=some (cs,[])
 |[],_=>rfl
 |c::cs,h=>by
  have ih:=ED H cs h.2
  cases c with
  |acc l n=>exact absurd h.1 (fR _)
  |_=>simp only[N6,ih]
theorem sK (P:Program) (σ:AState) (o:Op):n6 P σ o=FW P σ o:=by
 cases o with
 |indexAddr t x i=>
  simp only[FW]
  cases ht:q8 P t with
  |none=>
   simp only[n6,ht]
   cases hr:WH P t with
   |none=>rfl
   |some q=>
    obtain ⟨len,sz⟩:=q
    simp only
    unfold ixP
    split
    ·rename_i l off k n hx hi
     simp only[hx,hi]
     by_cases h8:len≤8
     ·rw[if_pos h8,selI_eq];simp
     ·rw[if_neg h8]
    ·rename_i cs k n hx hi
     simp only[hx,hi]
    ·rename_i b o k n hx hi
     simp only[hx,hi]
    ·rename_i h1 h2 h3
     split
     ·rename_i l off k n hx hi;exact absurd hi (h1 l off k n hx)
     ·rename_i cs k n hx hi;exact absurd hi (h2 cs k n hx)
     ·rename_i b o k n hx hi;exact absurd hi (h3 b o k n hx)
     ·rfl
  |some q=>
   obtain ⟨e,sz,b⟩:=q
   simp only[n6,ht]
   cases hx:σ.ev x<;>cases hi:σ.ev i<;>simp only[ixA]
   ·rename_i tt sz' rows k n
    by_cases h1:sz'=sz
    ·by_cases h2:0≤n
     ·simp only[h1,h2,and_self,if_true,xz]
      cases rows[n.toNat]? <;>rfl
     ·simp only[h1,h2,and_false,if_false,if_true,xz];rfl
    ·simp only[h1,false_and,if_false]
   ·rename_i l m k n
    cases hl:σ.heap[l]? with
    |none=>rfl
    |some ob=>
     cases ob with
     |acc u5 sz' rows=>
      cases u5 with
      |false=>
       simp only
       by_cases h1:sz'=sz
       ·by_cases h3:rows.length=m
        ·by_cases h2:0≤n
         ·by_cases h4:n<m
          ·have h5:n.toNat<rows.length:=by omega
           simp only[h1,h2,h3,h4,and_self,if_true,xz,fj h5];rfl
          ·have h5:rows.length≤n.toNat:=by omega
           simp only[h1,h2,h3,h4,and_false,if_false,and_self,if_true,xz,fQ h5];rfl
         ·simp only[h1,h2,h3,and_false,false_and,if_false,and_self,if_true,xz];rfl
        ·simp only[h3,and_false,false_and,if_false]
       ·simp only[h1,false_and,if_false]
      |true=>
       simp only
       by_cases h1:sz'=sz
       ·by_cases h3:rows.length=m
        ·by_cases h2:0≤n
         ·simp only[h1,h2,h3,and_self,if_true,xz]
          cases rows[n.toNat]? <;>rfl
         ·simp only[h1,h2,h3,and_false,false_and,if_false,and_self,if_true,xz];rfl
        ·simp only[h3,and_false,if_false]
       ·simp only[h1,false_and,if_false]
     |_=>rfl
 |index t x i=>
  simp only[FW,n6]
  cases ht:vU P t
  ·cases hx:σ.ev x<;>cases hi:σ.ev i<;>simp
  ·cases hx:σ.ev x<;>cases hi:σ.ev i<;>simp only[ixS,if_true]
   rename_i s k n
   by_cases h2:0≤n
   ·simp only[h2,if_true,idxB]
    cases s[n.toNat]? <;>rfl
   ·simp only[h2,if_false,idxB];rfl
 |binOp op t x y ty=>
  cases op with
  |eql=>rfl
  |neq=>rfl
  |_=>
   simp only[FW,n6]
   generalize Un _ (σ.ev x) (σ.ev y)=q
   cases q<;>rfl
 |load t x=>
  simp only[FW,n6,ldA]
  cases ht:so P t with
  |none=>rfl
  |some q=>
   obtain ⟨g,n⟩:=q
   cases hx:σ.ev x with
   |ptr l off=>
    cases hl:σ.heap[l]? with
    |none=>simp only[hl]
    |some ob=>
     cases ob with
     |cells cs=>
      simp only[hl]
      cases qF g n (cs.drop off)<;>rfl
     |_=>simp only[hl]
   |pp cs=>
    simp only
    cases qF g n cs<;>rfl
   |own l i m o sz=>
    cases hl:σ.heap[l]? with
    |none=>simp only[hl]
    |some ob=>
     cases ob with
     |acc u5 sz' rows=>
      cases u5 with
      |true=>simp only[hl]
      |false=>
       simp only[hl]
       split
       ·cases rows[i]? with
        |none=>rfl
        |some r=>
         simp only[fF]
         cases qF g n (r.drop o)<;>rfl
       ·rfl
     |_=>simp only[hl]
   |raw v=>cases g<;>rfl
   |_=>rfl
 |store t x y=>
  simp only[FW,n6,stA]
  cases ht:so P t with
  |none=>rfl
  |some q=>
   obtain ⟨g,n⟩:=q
   cases hx:σ.ev x with
   |ptr l off=>
    cases cellsOf (σ.ev y) with
    |none=>rfl
    |some ys=>
     cases hl:σ.heap[l]? with
     |none=>simp only[hl]
     |some ob=>cases ob<;>simp only[hl]
   |own l i m o sz=>
    cases cellsOf (σ.ev y) with
    |none=>rfl
    |some ys=>
     cases hl:σ.heap[l]? with
     |none=>simp only[hl]
     |some ob=>
      cases ob with
      |acc u5 sz' rows=>
       cases u5 with
       |true=>simp only[hl]
       |false=>
        simp only[hl]
        split
        ·cases rows[i]? <;>rfl
        ·rfl
      |_=>simp only[hl]
   |_=>rfl
 |_=>rfl
end Go.Abs
namespace Go.Abs
section freeze
variable {C:Ctx} {φ:Nat→Value} {σ:AState} {a:Act} {w:World}
def rp1 (l:Nat) (cs:List AV):AV→AV
 | .ptr k off=>if k=l then .pp (cs.drop off) else .ptr k off
 |x=>x
def rpV (l:Nat) (cs:List AV):AV→AV
 | .ptr k off=>if k=l then .pp (cs.drop off) else .ptr k off
 | .func fn f c=> .func fn (f.map (rp1 l cs)) (c.map (rp1 l cs))
 |x=>x
def rpO (l:Nat) (cs:List AV):AObj→AObj
 | .cells ds=> .cells (ds.map (rpV l cs))
 |x=>x
noncomputable def XP (l:Nat) (σ:AState):Option AState:=
 match σ.heap[l]? with
 |some (.cells cs)=>pcond (nbL 0 cs∧σ.low≤l) (some {slots:=σ.slots.map (rpV l cs),heap:=(σ.heap.map (rpO l cs)).set l .dead,low:=σ.low,df:=σ.df})
 |_=>none
theorem XQ {l:Nat} {cs:List AV} {x:AObj} {h:Value} {b o:Nat}:(rpO l cs x).muts h b o→x.muts h b o:=by
 cases x with
 |cells ds=>exact JI
 |_=>exact id
theorem Jc {l:Nat} {cs:List AV} {x:AObj} {h:Value} {b:Nat}:(rpO l cs x).block h b→x.block h b:=by
 cases x with
 |cells ds=>exact Fp
 |_=>exact id
theorem rpO_len {l:Nat} {cs:List AV} {x:AObj}:oW (some (rpO l cs x))=oW (some x):=by
 cases x<;>rfl
theorem fz_get {H:List AObj} {l k:Nat} {cs:List AV} {y:AObj} (h:((H.map (rpO l cs)).set l .dead)[k]? =some y):(k=l∧y= .dead)∨(k≠l∧ ∃x,H[k]? =some x∧y=rpO l cs x):=by
 by_cases e:k=l
 ·subst e
  by_cases hk:k<H.length
  ·rw[fm (by simpa using hk)] at h;cases h;exact .inl ⟨rfl,rfl⟩
  ·rw[fQ (by simp;omega)] at h;cases h
 ·rw[fo (fun h=>e h.symm),fK] at h
  cases hx:H[k]? with
  |none=>rw[hx] at h;cases h
  |some x=>rw[hx] at h;cases h;exact .inr ⟨e,x,rfl,rfl⟩
theorem fzOne_ok {l:Nat} {σ σ':AState} (h:XP l σ=some σ'):FN σ σ':=by
 unfold XP at h
 split at h
 case h_2=>cases h
 rename_i cs hl
 rw[pU] at h
 obtain ⟨⟨hnb,Dt⟩,h⟩:=h
 cases h
 intro C φ a w S
 refine ⟨φ,?_⟩
 have hlt:l<σ.heap.length:=(fk.1 hl).1
 obtain ⟨b0,c0,t0,hφ,hh,rl,hone⟩:=S.objs l _ hl
 let H':List AObj:=(σ.heap.map (rpO l cs)).set l .dead
 have hlen:H'.length=σ.heap.length:=by simp [H']
 have qb: ∀ (k:Nat) (y:AObj),H'[k]? =some y→(k=l∧y= .dead)∨(k≠l∧ ∃x,σ.heap[k]? =some x∧y=rpO l cs x):=fun k y hy=>fz_get hy
 have BZ: ∀b o,Cg φ H' b o→Cg φ σ.heap b o:=by
  rintro b o ⟨k,y,hy,hm⟩
  rcases qb k y hy with ⟨_,rfl⟩|⟨_,x,hx,rfl⟩
  ·simp [AObj.muts] at hm
  ·exact ⟨k,x,hx,XQ hm⟩
 have Pn: ∀k:Nat,oW H'[k]? =oW σ.heap[k]? :=by
  intro k
  by_cases e:k=l
  ·subst e
   simp only[H']
   rw[fm (by simpa using hlt),hl];rfl
  ·simp only[H']
   rw[fo (fun h=>e h.symm),fK]
   cases σ.heap[k]? with
   |none=>rfl
   |some x=>exact rpO_len
 have le:(C.env φ σ.heap w).Le σ.heap.length (C.env φ H' w):=
  Ctx.zY (by rw[hlen];exact fy _) (fun k _=>⟨rfl,Pn k⟩) (fun b o u hm hc=>⟨fun h=>hm (h.imp (BZ b o) id),hc⟩)
 have hfree: ∀o,¬ (Cg φ H' b0 o∨C.A b0 o):=by
  rintro o (⟨k,y,hy,hm⟩|hA)
  ·rcases qb k y hy with ⟨_,rfl⟩|⟨hne,x,hx,rfl⟩
   ·simp [AObj.muts] at hm
   ·exact hne (S.apart k l x _ b0 hx hl (Jc (AObj.qU hm)) (by rw[hφ];rfl))
  ·exact S.vE l _ b0 o hl (by rw[hφ];rfl) hA
 have rl':nj (C.env φ H' w) cs c0.toList:=nj.mono le _ _ (sP (gv _) _ hnb) rl
 have hpp: ∀ (off:Nat) (v:Value),rE (C.env φ σ.heap w) (.ptr l off) v→rE (C.env φ H' w) (.pp (cs.drop off)) v:=by
  rintro off v ⟨_,b,hb,rfl⟩
  have e:b0=b:=by
   have hb':φ l= .pointer (some ⟨b,0,none⟩):=hb
   rw[hφ] at hb';simpa using hb'
  subst e
  refine ⟨b0,off,rfl,?_⟩
  have hd:=rl'.drop off
  have h1: ∀u∈c0.toList.drop off,u.oneCell'=true:=fun u hu=>hone u (List.mem_of_mem_drop hu)
  have hl2:=hd.length
  exact FU (E:=C.env φ H' w) (c:=c0) (t:=t0) (fr:=(0,0)) hh _ off (fun o _ _=>hfree o) (by rw[gi (by omega)];exact hd) (by rw[gi (by omega)];exact h1)
 have h1: ∀ (x:AV) (v:Value),rE (C.env φ σ.heap w) x v→rE (C.env φ H' w) (rp1 l cs x) v:=by
  intro x v r
  cases x with
  |ptr k off=>
   simp only[rp1]
   split
   ·rename_i e;subst e;exact hpp off v r
   ·exact rE.mono le _ _ (rE.nb _ _ r) r
  |_=>exact rE.mono le _ _ (rE.nb _ _ r) r
 have hL1: ∀ (xs:List AV) (vs:List Value),nj (C.env φ σ.heap w) xs vs→nj (C.env φ H' w) (xs.map (rp1 l cs)) vs:=by
  intro xs
  induction xs with
  |nil=>intro vs r;exact r
  |cons x xs ih=>rintro _ ⟨u,us,rfl,r1,r2⟩;exact ⟨u,us,rfl,h1 x u r1,ih us r2⟩
 have hV: ∀ (x:AV) (v:Value),rE (C.env φ σ.heap w) x v→rE (C.env φ H' w) (rpV l cs x) v:=by
  intro x v r
  cases x with
  |ptr k off=>
   simp only[rpV]
   split
   ·rename_i e;subst e;exact hpp off v r
   ·exact rE.mono le _ _ (rE.nb _ _ r) r
  |func fn f c=>
   obtain ⟨f',c',hv,r1,r2⟩:=r
   exact ⟨f',c',hv,hL1 _ _ r1,hL1 _ _ r2⟩
  |_=>exact rE.mono le _ _ (rE.nb _ _ r) r
 have hLV: ∀ (xs:List AV) (vs:List Value),nj (C.env φ σ.heap w) xs vs→nj (C.env φ H' w) (xs.map (rpV l cs)) vs:=by
  intro xs
  induction xs with
  |nil=>intro vs r;exact r
  |cons x xs ih=>rintro _ ⟨u,us,rfl,r1,r2⟩;exact ⟨u,us,rfl,hV x u r1,ih us r2⟩
 have Az:uT C φ H' w σ.df a.defers:=S.defers.step le (fun _ _ _=>rfl) (fun k y b hy hb=>by
  rcases qb k y hy with ⟨_,rfl⟩|⟨_,x,hx,rfl⟩
  ·simp [AObj.block] at hb
  ·exact .inl ⟨k,x,hx,Jc hb⟩)
 refine {slots:=hLV _ _ S.slots,defers:=Az,objs:= ?_,apart:= ?_,vE:= ?_,size:=S.size,old:=S.old,qM:=S.qM,Be:= ?_,wZ:=S.wZ,rest:=S.rest,low:=⟨S.low.1,by show σ.low≤H'.length;rw[hlen];exact S.low.2⟩,names:= ?_}
 ·intro k y hy
  rcases qb k y hy with ⟨_,rfl⟩|⟨_,x,hx,rfl⟩
  ·exact trivial
  ·have r:=S.objs k x hx
   cases x with
   |cells ds=>
    obtain ⟨b,c,t,h1,h2,h3,h4⟩:=r
    exact ⟨b,c,t,h1,h2,hLV _ _ h3,h4⟩
   |_=>exact qQ.mono r le (fun _ _=>rfl)
 ·intro k k' y y' b hy hy' hb hb'
  rcases qb k y hy with ⟨_,rfl⟩|⟨_,x,hx,rfl⟩
  ·simp [AObj.block] at hb
  ·rcases qb k' y' hy' with ⟨_,rfl⟩|⟨_,x',hx',rfl⟩
   ·simp [AObj.block] at hb'
   ·exact S.apart k k' x x' b hx hx' (Jc hb) (Jc hb')
 ·intro k y b o hy hb
  rcases qb k y hy with ⟨_,rfl⟩|⟨_,x,hx,rfl⟩
  ·simp [AObj.block] at hb
  ·exact S.vE k x b o hx (Jc hb)
 ·intro k y b o hy hm hb
  rcases qb k y hy with ⟨_,rfl⟩|⟨_,x,hx,rfl⟩
  ·simp [AObj.muts] at hm
  ·exact S.Be k x b o hx (XQ hm) hb
 ·intro k hk
  have:=S.names k hk
  show (φ k=_∧(oW H'[k]? =_∨oW H'[k]? =none))∨((∃q,_∧ ∀k',oW H'[k]? =some k'→q<k')∧_)
  rw[Pn k];exact this
theorem RC {sz:Nat} {rows:List (List AV)} {h:Value} {b o:Nat}:(AObj.acc true sz rows).muts h b o→(AObj.acc false sz rows).muts h b o:=by
 intro hm
 cases h with
 |slice base n cap=>
  cases base with
  |none=>exact hm
  |some a=>exact ⟨hm.1,fun h=>by cases h⟩
 |_=>exact hm
theorem ql.u5 {C:Ctx} {φ:Nat→Value} {a:Act} {w:World} {σ:AState} {l sz:Nat} {rows:List (List AV)} (hl:σ.heap[l]? =some (.acc false sz rows)) (S:ql C φ σ a w):ql C φ {σ with heap:=σ.heap.set l (.acc true sz rows)} a w:=by
 have hlt:l<σ.heap.length:=(fk.1 hl).1
 let H':List AObj:=σ.heap.set l (.acc true sz rows)
 have hlen:H'.length=σ.heap.length:=by simp [H']
 have qb: ∀ (k:Nat) (y:AObj),H'[k]? =some y→(k=l∧y= .acc true sz rows)∨σ.heap[k]? =some y:=by
  intro k y hy
  by_cases e:k=l
  ·subst e
   simp only[H'] at hy
   rw[fm hlt] at hy;cases hy;exact .inl ⟨rfl,rfl⟩
  ·simp only[H'] at hy
   rw[fo (fun h=>e h.symm)] at hy;exact .inr hy
 have BZ: ∀b o,Cg φ H' b o→Cg φ σ.heap b o:=by
  rintro b o ⟨k,y,hy,hm⟩
  rcases qb k y hy with ⟨rfl,rfl⟩|hx
  ·exact ⟨k,_,hl,RC hm⟩
  ·exact ⟨k,y,hx,hm⟩
 have Pn: ∀k:Nat,oW H'[k]? =oW σ.heap[k]? :=by
  intro k
  by_cases e:k=l
  ·subst e
   simp only[H']
   rw[fm hlt,hl];rfl
  ·simp only[H']
   rw[fo (fun h=>e h.symm)]
 have le:(C.env φ σ.heap w).Le σ.heap.length (C.env φ H' w):=
  Ctx.zY (by rw[hlen];exact fy _) (fun k _=>⟨rfl,Pn k⟩) (fun b o u hm hc=>⟨fun h=>hm (h.imp (BZ b o) id),hc⟩)
 have By: ∀ {h:Value} {b:Nat},(AObj.acc true sz rows).block h b→(AObj.acc false sz rows).block h b:=by
  intro h b hb
  cases h with
  |slice base n cap=>cases base<;>exact hb
  |_=>exact hb
 have hblk2: ∀ (k:Nat) (y:AObj) (b:Nat),H'[k]? =some y→y.block (φ k) b→ ∃x,σ.heap[k]? =some x∧x.block (φ k) b:=by
  intro k y b hy hb
  rcases qb k y hy with ⟨rfl,rfl⟩|hx
  ·exact ⟨_,hl,By hb⟩
  ·exact ⟨y,hx,hb⟩
 have Az:uT C φ H' w σ.df a.defers:=S.defers.step le (fun _ _ _=>rfl) (fun k y b hy hb=>by
  obtain ⟨x,hx,hb'⟩:=hblk2 k y b hy hb
  exact .inl ⟨k,x,hx,hb'⟩)
 refine {slots:=nj.mono le _ _ (nj.nb _ _ S.slots) S.slots,defers:=Az,objs:= ?_,apart:= ?_,vE:= ?_,size:=S.size,old:=S.old,qM:=S.qM,Be:= ?_,wZ:=S.wZ,rest:=S.rest,low:=⟨S.low.1,by show σ.low≤H'.length;rw[hlen];exact S.low.2⟩,names:= ?_}
 ·intro k y hy
  rcases qb k y hy with ⟨rfl,rfl⟩|hx
  ·have r:qQ (C.env φ H' w) (.acc false sz rows) (φ k):=qQ.mono (S.objs k _ hl) le (fun _ _=>rfl)
   exact r
  ·exact qQ.mono (S.objs k y hx) le (fun _ _=>rfl)
 ·intro k k' y y' b hy hy' hb hb'
  obtain ⟨x,hx,Wy⟩:=hblk2 k y b hy hb
  obtain ⟨x',hx',hb2⟩:=hblk2 k' y' b hy' hb'
  exact S.apart k k' x x' b hx hx' Wy hb2
 ·intro k y b o hy hb
  obtain ⟨x,hx,Wy⟩:=hblk2 k y b hy hb
  exact S.vE k x b o hx Wy
 ·intro k y b o hy hm hb
  rcases qb k y hy with ⟨rfl,rfl⟩|hx
  ·exact S.Be k _ b o hl (RC hm) hb
  ·exact S.Be k y b o hx hm hb
 ·intro k hk
  have:=S.names k hk
  show (φ k=_∧(oW H'[k]? =_∨oW H'[k]? =none))∨((∃q,_∧ ∀k',oW H'[k]? =some k'→q<k')∧_)
  rw[Pn k];exact this
theorem imp_imm {σ:AState} {l sz:Nat} {rows:List (List AV)} (hl:σ.heap[l]? =some (.acc false sz rows)):FN σ {σ with heap:=σ.heap.set l (.acc true sz rows)}:=fun _ φ _ _ S=>⟨φ,ql.u5 hl S⟩
def XR (σ:AState) (l:Nat):Option AObj→AState
 |some (.acc false sz rows)=>{σ with heap:=σ.heap.set l (.acc true sz rows)}
 |_=>σ
theorem immO_ok {σ:AState} {l:Nat}:FN σ (XR σ l σ.heap[l]?):=by
 unfold XR
 split
 ·rename_i h;exact imp_imm h
 ·exact FN.refl _
def immV (σ:AState):Option AV→AState
 |some (.acc l _)=>XR σ l σ.heap[l]?
 |_=>σ
theorem immV_f {σ:AState}:(∀l n,immV σ (some (.acc l n))=XR σ l σ.heap[l]?):=fun _ _=>rfl
theorem immO_f {σ:AState} {l:Nat}:(∀sz rows,XR σ l (some (.acc false sz rows))={σ with heap:=σ.heap.set l (.acc true sz rows)})∧(∀sz rows,XR σ l (some (.acc true sz rows))=σ):=⟨fun _ _=>rfl,fun _ _=>rfl⟩
end freeze
noncomputable def fzX (l:Nat) (σ:AState):Option AObj→Option AState
 |some (.acc _ _ _)=>some (XR σ l σ.heap[l]?)
 |_=>XP l σ
theorem fzX_ok {l:Nat} {σ σ':AState} {x:Option AObj} (h:fzX l σ x=some σ'):FN σ σ':=by
 unfold fzX at h
 split at h
 ·simp only[ff] at h;subst h;exact immO_ok
 ·exact fzOne_ok h
noncomputable def UJ:List Nat→AState→Option AState
 |[],σ=>some σ
 |l::ls,σ=>(fzX l σ σ.heap[l]?).bind (UJ ls)
theorem fzX_f {l:Nat} {σ:AState}:(∀i s r,fzX l σ (some (.acc i s r))=some (XR σ l σ.heap[l]?))∧(∀cs,fzX l σ (some (.cells cs))=XP l σ):=⟨fun _ _ _=>rfl,fun _=>rfl⟩
theorem XS: ∀ {ls:List Nat} {σ σ':AState},UJ ls σ=some σ'→FN σ σ'
 |[],σ,σ',h=>by simp only[UJ,ff] at h;subst h;exact FN.refl _
 |l::ls,σ,σ',h=>by
  simp only[UJ,fc] at h
  obtain ⟨σ1,h1,h2⟩:=h
  exact (fzX_ok h1).trans (XS h2)
noncomputable def oP:List (List Nat×List Nat)→List Nat→AState→Option AState
 |[],_,σ=>some σ
 |(q,ls)::t,p,σ=>if p=q then UJ ls σ else oP t p σ
theorem nU: ∀ (t:List (List Nat×List Nat)) (p:List Nat) (σ σ':AState),oP t p σ=some σ'→FN σ σ'
 |[],_,σ,σ',h=>by simp only[oP,ff] at h;subst h;exact FN.refl _
 |(q,ls)::t,p,σ,σ',h=>by
  simp only[oP] at h
  split at h
  ·exact XS h
  ·exact nU t p σ σ' h
section cels
def cI (k:IntKind):LO Int where
 enc n:=[.int k n]
 dec _ cs:=XL k cs
 ok H n cs x h:=by
  unfold XL at h
  split at h
  ·exact tX.cons (Gc h) tX.nil
  ·cases h
 nb _ _:=⟨trivial,trivial⟩
def cB:LO Bool where
 enc b:=[.bool b]
 dec _ cs:=dB1 cs
 ok H n cs x h:=by
  unfold dB1 at h
  split at h
  ·exact tX.cons (XK h) tX.nil
  ·cases h
 nb _ _:=⟨trivial,trivial⟩
def cS:LO Str where
 enc s:=[.str (sb s)]
 dec _ cs:=dS1 cs
 ok H n cs x h:=by
  unfold dS1 at h
  split at h
  ·exact tX.cons (Rx h) tX.nil
  ·cases h
 nb _ _:=⟨trivial,trivial⟩
variable {α β γ:Type}
def dL1 (r:Row α) (H:List AObj):List AV→Option (List α)
 |[c]=>dL r H c
 |_=>none
def cL (r:Row α):LO (List α) where
 enc xs:=[.nY false r.sz (mp r.enc xs)]
 dec:=dL1 r
 ok H n cs x h:=by
  unfold dL1 at h
  split at h
  ·exact tX.cons (I9 h) tX.nil
  ·cases h
 nb n xs:=⟨xk xs,trivial⟩
def dF1 (f:FuncId):List AV→Option Unit
 |[c]=>dF f c
 |_=>none
def cF (f:FuncId):LO Unit where
 enc _:=[.func (.func f) [] []]
 dec _ cs:=dF1 f cs
 ok H n cs x h:=by
  unfold dF1 at h
  split at h
  ·unfold dF at h
   split at h
   ·split at h
    ·rename_i e;subst e;exact tX.cons (Uz.sub (Sub.refl _) ⟨trivial,trivial⟩) tX.nil
    ·cases h
   ·cases h
  ·cases h
 nb _ _:=⟨⟨trivial,trivial⟩,trivial⟩
theorem cI_f {k:IntKind}:(∀n,(cI k).enc n=[.int k n])∧ ∀H cs,(cI k).dec H cs=XL k cs:=⟨fun _=>rfl,fun _ _=>rfl⟩
theorem cB_f:(∀n,cB.enc n=[.bool n])∧ ∀H cs,cB.dec H cs=dB1 cs:=⟨fun _=>rfl,fun _ _=>rfl⟩
theorem cS_f:(∀n,cS.enc n=[.str (sb n)])∧ ∀H cs,cS.dec H cs=dS1 cs:=⟨fun _=>rfl,fun _ _=>rfl⟩
theorem cL_f {r:Row α}:(∀n,(cL r).enc n=[.nY false r.sz (mp r.enc n)])∧ ∀H cs,(cL r).dec H cs=dL1 r H cs:=⟨fun _=>rfl,fun _ _=>rfl⟩
theorem cF_f {f:FuncId}:(∀n,(cF f).enc n=[.func (.func f) [] []])∧ ∀H cs,(cF f).dec H cs=dF1 f cs:=⟨fun _=>rfl,fun _ _=>rfl⟩
def dP (c:LO α):AV→Option α
 | .pp cs=>c.dec [] cs
 |_=>none
theorem dP_ok {c:LO α} {v:AV} {x:α} (h:dP c v=some x):Sub v (.pp (c.enc x)):=by
 unfold dP at h
 split at h
 ·exact Sub.pp (c.ok [] 0 _ _ h).toSub.subM
 ·cases h
def tyP (c:LO α):Ty α where
 enc x:= .pp (c.enc x)
 dec _:=dP c
 ok H n v x h:=Co.sub (dP_ok h) (c.nb n x)
 nb n x:=c.nb n x
theorem tyP_enc {c:LO α} {x:α}:(tyP c).enc x= .pp (c.enc x):=rfl
theorem tyP_dec {c:LO α} {H:List AObj} {v:AV}:(tyP c).dec H v=dP c v:=rfl
def dK1 (f:FuncId) (a:Ty α):AV→Option α
 | .func (.func g) [] [x]=>if g=f then a.dec [] x else none
 |_=>none
def dK2 (f:FuncId) (a:Ty α) (b:Ty β):AV→Option (α×β)
 | .func (.func g) [] [x,y]=>if g=f then (a.dec [] x).bind fun u=>(b.dec [] y).bind fun v=>some (u,v) else none
 |_=>none
def dK3 (f:FuncId) (a:Ty α) (b:Ty β) (c:Ty γ):AV→Option (α×β×γ)
 | .func (.func g) [] [x,y,z]=>if g=f then (a.dec [] x).bind fun u=>(b.dec [] y).bind fun v=>(c.dec [] z).bind fun w=>some (u,v,w) else none
 |_=>none
def XT (f:FuncId) (a:Ty α):Ty α where
 enc x:= .func (.func f) [] [a.enc x]
 dec _:=dK1 f a
 ok H n v x h:=by
  unfold dK1 at h
  split at h
  ·split at h
   ·rename_i e;subst e
    exact Co.sub (Sub.func tD.nil (tD.cons (a.ok [] 0 _ _ h).toSub tD.nil)) ⟨trivial,a.nb n x,trivial⟩
   ·cases h
  ·cases h
 nb n x:=⟨trivial,a.nb n x,trivial⟩
def tyK2 (f:FuncId) (a:Ty α) (b:Ty β):Ty (α×β) where
 enc x:= .func (.func f) [] [a.enc x.1,b.enc x.2]
 dec _:=dK2 f a b
 ok H n v x h:=by
  unfold dK2 at h
  split at h
  ·split at h
   ·rename_i e;subst e
    simp only[fc,ff] at h
    obtain ⟨u,hu,w,hw,rfl⟩:=h
    exact Co.sub (Sub.func tD.nil (tD.cons (a.ok [] 0 _ _ hu).toSub (tD.cons (b.ok [] 0 _ _ hw).toSub tD.nil))) ⟨trivial,a.nb n u,b.nb n w,trivial⟩
   ·cases h
  ·cases h
 nb n x:=⟨trivial,a.nb n _,b.nb n _,trivial⟩
def tyK3 (f:FuncId) (a:Ty α) (b:Ty β) (c:Ty γ):Ty (α×β×γ) where
 enc x:= .func (.func f) [] [a.enc x.1,b.enc x.2.1,c.enc x.2.2]
 dec _:=dK3 f a b c
 ok H n v x h:=by
  unfold dK3 at h
  split at h
  ·split at h
   ·rename_i e;subst e
    simp only[fc,ff] at h
    obtain ⟨u,hu,w,hw,p,hp,rfl⟩:=h
    exact Co.sub (Sub.func tD.nil (tD.cons (a.ok [] 0 _ _ hu).toSub (tD.cons (b.ok [] 0 _ _ hw).toSub (tD.cons (c.ok [] 0 _ _ hp).toSub tD.nil)))) ⟨trivial,a.nb n u,b.nb n w,c.nb n p,trivial⟩
   ·cases h
  ·cases h
 nb n x:=⟨trivial,a.nb n _,b.nb n _,c.nb n _,trivial⟩
theorem tyK1_f {f:FuncId} {a:Ty α}:(∀x,(XT f a).enc x= .func (.func f) [] [a.enc x])∧ ∀H v,(XT f a).dec H v=dK1 f a v:=⟨fun _=>rfl,fun _ _=>rfl⟩
theorem tyK2_f {f:FuncId} {a:Ty α} {b:Ty β}:(∀x,(tyK2 f a b).enc x= .func (.func f) [] [a.enc x.1,b.enc x.2])∧ ∀H v,(tyK2 f a b).dec H v=dK2 f a b v:=⟨fun _=>rfl,fun _ _=>rfl⟩
theorem tyK3_f {f:FuncId} {a:Ty α} {b:Ty β} {c:Ty γ}:(∀x,(tyK3 f a b c).enc x= .func (.func f) [] [a.enc x.1,b.enc x.2.1,c.enc x.2.2])∧ ∀H v,(tyK3 f a b c).dec H v=dK3 f a b c v:=⟨fun _=>rfl,fun _ _=>rfl⟩
end cels
end Go.Abs
namespace Go.Abs
section objs
variable {α β γ:Type}
structure OTy (α:Type) where
 enc:α→AObj
 dec:List AObj→AObj→Option α
 ok: ∀H n x y,dec H x=some y→GB H n x (enc y)
 ren: ∀τ y,(enc y).ren τ=enc y
 nb: ∀n y,objNb n (enc y)
def daT (u5:Bool) (r:Row α):AObj→Option (List α)
 | .acc imm' sz rows=>if imm'=u5∧sz=r.sz then mapO r.dec rows else none
 |_=>none
def P8 (u5:Bool) (r:Row α):OTy (List α) where
 enc xs:= .acc u5 r.sz (mp r.enc xs)
 dec _:=daT u5 r
 ok H n x y h:=by
  unfold daT at h
  split at h
  ·split at h
   ·rename_i hc
    obtain ⟨rfl,rfl⟩:=hc
    exact .inr (.inr (.inr (.inl ⟨_,_,_,_,rfl,rfl,(EC h).2,xk y⟩)))
   ·cases h
  ·cases h
 ren τ y:=by simp only[AObj.ren];rw[wN τ _ (xk y)]
 nb n y:=xk y
def dcT (c:LO α) (H:List AObj):AObj→Option α
 | .cells cs=>c.dec H cs
 |_=>none
def ocT (c:LO α):OTy α where
 enc x:= .cells (c.enc x)
 dec:=dcT c
 ok H n x y h:=by
  unfold dcT at h
  split at h
  ·exact .inr (.inr (.inl ⟨_,_,rfl,rfl,(c.ok H n _ _ h).toCoL⟩))
  ·cases h
 ren τ y:=by simp only[AObj.ren];rw[uG τ _ (c.nb 0 y)]
 nb n y:=c.nb n y
theorem oaT_f {u5:Bool} {r:Row α}:(∀x,(P8 u5 r).enc x= .acc u5 r.sz (mp r.enc x))∧ ∀H x,(P8 u5 r).dec H x=daT u5 r x:=⟨fun _=>rfl,fun _ _=>rfl⟩
theorem ocT_f {c:LO α}:(∀x,(ocT c).enc x= .cells (c.enc x))∧ ∀H x,(ocT c).dec H x=dcT c H x:=⟨fun _=>rfl,fun _ _=>rfl⟩
structure Jd (β:Type) where
 enc:β→List AObj
 dec:List AObj→List AObj→Option β
 ok: ∀H n xs b,dec H xs=some b→Lr H n xs (enc b)∧(enc b).length=xs.length
 ren: ∀τ b,∀y∈enc b,y.ren τ=y
 nb: ∀n b,∀y∈enc b,objNb n y
def Ov:Jd Unit where
 enc _:=[]
 dec _
  |[]=>some ()
  |_=>none
 ok H n xs b h:=by
  split at h
  ·exact ⟨Lr.nil,rfl⟩
  ·cases h
 ren _ _:=by simp
 nb _ _:=by simp
def dosC (o:OTy γ) (s:Jd β) (H:List AObj):List AObj→Option (γ×β)
 |x::xs=>(o.dec H x).bind fun y=>(s.dec H xs).bind fun b=>some (y,b)
 |[]=>none
def RD (o:OTy γ) (s:Jd β):Jd (γ×β) where
 enc b:=o.enc b.1::s.enc b.2
 dec:=dosC o s
 ok H n xs b h:=by
  unfold dosC at h
  split at h
  ·simp only[fc,ff] at h
   obtain ⟨y,hy,b,hb,rfl⟩:=h
   obtain ⟨h1,h2⟩:=s.ok H n _ _ hb
   exact ⟨⟨o.ok H n _ _ hy,h1⟩,by simp [h2]⟩
  ·cases h
 ren τ b y hy:=by
  simp only[fG] at hy
  rcases hy with rfl|hy
  ·exact o.ren τ _
  ·exact s.ren τ _ y hy
 nb n b y hy:=by
  simp only[fG] at hy
  rcases hy with rfl|hy
  ·exact o.nb n _
  ·exact s.nb n _ y hy
theorem osN_f:(∀b,Ov.enc b=[])∧ ∀H,Ov.dec H []=some ():=⟨fun _=>rfl,fun _=>rfl⟩
theorem osC_f {o:OTy γ} {s:Jd β}:(∀b,(RD o s).enc b=o.enc b.1::s.enc b.2)∧ ∀H xs,(RD o s).dec H xs=dosC o s H xs:=⟨fun _=>rfl,fun _ _=>rfl⟩
structure Cx (β α:Type) where
 enc:β→α→List AV
 dec:β→List AObj→List AV→Option α
 need:Nat
 ok: ∀b H n xs a,need≤n→dec b H xs=some a→AE H n xs (enc b a)
def rsN:Cx β Unit where
 enc _ _:=[]
 dec _ _
  |[]=>some ()
  |_=>none
 need:=0
 ok b H n xs a _ h:=by
  split at h
  ·exact AE.nil
  ·cases h
def drsT (t:Ty γ) (s:Cx β α) (b:β) (H:List AObj):List AV→Option (γ×α)
 |x::xs=>(t.dec H x).bind fun y=>(s.dec b H xs).bind fun a=>some (y,a)
 |[]=>none
def rsT (t:Ty γ) (s:Cx β α):Cx β (γ×α) where
 enc b a:=t.enc a.1::s.enc b a.2
 dec:=drsT t s
 need:=s.need
 ok b H n xs a hn h:=by
  unfold drsT at h
  split at h
  ·simp only[fc,ff] at h
   obtain ⟨y,hy,a,ha,rfl⟩:=h
   exact AE.cons (t.ok H n _ _ hy) (s.ok b H n _ _ hn ha)
  ·cases h
def drsA (k:Nat) (len:β→Nat) (s:Cx β α) (b:β) (H:List AObj):List AV→Option α
 | .acc l m::xs=>if l=k∧m=len b then s.dec b H xs else none
 |_=>none
def rsA (k:Nat) (len:β→Nat) (s:Cx β α):Cx β α where
 enc b a:= .acc k (len b)::s.enc b a
 dec:=drsA k len s
 need:=max (k+1) s.need
 ok b H n xs a hn h:=by
  unfold drsA at h
  split at h
  ·split at h
   ·rename_i hc
    obtain ⟨rfl,rfl⟩:=hc
    exact AE.cons (Co.same (show _<n by omega)) (s.ok b H n _ _ (by omega) h)
   ·cases h
  ·cases h
theorem rsN_f:(∀ (b:β) a,rsN.enc b a=[])∧(∀ (b:β) H,rsN.dec b H []=some ())∧(rsN:Cx β Unit).need=0:=⟨fun _ _=>rfl,fun _ _=>rfl,rfl⟩
theorem rsT_f {t:Ty γ} {s:Cx β α}:(∀b a,(rsT t s).enc b a=t.enc a.1::s.enc b a.2)∧(∀b H xs,(rsT t s).dec b H xs=drsT t s b H xs)∧(rsT t s).need=s.need:=⟨fun _ _=>rfl,fun _ _ _=>rfl,rfl⟩
theorem rsA_f {k:Nat} {len:β→Nat} {s:Cx β α}:(∀b a,(rsA k len s).enc b a= .acc k (len b)::s.enc b a)∧(∀b H xs,(rsA k len s).dec b H xs=drsA k len s b H xs)∧(rsA k len s).need=max (k+1) s.need:=⟨fun _ _=>rfl,fun _ _ _=>rfl,rfl⟩
end objs
def vX:List AV→AV
 |[y]=>y
 |ys=> .tup ys
theorem Lr.take {H:List AObj} {n:Nat}: ∀ {xs ys:List AObj} (k:Nat),Lr H n (xs.take k) ys→Lr H n xs ys
 |_,[],_,_=>Lr.nil
 |[],_::_,k,h=>by cases k<;>exact h.elim
 |x::xs,y::ys,0,h=>h.elim
 |x::xs,y::ys,k+1,h=>⟨h.1,Lr.take k h.2⟩
section runG
variable {R:Type} {M:Mach R}
def Ow (σ σ':AState):Prop:= ∀ (C:Ctx) (φ:Nat→Value) (tmps:Array Value) (w:World),ql C φ σ {tmps,defers:=[]} w→ ∃φ',ql C φ' σ' {tmps,defers:=[]} w
theorem FN.e {σ σ':AState} (h:FN σ σ'):Ow σ σ':=fun C φ tmps w S=>h C φ _ w S
theorem Ow.trans {σ σ' σ'':AState} (h:Ow σ σ') (h':Ow σ' σ''):Ow σ σ'':=fun C φ tmps w S=>
 let ⟨φ',S'⟩:=h C φ tmps w S
 h' C φ' tmps w S'
theorem Je {P:Program} {rs:List ResultVar} {σ':AState} {xs ys:List AV} {H':List AObj} (hx:zO P σ' rs=some xs) (himp:Ow ⟨xs,σ'.heap,σ'.low,[]⟩ ⟨ys,H',σ'.low,[]⟩):Rn P rs (fun o Du=>o= .ret (vX ys)∧Du=H') none σ':=by
 have key: ∃x,F9 P σ' rs=some x∧ ∃r Du,Ik σ' x r Du∧((wM.ret r)= .ret (vX ys)∧Du=H'):=by
  have exp: ∀ (x:AV),(∀C φ a w,ql C φ σ' a w→ ∀v,rE (C.env φ σ'.heap w) x v→ ∃vs:List Value,nj (C.env φ σ'.heap w) xs vs∧ ∀E,nj E ys vs→rE E (vX ys) v)→Ik σ' x (vX ys) H':=by
   intro x F7 C φ a w S v hv
   obtain ⟨vs,hvs,KD⟩:=F7 C φ a w S v hv
   have S0:ql C φ ⟨xs,σ'.heap,σ'.low,[]⟩ {tmps:=vs.toArray,defers:=[]} w:={S with slots:=by simpa using hvs,defers:=uT.nil}
   obtain ⟨φ',S1⟩:=himp C φ vs.toArray w S0
   exact ⟨φ',{S1 with slots:=rfl,defers:=uT.nil},KD _ (by simpa using S1.slots)⟩
  unfold F9
  rw[hx]
  match xs,hx,exp with
  |[x],hx,exp=>
   refine ⟨x,rfl,_,_,exp x ?_,rfl,rfl⟩
   intro C φ a w S v hv
   refine ⟨[v],⟨v,[],rfl,hv,rfl⟩,fun E hr=> ?_⟩
   have:=hr.length
   match ys,this,hr with
   |[y],_,⟨u,us,he,h1,h2⟩=>
    simp only[fJ] at he
    obtain ⟨rfl,_⟩:=he
    exact h1
  |[],hx,exp=>
   refine ⟨.tup [],rfl,_,_,exp _ ?_,rfl,rfl⟩
   rintro C φ a w S v ⟨vs,rfl,hvs⟩
   refine ⟨vs.toList,hvs,fun E hr=> ?_⟩
   have h1:=hr.length
   have h2:=hvs.length
   match ys,hr,h1 with
   |[],hr,_=>exact ⟨vs,rfl,hr⟩
   |[_],hr,h1=>rw[h1] at h2;simp at h2
   |_::_::_,hr,h1=>rw[h1] at h2;simp at h2
  |x::x'::xs,hx,exp=>
   refine ⟨.tup (x::x'::xs),rfl,_,_,exp _ ?_,rfl,rfl⟩
   rintro C φ a w S v ⟨vs,rfl,hvs⟩
   refine ⟨vs.toList,hvs,fun E hr=> ?_⟩
   have h1:=hr.length
   have h2:=hvs.length
   match ys,hr,h1 with
   |[],hr,h1=>rw[h1] at h2;simp at h2
   |[_],hr,h1=>rw[h1] at h2;simp at h2
   |_::_::_,hr,_=>exact ⟨vs,rfl,hr⟩
 exact key
theorem gEnd_pan {P:Program} {rs:List ResultVar} {σ':AState} {x y:AV} {H':List AObj} (himp:Ow ⟨[x],σ'.heap,σ'.low,[]⟩ ⟨[y],H',σ'.low,[]⟩):Rn P rs (fun o Du=>o= .panic y∧Du=H') (some x) σ':=by
 refine ⟨y,H',?_,rfl,rfl⟩
 intro C φ a w S v hv
 have S0:ql C φ ⟨[x],σ'.heap,σ'.low,[]⟩ {tmps:=[v].toArray,defers:=[]} w:={S with slots:=⟨v,[],rfl,hv,rfl⟩,defers:=uT.nil}
 obtain ⟨φ',S1⟩:=himp C φ _ w S0
 obtain ⟨u,us,he,h1,_⟩:=S1.slots
 simp only[fJ] at he
 obtain ⟨rfl,_⟩:=he
 exact ⟨φ',{S1 with slots:=rfl,defers:=uT.nil},h1⟩
theorem RF {f:FuncId} {fn:Func} {args:List AV} {H:List AObj} {V:wM→List AObj→Prop} {r:R} {n:Nat} {rs:List ResultVar} (G:Good M) (hf:M.P.funcs[f]? =some fn) (hb:fn.body=some M.body) (hne:(fn.name != "runtime.NumGoroutine")=true)
 (hnb:nbL H.length args) (Dz: ∀x∈H,objNb H.length x) (hn:fn.ntmps=n) (Om:fn.results=rs.toArray)
 (hout: ∀σ,M.out σ=some r→Nq M.P (Rn M.P rs V) σ.df none σ) (houtP: ∀x σ,M.xT x σ=some r→Nq M.P (Rn M.P rs V) σ.df (some x) σ)
 (h:run M [.at []] {slots:=args++fu (n-args.length) .any,heap:=H,low:=H.length}=some r):QF M.P f args H V:=by
 refine Xg hf hb hne hnb Dz hn Om ?_
 exact MN G h (fun σ' hs=>⟨hout σ' hs,hout σ' hs⟩) houtP
theorem B3 {f:FuncId} {fn:Func} {args:List AV} {H:List AObj} {ys:List AV} {H':List AObj} {r:R} {n:Nat} {rs:List ResultVar} (G:Good M) (hf:M.P.funcs[f]? =some fn) (hb:fn.body=some M.body) (hne:(fn.name != "runtime.NumGoroutine")=true)
 (hnb:nbL H.length args) (Dz: ∀x∈H,objNb H.length x) (hn:fn.ntmps=n) (Om:fn.results=rs.toArray)
 (hout: ∀σ,M.out σ=some r→σ.df=[]∧ ∃xs,zO M.P σ rs=some xs∧Ow ⟨xs,σ.heap,σ.low,[]⟩ ⟨ys,H',σ.low,[]⟩)
 (h:run M [.at []] {slots:=args++fu (n-args.length) .any,heap:=H,low:=H.length}=some r) (hP: ∀x σ',M.xT x σ'=none:=by intros;rfl):QF M.P f args H (fun o Du=>o= .ret (vX ys)∧Du=H'):=by
 refine RF G hf hb hne hnb Dz hn Om (fun σ' hs=> ?_) (fun x σ' hx=>by rw[hP x σ'] at hx;cases hx) h
 obtain ⟨hd,xs,hx,himp⟩:=hout σ' hs
 rw[hd]
 exact Je hx himp
end runG
section outG
variable {α β γ:Type}
def outG (P:Program) (rs:List ResultVar) (os:Jd β) (s:Cx β α) (low:Nat) (σ:AState):Option (β×α):=
 (zO P σ rs).bind fun xs=>(os.dec σ.heap (σ.heap.take low)).bind fun b=>(s.dec b σ.heap xs).bind fun a=>bif (σ.low==low)&&decide (s.need≤low)&&decide (low≤σ.heap.length)&&σ.df.isEmpty then some (b,a) else none
theorem outG_ok {P:Program} {rs:List ResultVar} {os:Jd β} {s:Cx β α} {low:Nat} {σ:AState} {r:β×α} (h:outG P rs os s low σ=some r):
 σ.df=[]∧ ∃xs,zO P σ rs=some xs∧Ow ⟨xs,σ.heap,σ.low,[]⟩ ⟨s.enc r.1 r.2,os.enc r.1,σ.low,[]⟩:=by
 unfold outG at h
 simp only[fc] at h
 obtain ⟨xs,hx,b,hb,a,ha,h⟩:=h
 cases hc:((σ.low==low)&&decide (s.need≤low)&&decide (low≤σ.heap.length)&&σ.df.isEmpty) with
 |false=>simp [hc] at h
 |true=>
  simp only[hc,cond_true,ff] at h
  subst h
  simp only[fE,beq_iff_eq,decide_eq_true_eq] at hc
  obtain ⟨⟨⟨h1,h2⟩,h3⟩,h4⟩:=hc
  refine ⟨by simpa using h4,xs,hx,FN.e (S6.imp (σ:=⟨xs,σ.heap,σ.low,[]⟩) (σ':=⟨s.enc b a,os.enc b,σ.low,[]⟩) ⟨⟨⟨rfl,?_⟩,rfl,Nd⟩,?_,?_⟩)⟩
  ·obtain ⟨_,h5⟩:=os.ok σ.heap 0 _ _ hb
   show σ.low≤(os.enc b).length
   rw[h5,fW];omega
  ·show AE σ.heap (os.enc b).length xs (s.enc b a)
   obtain ⟨_,h5⟩:=os.ok σ.heap 0 _ _ hb
   exact s.ok b σ.heap _ xs a (by rw[h5,fW];omega) ha
  ·show Lr σ.heap (os.enc b).length σ.heap (os.enc b)
   exact Lr.take low (os.ok σ.heap _ _ _ hb).1
end outG
section callG
theorem RH: ∀ (ls:List Nat) (G:List AObj) (ys:List AObj) (l:Nat) (z:AObj),l ∉ ls→(tP G ls ys).set l z=tP (G.set l z) ls ys
 |[],_,_,_,_,_=>by simp [tP]
 |_::_,_,[],_,_,_=>by simp [tP]
 |k::ls,G,y::ys,l,z,h=>by
  simp only[fG,not_or] at h
  rw[tP,tP,RH ls _ ys l z h.2,List.set_comm _ _ (fun e=>h.1 e.symm)]
theorem Im: ∀ (ls:List Nat) (G:List AObj) (ys ys':List AObj),ls.Nodup→ls.length≤ys'.length→tP (tP G ls ys) ls ys'=tP G ls ys'
 |[],_,_,_,_,_=>by simp [tP]
 |_::_,_,_,[],_,h=>by simp at h
 |l::ls,G,[],y'::ys',hnd,h=>by simp [tP]
 |l::ls,G,y::ys,y'::ys',hnd,h=>by
  rw[fN] at hnd
  simp only[fD,Nat.add_le_add_iff_right] at h
  simp only[tP]
  rw[RH ls _ ys l y' hnd.1,List.set_set,Im ls _ ys ys' hnd.2 h]
theorem JK {H:List AObj} {n:Nat}: ∀ {xs ys:List AObj},(∀ (k:Nat) (y:AObj),ys[k]? =some y→ ∃x,xs[k]? =some x∧GB H n x y)→Lr H n xs ys
 |_,[],_=>Lr.nil
 |[],y::ys,h=>by obtain ⟨x,hx,_⟩:=h 0 y (by simp);simp at hx
 |x::xs,y::ys,h=>by
  obtain ⟨x',hx,hc⟩:=h 0 y (by simp)
  simp at hx;subst hx
  exact ⟨hc,JK fun k z hz=>by have:=h (k+1) z (by simpa using hz);simpa using this⟩
theorem AE.append {H:List AObj} {n:Nat}: ∀ {xs ys us vs:List AV},AE H n xs ys→AE H n us vs→AE H n (xs++us) (ys++vs)
 |[],_,_,_,rfl,h=>h
 |_::_,_,_,_,⟨y,zs,rfl,h,hs⟩,h2=>⟨y,zs++_,rfl,h,AE.append hs h2⟩
theorem callG {P:Program} {f:FuncId} {σ:AState} {Ga args:List AV} {Ys Ys':List AObj} {r:AV} {ρ:List Nat} (hG:QF P f args Ys (fun o H'=>o= .ret r∧H'=Ys')) (hnd:ρ.Nodup) (hlen:ρ.length=Ys.length) (hlen':ρ.length≤Ys'.length)
 (Dv: ∀ (i k:Nat),ρ[i]? =some k→ ∃x y,σ.heap[k]? =some x∧Ys[i]? =some y∧GB σ.heap σ.heap.length x y) (hargs:AE σ.heap σ.heap.length Ga (renL (qu ρ σ.heap.length) args))
 (Zk: ∀y∈Ys++Ys',∀τ,y.ren τ=y):AZ P f Ga σ (fun o H'=>o= .ret (r.ren (qu ρ σ.heap.length))∧H'=tP σ.heap ρ Ys'++Ys'.drop ρ.length):=by
 refine ⟨hG.1,fun C φ a w hP S vs hr=> ?_⟩
 let H1:=tP σ.heap ρ Ys
 have WA:H1.length=σ.heap.length:=w8 _ _ _
 have S0:ql C φ ⟨σ.slots++Ga,σ.heap,σ.low,σ.df⟩ {tmps:=a.tmps++vs,defers:=a.defers} w:={S with slots:=by simpa using S.slots.append hr,defers:=S.defers}
 have hat: ∀ (i k:Nat),ρ[i]? =some k→ ∃x y,σ.heap[k]? =some x∧Ys[i]? =some y∧GB σ.heap σ.heap.length x y∧H1[k]? =some y:=by
  intro i k hi
  obtain ⟨x,y,hx,hy,hc⟩:=Dv i k hi
  exact ⟨x,y,hx,hy,hc,I7 ρ σ.heap Ys i k y hnd hi hy (fk.1 hx).1⟩
 have hw:S6 ⟨σ.slots++Ga,σ.heap,σ.low,σ.df⟩ ⟨σ.slots++renL (qu ρ σ.heap.length) args,H1,σ.low,σ.df⟩:=by
  refine ⟨⟨⟨rfl,by show σ.low≤H1.length;rw[WA];exact S.low.2⟩,rfl,by show Vr H1.length σ.df;rw[WA];exact Fi.nb S.defers.2.2⟩,?_,?_⟩
  ·show AE σ.heap H1.length _ _
   rw[WA]
   exact AE.append (AE.same (nj.nb _ _ S.slots)) hargs
  ·show Lr σ.heap H1.length σ.heap H1
   rw[WA]
   refine JK fun k y hy=> ?_
   by_cases hk:k∈ρ
   ·obtain ⟨i,hi⟩:=gk hk
    obtain ⟨x,y',hx,_,hc,hy'⟩:=hat i k hi
    rw[hy'] at hy;cases hy
    exact ⟨x,hx,hc⟩
   ·have hy2:σ.heap[k]? =some y:=by rw[←hy];exact (B2 ρ σ.heap Ys k hk).symm
    exact ⟨y,hy2,.inr (.inl ⟨rfl,I5 (S.objs k y hy2)⟩)⟩
 obtain ⟨φ',S1⟩:=hw.imp C φ _ w S0
 have LM:=S1.slots
 simp only[fL] at LM
 have hsz:a.tmps.toList.length=σ.slots.length:=S.slots.length
 have h1:=LM.take σ.slots.length
 have h2:=LM.drop σ.slots.length
 rw[fH rfl,fH hsz] at h1
 rw[fI rfl,fI hsz] at h2
 have S2:ql C φ' {σ with heap:=H1} a w:={S1 with slots:=h1,defers:=S1.defers}
 have yC:AZ P f (renL (qu ρ H1.length) args) {σ with heap:=H1} (fun o H'=>o= .ret (r.ren (qu ρ H1.length))∧H'=tP σ.heap ρ Ys'++Ys'.drop ρ.length):=by
  refine VD (σ:={σ with heap:=H1}) hG ρ hlen hnd (tD.refl _) ?_ ?_
  ·intro i k x hi hx
   obtain ⟨x',y,_,hy,_,hy'⟩:=hat i k hi
   rw[hy] at hx;cases hx
   show H1[k]? =some (x.ren _)
   rw[hy',Zk x (gd.2 (.inl (fz hy)))]
  ·rintro o H' ⟨rfl,rfl⟩
   refine ⟨rfl,?_⟩
   have hid: ∀τ,H'.map (AObj.ren τ)=H':=by
    intro τ
    have:H'.map (AObj.ren τ)=H'.map id:=gr fun y hy=>Zk y (gd.2 (.inr hy)) τ
    rw[this,List.map_id]
   have hid2: ∀τ,(H'.drop ρ.length).map (AObj.ren τ)=H'.drop ρ.length:=by
    intro τ;rw[List.map_drop,hid]
   show vI ρ H1 H'=_
   unfold vI
   rw[hid,hid2]
   simp only[H1]
   rw[Im ρ σ.heap Ys H' hnd hlen']
 rw[WA] at yC
 exact yC.2 C φ' a w hP S2 vs h2
end callG
end Go.Abs
namespace Go.Abs
section args
variable {α β γ:Type}
structure El (β α:Type) where
 enc:β→α→List AV
 dec:List Nat→β→List AObj→List AV→Option α
 ok: ∀ρ b H xs a,dec ρ b H xs=some a→AE H H.length xs (renL (qu ρ H.length) (enc b a))
def asN:El β Unit where
 enc _ _:=[]
 dec _ _ _
  |[]=>some ()
  |_=>none
 ok ρ b H xs a h:=by
  split at h
  ·exact AE.nil
  ·cases h
def dasT (t:Ty γ) (s:El β α) (ρ:List Nat) (b:β) (H:List AObj):List AV→Option (γ×α)
 |x::xs=>(t.dec H x).bind fun y=>(s.dec ρ b H xs).bind fun a=>some (y,a)
 |[]=>none
def asT (t:Ty γ) (s:El β α):El β (γ×α) where
 enc b a:=t.enc a.1::s.enc b a.2
 dec:=dasT t s
 ok ρ b H xs a h:=by
  unfold dasT at h
  split at h
  ·simp only[fc,ff] at h
   obtain ⟨y,hy,a,ha,rfl⟩:=h
   refine AE.cons ?_ (s.ok ρ b H _ _ ha)
   rw[Ey _ _ (t.nb 0 y)]
   exact t.ok H _ _ _ hy
  ·cases h
def dasP (k:Nat) (s:El β α) (ρ:List Nat) (b:β) (H:List AObj):List AV→Option α
 | .ptr l off::xs=>if off=0∧ρ[k]? =some l∧l<H.length then s.dec ρ b H xs else none
 |_=>none
theorem UK {ρ:List Nat} {n k l:Nat} (h:ρ[k]? =some l):qu ρ n k=l:=by
 have hk:k<ρ.length:=(fk.1 h).1
 unfold qu
 rw[if_pos hk,gu,h];rfl
def asP (k:Nat) (s:El β α):El β α where
 enc b a:= .ptr k 0::s.enc b a
 dec:=dasP k s
 ok ρ b H xs a h:=by
  unfold dasP at h
  split at h
  ·split at h
   ·rename_i hc
    obtain ⟨rfl,hc,hl⟩:=hc
    refine AE.cons ?_ (s.ok ρ b H _ _ h)
    show Co H H.length _ (.ptr (qu ρ H.length k) 0)
    rw[UK hc]
    exact Co.same hl
   ·cases h
  ·cases h
def dasA (k:Nat) (len:β→Nat) (s:El β α) (ρ:List Nat) (b:β) (H:List AObj):List AV→Option α
 | .acc l m::xs=>if m=len b∧ρ[k]? =some l∧l<H.length then s.dec ρ b H xs else none
 |_=>none
def asA (k:Nat) (len:β→Nat) (s:El β α):El β α where
 enc b a:= .acc k (len b)::s.enc b a
 dec:=dasA k len s
 ok ρ b H xs a h:=by
  unfold dasA at h
  split at h
  ·split at h
   ·rename_i hc
    obtain ⟨rfl,hc,hl⟩:=hc
    refine AE.cons ?_ (s.ok ρ b H _ _ h)
    show Co H H.length _ (.acc (qu ρ H.length k) _)
    rw[UK hc]
    exact Co.same hl
   ·cases h
  ·cases h
theorem asN_f:(∀ (b:β) a,asN.enc b a=[])∧(∀ρ (b:β) H,asN.dec ρ b H []=some ()):=⟨fun _ _=>rfl,fun _ _ _=>rfl⟩
theorem asT_f {t:Ty γ} {s:El β α}:(∀b a,(asT t s).enc b a=t.enc a.1::s.enc b a.2)∧(∀ρ b H xs,(asT t s).dec ρ b H xs=dasT t s ρ b H xs):=⟨fun _ _=>rfl,fun _ _ _ _=>rfl⟩
theorem asP_f {k:Nat} {s:El β α}:(∀b a,(asP k s).enc b a= .ptr k 0::s.enc b a)∧(∀ρ b H xs,(asP k s).dec ρ b H xs=dasP k s ρ b H xs):=⟨fun _ _=>rfl,fun _ _ _ _=>rfl⟩
theorem asA_f {k:Nat} {len:β→Nat} {s:El β α}:(∀b a,(asA k len s).enc b a= .acc k (len b)::s.enc b a)∧(∀ρ b H xs,(asA k len s).dec ρ b H xs=dasA k len s ρ b H xs):=⟨fun _ _=>rfl,fun _ _ _ _=>rfl⟩
end args
def nameOf:AV→Option Nat
 | .ptr l _=>some l
 | .acc l _=>some l
 |_=>none
def nameAt (args:List AV) (i:Nat):Option Nat:=(args[i]?).bind nameOf
def nodupB:List Nat→Bool
 |[]=>true
 |x::xs=> !xs.contains x&&nodupB xs
theorem Gs: ∀ {xs:List Nat},nodupB xs=true→xs.Nodup
 |[],_=>List.nodup_nil
 |x::xs,h=>by
  simp only[nodupB,fE,Bool.not_eq_true',List.contains_eq_mem,decide_eq_false_iff_not] at h
  exact fN.2 ⟨h.1,Gs h.2⟩
def Pz (H:List AObj) (k:Nat):Option AObj:=H[k]?
section entG
variable {α β α' β':Type}
def entG (pos:List Nat) (os:Jd β) (as:El β α) (os':Jd β') (rs:Cx β' α') (F:β→α→Option (β'×α')):Ent:=fun args H=>
 (mapO (nameAt args) pos).bind fun ρ=>bif nodupB ρ then (mapO (Pz H) ρ).bind fun xs=>(os.dec H xs).bind fun b=>(as.dec ρ b H args).bind fun a=>(F b a).bind fun r=>
   bif decide (ρ.length≤(os'.enc r.1).length) then some ((vX (rs.enc r.1 r.2)).ren (qu ρ H.length),tP H ρ (os'.enc r.1)++(os'.enc r.1).drop ρ.length) else none else none
theorem Jf {H:List AObj}: ∀ {ρ:List Nat} {xs:List AObj},mapO (Pz H) ρ=some xs→ρ.length=xs.length∧ ∀ (i k:Nat),ρ[i]? =some k→ ∃x,xs[i]? =some x∧H[k]? =some x
 |[],xs,h=>by simp only[mapO,ff] at h;subst h;simp
 |k::ρ,xs,h=>by
  simp only[mapO,fc,ff] at h
  obtain ⟨x,hx,ys,hys,rfl⟩:=h
  obtain ⟨h1,h2⟩:=Jf hys
  refine ⟨by simp [h1],fun i q hi=> ?_⟩
  cases i with
  |zero=>simp at hi;subst hi;exact ⟨x,by simp,hx⟩
  |succ i=>simp at hi;obtain ⟨y,hy,hy'⟩:=h2 i q hi;exact ⟨y,by simpa using hy,hy'⟩
theorem entG_ok {P:Program} {f:FuncId} {pos:List Nat} {os:Jd β} {as:El β α} {os':Jd β'} {rs:Cx β' α'} {F:β→α→Option (β'×α')}
 (h: ∀b a r,F b a=some r→QF P f (as.enc b a) (os.enc b) (fun o H'=>o= .ret (vX (rs.enc r.1 r.2))∧H'=os'.enc r.1)):Ja P f (entG pos os as os' rs F):=by
 intro args σ r H' he
 unfold entG at he
 simp only[fc] at he
 obtain ⟨ρ,_,he⟩:=he
 cases hnd:nodupB ρ with
 |false=>simp [hnd] at he
 |true=>
  simp only[hnd,cond_true,fc] at he
  obtain ⟨xs,hxs,b,hb,a,ha,q,hq,he⟩:=he
  cases hl:decide (ρ.length≤(os'.enc q.1).length) with
  |false=>simp [hl] at he
  |true=>
   simp only[hl,cond_true,ff,fq] at he
   obtain ⟨rfl,rfl⟩:=he
   obtain ⟨h1,h2⟩:=Jf hxs
   obtain ⟨h3,h4⟩:=os.ok σ.heap σ.heap.length _ _ hb
   refine callG (h b a q hq) (Gs hnd) (by rw[h1,h4]) (of_decide_eq_true hl) ?_ (as.ok ρ b σ.heap _ _ ha) ?_
   ·intro i k hi
    obtain ⟨x,hx,hx'⟩:=h2 i k hi
    have hlt:i<(os.enc b).length:=by rw[h4,←h1];exact (fk.1 hi).1
    obtain ⟨x2,F7,hc⟩:=h3.get (fj hlt)
    rw[hx] at F7;cases F7
    exact ⟨x,_,hx',fj hlt,hc⟩
   ·intro y hy τ
    rcases gd.1 hy with hy|hy
    ·exact os.ren τ _ y hy
    ·exact os'.ren τ _ y hy
end entG
abbrev EntE:=List AV→List AObj→Option wL
section entE
variable {α α' β':Type}
theorem Co1L.toSub {n:Nat}: ∀ {xs ys:List AV},AE [] n xs ys→tD xs ys
 |[],_,rfl=>tD.nil
 |_::_,_,⟨y,zs,rfl,h,hs⟩=>tD.cons h.toSub (Co1L.toSub hs)
noncomputable def entE (as:El Unit α) (os':Jd β') (rs:Cx β' α') (F:α→Option (β'×α')):EntE:=fun args H=>
 pcond (nbL 0 args) ((as.dec [] () [] args).bind fun a=>(F a).bind fun r=>bif (os'.enc r.1).isEmpty then none else some {val:=(vX (rs.enc r.1 r.2)).ren (qu [] H.length),nw:=os'.enc r.1})
theorem entE_ok {P:Program} {f:FuncId} {as:El Unit α} {os':Jd β'} {rs:Cx β' α'} {F:α→Option (β'×α')} (hnb: ∀a,nbL 0 (as.enc () a))
 (h: ∀a r,F a=some r→QF P f (as.enc () a) [] (fun o H'=>o= .ret (vX (rs.enc r.1 r.2))∧H'=os'.enc r.1)):
 ∀args σ e,entE as os' rs F args σ.heap=some e→Ek P f args σ e:=by
 intro args σ e he
 unfold entE at he
 rw[pU] at he
 obtain ⟨hb,he⟩:=he
 simp only[fc] at he
 obtain ⟨a,ha,r,hr,he⟩:=he
 cases hemp:(os'.enc r.1).isEmpty with
 |true=>rw[hemp] at he;cases he
 |false=>
  rw[hemp,cond_false,ff] at he
  subst he
  have hne:os'.enc r.1≠[]:=by intro hn;rw[hn] at hemp;cases hemp
  refine ⟨⟨by simp,by simp⟩,fun σ' _ hlen _=> ?_⟩
  have hlen:=hlen hne
  have hsub:tD args (as.enc () a):=by
   have:=Co1L.toSub (as.ok [] () [] args a ha)
   rw[uG _ _ (hnb a)] at this
   exact this
  have hG:=h a r hr
  have hG':QF P f args [] (fun o H'=>o= .ret (vX (rs.enc r.1 r.2))∧H'=os'.enc r.1):=
   ⟨hG.1,hb,hG.2.2.1,fun C φ w hP h0 hN hφ hM HS vs hr=>hG.2.2.2 C φ w hP h0 hN hφ hM HS vs (hsub _ _ hr)⟩
  have:=callG (σ:=σ') (Ga:=args) (ρ:=[]) hG' List.nodup_nil rfl (gv _) (by simp) (by rw[uG _ _ hb];exact AE.same (sP (gv _) _ hb)) (by
   intro y hy τ
   simp only[gf] at hy
   exact os'.ren τ _ y hy)
  rw[hlen] at this
  refine AZ.mono this ?_
  rintro o H ⟨rfl,rfl⟩
  refine ⟨rfl,?_⟩
  show tP σ'.heap [] (os'.enc r.1)++_=σ'.heap++os'.enc r.1
  cases os'.enc r.1<;>rfl
noncomputable def entR (e:EntD):EntE:=fun args H=>(N6 H args).bind fun p=>(e p.1).bind fun r=>some {val:=r,rd:=p.2}
theorem entR_ok {P:Program} {f:FuncId} {e:EntD} (h:KL P f e): ∀ (args:List AV) (σ:AState) (ef:wL),entR e args σ.heap=some ef→Ek P f args σ ef:=by
 intro args σ ef he
 simp only[entR,fc] at he
 obtain ⟨⟨ds,ns⟩,hv,r,hr,he⟩:=he
 cases he
 refine ⟨⟨fun l hl=>Vp hv l hl,by simp⟩,fun σ' hrd _ _=> ?_⟩
 have hv':=Lq hv hrd
 obtain ⟨hen,hc⟩:=JB (σ:=σ') (K:=fun o H'=>o= .ret r∧H'=σ'.heap) (h ds r hr) (by rintro _ rfl;exact ⟨rfl,rfl⟩)
 refine ⟨hen,fun C φ a w hP S vs uX=>(hc C φ a w hP S vs (Ex S hv' uX)).mono ?_⟩
 rintro e' w' ⟨o,φ',H',⟨rfl,rfl⟩,h1,h2⟩
 exact ⟨_,φ',_,⟨rfl,by simp [p4]⟩,h1,h2⟩
def tabE:List (Nat×EntE)→FuncId→List AV→List AObj→Option wL
 |[],_,_,_=>none
 |(g,e)::t,f,args,H=>if f=g then e args H else tabE t f args H
def nJ:List Nat→FuncId→Bool
 |[],_=>false
 |g::t,f=>f==g||nJ t f
theorem oQ {P:Program}: ∀ (f:FuncId) (args:List AV) (σ:AState) (e:wL),(fun _ _ _=>none:FuncId→List AV→List AObj→Option wL) f args σ.heap=some e→Ek P f args σ e:=by
 intro f args σ e h;cases h
theorem tabE_cons_ok {P:Program} {g:Nat} {e:EntE} {t:List (Nat×EntE)} (h1: ∀args σ ef,e args σ.heap=some ef→Ek P g args σ ef)
 (h2: ∀ (f:FuncId) (args:List AV) (σ:AState) (ef:wL),tabE t f args σ.heap=some ef→Ek P f args σ ef): ∀ (f:FuncId) (args:List AV) (σ:AState) (ef:wL),tabE ((g,e)::t) f args σ.heap=some ef→Ek P f args σ ef:=by
 intro f args σ ef h
 simp only[tabE] at h
 split at h
 ·rename_i hg;subst hg;exact h1 _ _ _ h
 ·exact h2 _ _ _ _ h
end entE
section handout
variable {C:Ctx} {φ:Nat→Value} {σ:AState} {a:Act} {w:World}
theorem RI {xs:List AV} {H:List AObj} {low l:Nat} {y:AObj} (hl:H[l]? =some y) (Dt:low≤l) (hnb: ∀z∈H.take low,objNb low z) (hy:objNb low y) (hr:nbL (low+1) (renL (outX low l) xs)):
 Ow ⟨xs,H,low,[]⟩ ⟨renL (outX low l) xs,H.take low++[y],low,[]⟩:=by
 intro C φ tmps w S
 obtain ⟨φ',S',uX⟩:=Zs (σ:=⟨xs,H,low,[]⟩) (x:= .tup xs) hl Dt hnb hy hr C φ _ w S (.tuple tmps) ⟨tmps,rfl,S.slots⟩
 obtain ⟨vs,hv,rl⟩:=uX
 simp only[Value.tuple.injEq] at hv
 subst hv
 exact ⟨φ',{S' with slots:=rl,defers:=uT.nil}⟩
variable {α γ:Type}
noncomputable def outH (P:Program) (rs:List ResultVar) (j:Nat) (r:Row γ) (s:Cx (List γ×Unit) α) (σ:AState):Option ((List γ×Unit)×α):=
 bif σ.df.isEmpty then (zO P σ rs).bind fun xs=>outH1 (immV (Jb j r.sz true ⟨xs,σ.heap,0,[]⟩) (Jb j r.sz true ⟨xs,σ.heap,0,[]⟩).slots[j]?) j r s σ.low else none
where
 outH1 (τ:AState) (j:Nat) (r:Row γ) (s:Cx (List γ×Unit) α) (low:Nat):Option ((List γ×Unit)×α):=
  match τ.slots[j]? with
  |some (.acc l _)=>match τ.heap[l]? with
   |some y=>pcond (low=0∧objNb 0 y∧nbL 1 (renL (outX 0 l) τ.slots)) (((RD (P8 true r) Ov).dec [y] [y]).bind fun b=>(s.dec b [y] (renL (outX 0 l) τ.slots)).bind fun a=>bif decide (s.need≤1) then some (b,a) else none)
   |none=>none
  |_=>none
end handout
end Go.Abs
namespace Go.Abs
def Ns (i:Nat) (u5:Bool) (sz:Nat) (e:Ent):Ent:=fun args H=>
 match args[i]? with
 |some (.nY true _ [])=>e (args.set i (.acc H.length 0)) (H++[.acc u5 sz []])
 |_=>e args H
theorem RJ {P:Program} {f:FuncId} {i:Nat} {u5:Bool} {sz:Nat} {e:Ent} (h:Ja P f e):Ja P f (Ns i u5 sz e):=by
 intro args σ r H' he
 unfold Ns at he
 split at he
 ·rename_i s hi
  have hc:=h (args.set i (.acc σ.heap.length 0)) {σ with heap:=σ.heap++[.acc u5 sz []]} r H' he
  refine ⟨hc.1,fun C φ a w hP S vs hr=> ?_⟩
  have S0:ql C φ ⟨σ.slots++args,σ.heap,σ.low,σ.df⟩ {tmps:=a.tmps++vs,defers:=a.defers} w:={S with slots:=by simpa using S.slots.append hr,defers:=S.defers}
  have qb:(σ.slots++args)[σ.slots.length+i]? =some (.nY true s []):=by
   rw[fB (by omega),fY];exact hi
  obtain ⟨φ',S1⟩:=WZ (σ:=⟨σ.slots++args,σ.heap,σ.low,σ.df⟩) (sz:=sz) (u5:=u5) qb C φ _ w S0
  have P5:(σ.slots++args).set (σ.slots.length+i) (.acc σ.heap.length 0)=σ.slots++args.set i (.acc σ.heap.length 0):=by
   rw[List.set_append_right _ _ (by omega),fY]
  have LM:=S1.slots
  simp only[P5,fL] at LM
  have hsz:a.tmps.toList.length=σ.slots.length:=S.slots.length
  have h1:=LM.take σ.slots.length
  have h2:=LM.drop σ.slots.length
  rw[fH rfl,fH hsz] at h1
  rw[fI rfl,fI hsz] at h2
  have S2:ql C φ' {σ with heap:=σ.heap++[.acc u5 sz []]} a w:={S1 with slots:=h1,defers:=S1.defers}
  exact hc.2 C φ' a w hP S2 vs h2
 ·exact h args σ r H' he
def entAlt (e e':Ent):Ent:=fun args H=>(e args H).or (e' args H)
theorem entAlt_ok {P:Program} {f:FuncId} {e e':Ent} (h:Ja P f e) (h':Ja P f e'):Ja P f (entAlt e e'):=by
 intro args σ r H' he
 unfold entAlt at he
 rw[Option.or_eq_some_iff] at he
 rcases he with he|⟨_,he⟩
 ·exact h args σ r H' he
 ·exact h' args σ r H' he
end Go.Abs
namespace Go.Abs
section
variable {R:Type} {M:Mach R} {k:List Kt} {σ:AState}
theorem stepZ_move {ops:Array Oper} {dst:Option Tmp} {rest:List Oper} {x}:uo M ops dst rest k σ (.move x)=sJ M ops dst rest k σ (FW M.P σ (.move x)):=by rw[←sK];rfl
theorem VQ {ops:Array Oper} {dst:Option Tmp} {rest:List Oper} {x}:uo M ops dst rest k σ (.assign x)=sJ M ops dst rest k σ (FW M.P σ (.assign x)):=by rw[←sK];rfl
theorem stepZ_pick {ops:Array Oper} {dst:Option Tmp} {rest:List Oper} {c} {a} {b}:uo M ops dst rest k σ (.pick c a b)=sJ M ops dst rest k σ (FW M.P σ (.pick c a b)):=by rw[←sK];rfl
theorem XU {ops:Array Oper} {dst:Option Tmp} {rest:List Oper} {t}:uo M ops dst rest k σ (.alloc t)=sJ M ops dst rest k σ (FW M.P σ (.alloc t)):=by rw[←sK];rfl
theorem stepZ_box {ops:Array Oper} {dst:Option Tmp} {rest:List Oper} {t} {v}:uo M ops dst rest k σ (.box t v)=sJ M ops dst rest k σ (FW M.P σ (.box t v)):=by rw[←sK];rfl
theorem XV {ops:Array Oper} {dst:Option Tmp} {rest:List Oper} {t} {ps}:uo M ops dst rest k σ (.build t ps)=sJ M ops dst rest k σ (FW M.P σ (.build t ps)):=by rw[←sK];rfl
theorem Ox {ops:Array Oper} {dst:Option Tmp} {rest:List Oper} {t} {n} {ps}:uo M ops dst rest k σ (.buildSlice t n ps)=sJ M ops dst rest k σ (FW M.P σ (.buildSlice t n ps)):=by rw[←sK];rfl
theorem VR {ops:Array Oper} {dst:Option Tmp} {rest:List Oper} {m} {a} {b} {c}:uo M ops dst rest k σ (.insert m a b c)=sJ M ops dst rest k σ (FW M.P σ (.insert m a b c)):=by rw[←sK];rfl
theorem stepZ_load {ops:Array Oper} {dst:Option Tmp} {rest:List Oper} {t} {a}:uo M ops dst rest k σ (.load t a)=sJ M ops dst rest k σ (FW M.P σ (.load t a)):=by rw[←sK];rfl
theorem XW {ops:Array Oper} {dst:Option Tmp} {rest:List Oper} {t} {a} {v}:uo M ops dst rest k σ (.store t a v)=sJ M ops dst rest k σ (FW M.P σ (.store t a v)):=by rw[←sK];rfl
theorem XX {ops:Array Oper} {dst:Option Tmp} {rest:List Oper} {g}:uo M ops dst rest k σ (.ready g)=sJ M ops dst rest k σ (FW M.P σ (.ready g)):=by rw[←sK];rfl
theorem XY {ops:Array Oper} {dst:Option Tmp} {rest:List Oper} {g}:uo M ops dst rest k σ (.waits g)=sJ M ops dst rest k σ (FW M.P σ (.waits g)):=by rw[←sK];rfl
theorem RL {ops:Array Oper} {dst:Option Tmp} {rest:List Oper} {x}:uo M ops dst rest k σ (.nilCheck x)=sJ M ops dst rest k σ (FW M.P σ (.nilCheck x)):=by rw[←sK];rfl
theorem XZ {ops:Array Oper} {dst:Option Tmp} {rest:List Oper} {o} {t} {x} {y} {u}:uo M ops dst rest k σ (.binOp o t x y u)=sJ M ops dst rest k σ (FW M.P σ (.binOp o t x y u)):=by rw[←sK];rfl
theorem stepZ_unOp {ops:Array Oper} {dst:Option Tmp} {rest:List Oper} {o} {t} {x}:uo M ops dst rest k σ (.unOp o t x)=sJ M ops dst rest k σ (FW M.P σ (.unOp o t x)):=by rw[←sK];rfl
theorem TB {ops:Array Oper} {dst:Option Tmp} {rest:List Oper} {s} {d} {x}:uo M ops dst rest k σ (.convert s d x)=sJ M ops dst rest k σ (FW M.P σ (.convert s d x)):=by rw[←sK];rfl
theorem Hl {ops:Array Oper} {dst:Option Tmp} {rest:List Oper} {d} {x}:uo M ops dst rest k σ (.sliceToArrayPointer d x)=sJ M ops dst rest k σ (FW M.P σ (.sliceToArrayPointer d x)):=by rw[←sK];rfl
theorem LP {ops:Array Oper} {dst:Option Tmp} {rest:List Oper} {t} {x}:uo M ops dst rest k σ (.makeInterface t x)=sJ M ops dst rest k σ (FW M.P σ (.makeInterface t x)):=by rw[←sK];rfl
theorem RM {ops:Array Oper} {dst:Option Tmp} {rest:List Oper} {f} {a} {b}:uo M ops dst rest k σ (.makeFunc f a b)=sJ M ops dst rest k σ (FW M.P σ (.makeFunc f a b)):=by rw[←sK];rfl
theorem TC {ops:Array Oper} {dst:Option Tmp} {rest:List Oper} {t} {r}:uo M ops dst rest k σ (.makeMap t r)=sJ M ops dst rest k σ (FW M.P σ (.makeMap t r)):=by rw[←sK];rfl
theorem RN {ops:Array Oper} {dst:Option Tmp} {rest:List Oper} {t} {x}:uo M ops dst rest k σ (.makeChan t x)=sJ M ops dst rest k σ (FW M.P σ (.makeChan t x)):=by rw[←sK];rfl
theorem P9 {ops:Array Oper} {dst:Option Tmp} {rest:List Oper} {t} {l} {c}:uo M ops dst rest k σ (.makeSlice t l c)=sJ M ops dst rest k σ (FW M.P σ (.makeSlice t l c)):=by rw[←sK];rfl
theorem X1 {ops:Array Oper} {dst:Option Tmp} {rest:List Oper} {t} {x} {l} {h} {m}:uo M ops dst rest k σ (.slice t x l h m)=sJ M ops dst rest k σ (FW M.P σ (.slice t x l h m)):=by rw[←sK];rfl
theorem Qa {ops:Array Oper} {dst:Option Tmp} {rest:List Oper} {t} {x} {f}:uo M ops dst rest k σ (.fieldAddr t x f)=sJ M ops dst rest k σ (FW M.P σ (.fieldAddr t x f)):=by rw[←sK];rfl
theorem X3 {ops:Array Oper} {dst:Option Tmp} {rest:List Oper} {t} {x} {f}:uo M ops dst rest k σ (.field t x f)=sJ M ops dst rest k σ (FW M.P σ (.field t x f)):=by rw[←sK];rfl
theorem Qb {ops:Array Oper} {dst:Option Tmp} {rest:List Oper} {t} {x} {i}:uo M ops dst rest k σ (.indexAddr t x i)=sJ M ops dst rest k σ (FW M.P σ (.indexAddr t x i)):=by rw[←sK];rfl
theorem X4 {ops:Array Oper} {dst:Option Tmp} {rest:List Oper} {t} {x} {i}:uo M ops dst rest k σ (.index t x i)=sJ M ops dst rest k σ (FW M.P σ (.index t x i)):=by rw[←sK];rfl
theorem VS {ops:Array Oper} {dst:Option Tmp} {rest:List Oper} {t} {x} {i} {b}:uo M ops dst rest k σ (.lookup t x i b)=sJ M ops dst rest k σ (FW M.P σ (.lookup t x i b)):=by rw[←sK];rfl
theorem Qc {ops:Array Oper} {dst:Option Tmp} {rest:List Oper} {t} {m} {kk} {v}:uo M ops dst rest k σ (.mapUpdate t m kk v)=sJ M ops dst rest k σ (FW M.P σ (.mapUpdate t m kk v)):=by rw[←sK];rfl
theorem RO {ops:Array Oper} {dst:Option Tmp} {rest:List Oper} {t} {m} {kk}:uo M ops dst rest k σ (.mapEntry t m kk)=sJ M ops dst rest k σ (FW M.P σ (.mapEntry t m kk)):=by rw[←sK];rfl
theorem Oy {ops:Array Oper} {dst:Option Tmp} {rest:List Oper} {t} {m} {s} {v}:uo M ops dst rest k σ (.entryStore t m s v)=sJ M ops dst rest k σ (FW M.P σ (.entryStore t m s v)):=by rw[←sK];rfl
theorem X5 {ops:Array Oper} {dst:Option Tmp} {rest:List Oper} {t} {x}:uo M ops dst rest k σ (.range t x)=sJ M ops dst rest k σ (FW M.P σ (.range t x)):=by rw[←sK];rfl
theorem stepZ_next {ops:Array Oper} {dst:Option Tmp} {rest:List Oper} {i} {b}:uo M ops dst rest k σ (.next i b)=sJ M ops dst rest k σ (FW M.P σ (.next i b)):=by rw[←sK];rfl
theorem X6 {ops:Array Oper} {dst:Option Tmp} {rest:List Oper} {i}:uo M ops dst rest k σ (.entry i)=sJ M ops dst rest k σ (FW M.P σ (.entry i)):=by rw[←sK];rfl
theorem Oz {ops:Array Oper} {dst:Option Tmp} {rest:List Oper} {x} {t} {u} {b}:uo M ops dst rest k σ (.typeAssert x t u b)=sJ M ops dst rest k σ (FW M.P σ (.typeAssert x t u b)):=by rw[←sK];rfl
theorem TD {ops:Array Oper} {dst:Option Tmp} {rest:List Oper} {t} {i}:uo M ops dst rest k σ (.extract t i)=sJ M ops dst rest k σ (FW M.P σ (.extract t i)):=by rw[←sK];rfl
theorem stepZ_call {ops:Array Oper} {dst:Option Tmp} {rest:List Oper} {c}:uo M ops dst rest k σ (.call c)=sJ M ops dst rest k σ (FW M.P σ (.call c)):=by rw[←sK];rfl
theorem stepZ_go {ops:Array Oper} {dst:Option Tmp} {rest:List Oper} {c}:uo M ops dst rest k σ (.go c)=sJ M ops dst rest k σ (FW M.P σ (.go c)):=by rw[←sK];rfl
theorem stepZ_send {ops:Array Oper} {dst:Option Tmp} {rest:List Oper} {c} {x}:uo M ops dst rest k σ (.send c x)=sJ M ops dst rest k σ (FW M.P σ (.send c x)):=by rw[←sK];rfl
theorem stepZ_recv {ops:Array Oper} {dst:Option Tmp} {rest:List Oper} {t} {c} {b}:uo M ops dst rest k σ (.recv t c b)=sJ M ops dst rest k σ (FW M.P σ (.recv t c b)):=by rw[←sK];rfl
theorem VT {ops:Array Oper} {dst:Option Tmp} {rest:List Oper} {c} {b}:uo M ops dst rest k σ (.select c b)=sJ M ops dst rest k σ (FW M.P σ (.select c b)):=by rw[←sK];rfl
theorem X7 {ops:Array Oper} {dst:Option Tmp} {rest:List Oper} {c:Call}:uo M ops dst rest k σ (.defer c)=Xt M ops dst rest k σ (AB σ (.defer c)):=rfl
theorem X8 {ops:Array Oper} {dst:Option Tmp} {rest:List Oper} {x:Operand}:uo M ops dst rest k σ (.panic x)=Xu M k σ (F8 σ (.panic x)):=rfl
theorem MP {α:Type} {a:α} {x:Option R}:pcond (a=a) x=x:=by simp [pcond]
theorem stepDC_opX {p:List Nat} {o:Oper} {rest:List Oper} {j:Nat} {tr:List Tr}:MM M p o rest j tr k σ none=wO M p o.dst rest j tr k σ (FW M.P σ o.op):=by rw[←sK];rfl
end
section
variable {R:Type} {M:Mach R} {k:List Kt} {σ:AState}
theorem stepE_cond {ops:Array Oper} {dst:Option Tmp} {rest:List Oper} {b:Bool} {x y:Option wL}:sJ M ops dst rest k σ (bif b then x else y)=bif b then sJ M ops dst rest k σ x else sJ M ops dst rest k σ y:=by cases b<;>rfl
theorem stepA_cond {ops:Array Oper} {dst:Option Tmp} {rest:List Oper} {b:Bool} {x y:Option (AV×List AObj)}:GG M ops dst rest k σ (bif b then x else y)=bif b then GG M ops dst rest k σ x else GG M ops dst rest k σ y:=by cases b<;>rfl
theorem X9 {p:List Nat} {dst:Option Tmp} {rest:List Oper} {j:Nat} {tr:List Tr} {b:Bool} {x y:Option wL}:wO M p dst rest j tr k σ (bif b then x else y)=bif b then wO M p dst rest j tr k σ x else wO M p dst rest j tr k σ y:=by cases b<;>rfl
theorem Ya {p:List Nat} {dst:Option Tmp} {rest:List Oper} {j:Nat} {tr:List Tr} {b:Bool} {x y:Option AV}:GH M p dst rest j tr k σ (bif b then x else y)=bif b then GH M p dst rest j tr k σ x else GH M p dst rest j tr k σ y:=by cases b<;>rfl
end
theorem undef_eq:undef= .tuple #[]:=rfl
theorem not_true':(¬ True)=False:=by simp
theorem not_false':(¬ False)=True:=by simp
theorem int_nonneg (n:Nat):(0≤(n:Int))=True:=by simp
theorem Yb:((0:Int)≤0)=True:=by simp
theorem cond_not' {α:Type} {b:Bool} {x y:α}:(bif !b then x else y)=bif b then y else x:=by cases b<;>rfl
theorem cond_same {α:Type} {b:Bool} {x:α}:(bif b then x else x)=x:=by cases b<;>rfl
theorem cond_tf {b:Bool}:(bif b then true else false)=b:=by cases b<;>rfl
theorem cond_ft {b:Bool}:(bif b then false else true)= !b:=by cases b<;>rfl
theorem beq_tt {b:Bool}:(b==true)=b:=by cases b<;>rfl
theorem beq_ff {b:Bool}:(b==false)= !b:=by cases b<;>rfl
theorem beq_tt' {b:Bool}:(true==b)=b:=by cases b<;>rfl
theorem beq_ff' {b:Bool}:(false==b)= !b:=by cases b<;>rfl
theorem bind_ite' {α β:Type} {p:Prop} [Decidable p] {a b:Option α} {f:α→Option β}:(if p then a else b).bind f=bif decide p then a.bind f else b.bind f:=by
 by_cases h:p<;>simp [h]
theorem mp_get {α β:Type} (f:α→β) (xs:List α) (i:Nat):(mp f xs)[i]? =gx f xs[i]? :=by rw[uq,fK]
theorem mp_set {α β:Type} (f:α→β) (xs:List α) (i:Nat) (x:α):(mp f xs).set i (f x)=mp f (xs.set i x):=by rw[uq,uq,List.map_set]
theorem pcond_room {R:Type} {a b:Nat} {x:Option R}:pcond (room a b) x=bif decide (a*b≤17592186044416) then x else none:=by
 unfold room
 exact Ol
theorem pcond_ror {R:Type} {a b:Nat} {x:Option R}:pcond (a=0∨0<b) x=bif decide (a=0∨0<b) then x else none:=Ol
theorem pcond_ilt {R:Type} {a b:Int} {x:Option R}:pcond (a<b) x=bif decide (a<b) then x else none:=Ol
theorem QI (s:Str):(sb s).size=s.length:=by simp [sb,ByteArray.size]
theorem sb_get (s:Str) (i:Nat):(sb s)[i]? =s[i]? :=by
 by_cases h:i<s.length
 ·have h':i<(sb s).size:=by rw[QI];exact h
  rw[fj h,getElem?_pos (sb s) i h']
  rfl
 ·have h': ¬ i<(sb s).size:=by rw[QI];exact h
  rw[fQ (by omega),getElem?_neg (sb s) i h']
theorem sb_idx (s:Str) (n:Int):idxB (sb s) n=xz s n:=by
 simp only[idxB,sb_get];rfl
theorem EE (s:Str):(sb s).toList=s:=by
 rw[ByteArray.toList_eq];rfl
theorem sb_extract (s:Str) (a b:Nat):(sb s).extract a b=sb ((s.take b).drop a):=by
 apply ByteArray.ext
 simp only[sb,ByteArray.data_extract]
 apply Array.ext'
 simp [Array.toList_extract,List.extract]
 rw[List.drop_take]
theorem sb_append (s t:Str):sb s++sb t=sb (s++t):=by
 apply ByteArray.ext
 simp [sb]
theorem sb_empty:ByteArray.empty=sb []:=rfl
theorem sb_emptyL:(⟨#[]⟩:ByteArray)=sb []:=rfl
theorem sb_lit (l:List UInt8):(⟨l.toArray⟩:ByteArray)=sb l:=rfl
attribute [go_sem] run_nil run_blk Xh VH behind Zw Zx Xo VI run_at ZD VJ ZE stepN_seq ZF Xp ZG ZH Xr Xs stepN_ret Xq ZB Xk Xl Xm Xn Zy stepJ_ret Zz ZA retK Xi isRd run_rb run_rd On Zu stP Kd MP
 run_cut run_lp run_ops run_dops ZI Xw ZJ ZQ ZR ZS stepZ_move VQ stepZ_pick XU stepZ_box XV Ox VR stepZ_load XW XX XY RL XZ stepZ_unOp TB Hl LP RM TC RN P9 X1 Qa X3 Qb X4 VS Qc RO Oy X5 stepZ_next X6 Oz TD stepZ_call stepZ_go stepZ_send stepZ_recv VT X7 X8 stepP_ret stepP_pan ZK ZL ZM ZN ZP Xj AB F8 AState.dfr XN VO Z1 Z2 Xz XA FV restP_nil yieldOf ZT ZU ZV stepE_ite ZW ZX ZY Xx VK Xy stepDC_opX XC XD XE XF Z4 XG XH XI stepE_cond stepA_cond X9 Ya
 sub child Rh uH Zq I6 pcond_room pcond_ror pcond_ilt
attribute [go_sem low] ZC stepW_sym Z0
attribute [go_sem] mapO_nil mapO_cons Pw bind_map' Z5 bind_cond Z6 AG idxA_mp EB mp_take mp_drop mp_get mp_set bind_ite' Rw idxA_zero idxA_one idxA_two Fm dL tyL_enc tyL_dec Px KJ HG dS_empty dS_emptyL tyI_enc tyI_dec tyB_enc tyB_dec tyS_enc tyS_dec dF_lit tyF_enc tyF_dec
 XL dB1 dS1 rowI_f rowU_f rowB_f Rz Fo dC tyC_enc tyC_dec tyU_enc tyU_dec d2 d3 d4 d5 ty2_enc ty2_dec ty3_enc ty3_dec ty4_enc ty4_dec ty5_enc ty5_dec pS JH p9 su MO Z7 ent5 ent6 vW oJ oN zA_f zK_f zT_f zL_f dLt P7 oD_f oK_f oC_f oT_f oA_f Z8 nrmZ Jb gCell VP RB nrmN oO selO isLstS selM isMapS
 ixA ixS ldA ldV N6 stA FW cond_not' cond_same cond_tf cond_ft beq_tt beq_ff beq_tt' beq_ff' QI sb_idx sb_get EE sb_append sb_extract sb_empty sb_emptyL sb_lit
attribute [go_sem] QS ixP selI ktab kcell Ln
attribute [go_sem] immV_f immO_f fzX_f entE entR tabE nJ XP UJ oP rp1 rpV rpO cI_f cB_f cS_f cL_f cF_f dL1 dF1 dP tyP_enc tyP_dec dK1 dK2 dK3 tyK1_f tyK2_f tyK3_f daT dcT oaT_f ocT_f osN_f osC_f dosC rsN_f rsT_f drsT rsA_f drsA vX outG
 asN_f asT_f dasT asP_f dasP asA_f dasA nameOf nameAt nodupB Pz entG Ns entAlt Option.or_none Option.none_or outH outH.outH1 tP qu AV.ren renL BA outX
attribute [go_sem] sH qn n6 AState.ev AState.put p4 AV.scalar Jw Jx rowsOf Un MF Uo Oa Wx eq1 bound Ll M1 Jy I0 Up Et
 F9 zO Rg Pq Nf chunks undef_eq
attribute [go_sem] gp List.all_nil Bool.and_true gm Bool.and_false Bool.false_and if_true if_false List.getD_cons_zero List.getD_cons_succ fD List.length_nil fu List.cons_append gf
 List.set_cons_zero List.set_cons_succ reduceCtorEq and_true true_and List.append_nil Nat.zero_add fP fZ List.getElem?_nil fF List.drop_zero List.drop_succ_cons List.drop_nil
 List.take_succ_cons List.take_zero List.take_nil ne_eq not_true' not_false' fU Option.isSome_none Option.isNone_some Option.isNone_none gq List.map_nil List.getElem?_toArray Bool.not_true gj cond_true cond_false
 Int.toNat_natCast int_nonneg Yb true_or or_true and_self false_or or_false ga List.set_nil decide_true decide_false Bool.not_not and_false false_and
 fT fM List.length_replicate beq_self_eq_true
attribute [go_sem] ZZ tM Zv wL.idle CY zZ Dd List.contains_cons List.contains_nil fX List.isEmpty_cons Bool.or_false Bool.false_or Bool.or_true Bool.true_or fy Bool.false_eq_true Int.cast_ofNat_Int Int.toNat_zero Int.toNat_one List.flatten_cons List.flatten_nil
 fJ gb Option.map_none
theorem RP {n:Nat}: ∀ {a b:List (List AV)},Gq n (a++b)=(Gq n a∧Gq n b)
 |[],_=>by simp [Gq]
 |x::a,b=>by simp [Gq,RP (a:=a),and_assoc]
theorem Yc {n:Nat} {c:AV} {cs:List AV}:qF false n (c::cs)=some c:=rfl
theorem Yd {n:Nat} {c:AV} {cs:List AV}:qF true n (c::cs)=if n≤(c::cs).length then some (.agg ((c::cs).take n)) else none:=rfl
theorem Ye {c:AV} {cs:List AV}:cellsOf (.agg (c::cs))=if (c::cs).all AV.scalar then some (c::cs) else none:=rfl
theorem Yf:(∀b,cellsOf (.bool b)=some [.bool b])∧(∀k n,cellsOf (.int k n)=some [.int k n])∧(∀s,cellsOf (.str s)=some [.str s])∧(∀t sz r,cellsOf (.nY t sz r)=some [.nY t sz r])∧
 (∀l n,cellsOf (.acc l n)=some [.acc l n])∧(∀a b c d e,cellsOf (.own a b c d e)=some [.own a b c d e])∧(∀a b,cellsOf (.ptr a b)=some [.ptr a b])∧(∀a,cellsOf (.map a)=some [.map a])∧
 (∀cs,cellsOf (.pp cs)=some [.pp cs])∧(∀fn f c,cellsOf (.func fn f c)=some [.func fn f c])∧(∀t x,cellsOf (.iface t x)=some [.iface t x])∧cellsOf (.raw .nilFunc)=some [.raw .nilFunc]∧cellsOf (.raw .nilIface)=some [.raw .nilIface]∧
 (∀a,cellsOf (.raw (.pointer a))=some [.raw (.pointer a)])∧(∀a,cellsOf (.raw (.map a))=some [.raw (.map a)]):=
 ⟨fun _=>rfl,fun _ _=>rfl,fun _=>rfl,fun _ _ _=>rfl,fun _ _=>rfl,fun _ _ _ _ _=>rfl,fun _ _=>rfl,fun _=>rfl,fun _=>rfl,fun _ _ _=>rfl,fun _ _=>rfl,rfl,rfl,fun _=>rfl,fun _=>rfl⟩
theorem splice_lit {c:AV} {cs:List AV} {o:Nat} {xs:List AV}:splice (c::cs) o xs=(c::cs).take o++xs++(c::cs).drop (o+xs.length):=rfl
theorem splice_all {cs xs:List AV} (h:xs.length=cs.length):splice cs 0 xs=xs:=by
 simp only[splice,List.take_zero,gf,Nat.zero_add,h,List.drop_length,List.append_nil]
attribute [go_sem] Yc Yd Ye Yf splice_all
attribute [go_sem low] splice_lit
attribute [go_sem] AV.nb nbL Gq objNb RP
theorem nb_if {n:Nat} {c:Prop} [Decidable c] {a:AV}:AV.nb n (if c then a else .any)=(¬ c∨AV.nb n a):=by
 by_cases h:c<;>simp [h,AV.nb]
theorem dL_if {α:Type} {r:Row α} {H:List AObj} {c:Prop} [Decidable c] {a:AV}:dL r H (if c then a else .any)=bif decide c then dL r H a else none:=by
 by_cases h:c<;>simp [h,dL]
attribute [go_sem high] nb_if dL_if
attribute [go_sem] or_true
theorem rp1_of_nb {l:Nat} {cs:List AV}: ∀x:AV,x.nb 0→rp1 l cs x=x
 | .ptr _ _,h=>absurd h (fR _)
 | .any,_| .bool _,_| .int _ _,_| .str _,_| .raw _,_| .agg _,_| .tup _,_| .nY _ _ _,_| .acc _ _,_| .own _ _ _ _ _,_| .map _,_| .pp _,_| .func _ _ _,_| .iface _ _,_=>rfl
theorem MQ {l:Nat} {cs:List AV}: ∀xs:List AV,nbL 0 xs→xs.map (rp1 l cs)=xs
 |[],_=>rfl
 |x::xs,h=>by rw[gq,rp1_of_nb x h.1,MQ xs h.2]
theorem rpV_of_nb {l:Nat} {cs:List AV}: ∀x:AV,x.nb 0→rpV l cs x=x
 | .ptr _ _,h=>absurd h (fR _)
 | .func _ f c,h=>by simp only[rpV];rw[MQ f h.1,MQ c h.2]
 | .any,_| .bool _,_| .int _ _,_| .str _,_| .raw _,_| .agg _,_| .tup _,_| .nY _ _ _,_| .acc _ _,_| .own _ _ _ _ _,_| .map _,_| .pp _,_| .iface _ _,_=>rfl
theorem CZ {l:Nat} {cs:List AV}: ∀xs:List AV,nbL 0 xs→xs.map (rpV l cs)=xs
 |[],_=>rfl
 |x::xs,h=>by rw[gq,rpV_of_nb x h.1,CZ xs h.2]
end Go.Abs
namespace Go.Abs
def RQ (P:Program):Nat→List Field→List AV→List AV→Prop
 |_,[],[],[]=>True
 |o,f::fs,c::cs,d::ds=>(f.name≠ "_" ∧f.offset=o∧P.plainKey f.type=true∧(match c,d with
  | .int k _,.int k' _=>k=k'∧ ∃q,P.underlying f.type=some (.int q)
  | .bool _,.bool _=>P.underlying f.type=some .bool
  | .str _,.str _=>P.underlying f.type=some .string
  |_,_=>False))∧RQ P (o+1) fs cs ds
 |_,_,_,_=>False
theorem L8 {P:Program} {E:Env} {vs us:Array Value} {w:World} {d:Nat}: ∀ (fs:List Field) (o:Nat) (cs ds:List AV),RQ P o fs cs ds→nj E cs (vs.toList.drop o)→nj E ds (us.toList.drop o)→
 (Op.eqFields (d+1) vs us fs).run P w= .ok (Wx cs ds) w
 |[],_,[],[],_,_,_=>by simp [Op.eqFields,Wx]
 |[],_,_::_,_,h,_,_=>h.elim
 |[],_,[],_::_,h,_,_=>h.elim
 |_::_,_,[],_,h,_,_=>h.elim
 |_::_,_,_::_,[],h,_,_=>h.elim
 |f::fs,o,c::cs,e::ds,⟨⟨h1,h2,h3,h4⟩,h5⟩,r1,r2=>by
  obtain ⟨u,us',e1,r1,r1'⟩:=r1
  obtain ⟨v,vs',e2,r2,r2'⟩:=r2
  have g1:vs[f.offset]? =some u:=by
   have:=congrArg (fun l:List Value=>l[0]?) e1
   rw[h2];simpa using this
  have g2:us[f.offset]? =some v:=by
   have:=congrArg (fun l:List Value=>l[0]?) e2
   rw[h2];simpa using this
  have t1:vs.toList.drop (o+1)=us':=by
   have:=congrArg List.tail e1
   simpa using this
  have t2:us.toList.drop (o+1)=vs':=by
   have:=congrArg List.tail e2
   simpa using this
  have ih:=L8 (d:=d) (w:=w) fs (o+1) cs ds h5 (by rw[t1];exact r1') (by rw[t2];exact r2')
  have hone:(Op.equalIn (d+1) f.type u v).run P w= .ok (eq1 c e) w:=by
   cases c<;>cases e<;>try exact h4.elim
   ·cases r1;cases r2;exact run_equalIn_bool _ d f.type _ _ h4
   ·obtain ⟨rfl,q,hq⟩:=h4
    cases r1;cases r2;exact run_equalIn_int _ d f.type _ q _ _ hq
   ·cases r1;cases r2;exact run_equalIn_string _ d f.type _ _ h4
  simp only[Op.eqFields,h1,ne_eq,not_false_eq_true,if_true,Sem.run_bind,run_part_plain w h3 g1,run_part_plain w h3 g2,hone,Result.andThen_ok,Wx]
  cases eq1 c e
  ·simp
  ·simpa using ih
theorem aggEq_flat {P:Program} {t:TypeId} {cs ds:List AV} (ht:P.underlying t=some (.struct (P.fieldsOf t))) (hp:P.stoodInHeld t=false) (hg:P.eqGuardType P.depth t=false)
 (hf:RQ P 0 (P.fieldsOf t).toList cs ds):QN P t cs ds:=by
 intro E vs us w x y h1 h2
 have hq:(Op.equal t (.agg vs) (.agg us)).run P w= .ok (Wx cs ds) w:=by
  show (Op.equalIn (9999+1) t _ _).run P w=_
  rw[run_equalIn_struct w 9999 t vs us ht hp]
  exact L8 (d:=9998) _ 0 cs ds hf (by simpa using h1) (by simpa using h2)
 constructor
 ·simp [eqGuard,binOp,hg,hq]
 ·simp [eqGuard,binOp,hg,hq]
end Go.Abs
namespace Go.Abs
mutual
theorem Lv {τ τ':Nat→Nat} {n:Nat} (h: ∀l,l<n→τ l=τ' l): ∀x:AV,x.nb n→x.ren τ=x.ren τ'
 | .agg cs,k| .tup cs,k| .pp cs,k=>by simp only[AV.ren];rw[AH h cs k]
 | .nY _ _ rows,k=>by simp only[AV.ren];rw[MR h rows k]
 | .acc l _,k| .own l _ _ _ _,k| .ptr l _,k| .map l,k=>by simp only[AV.ren];rw[h l k]
 | .func _ f c,k=>by simp only[AV.ren];rw[AH h f k.1,AH h c k.2]
 | .iface _ x,k=>by simp only[AV.ren];rw[Lv h x k]
 | .any,_| .bool _,_| .int _ _,_| .str _,_| .raw _,_=>rfl
theorem AH {τ τ':Nat→Nat} {n:Nat} (h: ∀l,l<n→τ l=τ' l): ∀xs:List AV,nbL n xs→renL τ xs=renL τ' xs
 |[],_=>rfl
 |x::xs,k=>by simp only[renL];rw[Lv h x k.1,AH h xs k.2]
theorem MR {τ τ':Nat→Nat} {n:Nat} (h: ∀l,l<n→τ l=τ' l): ∀xs:List (List AV),Gq n xs→BA τ xs=BA τ' xs
 |[],_=>rfl
 |x::xs,k=>by simp only[BA];rw[AH h x k.1,MR h xs k.2]
end
mutual
theorem nb_ren {τ:Nat→Nat} {n m:Nat} (h: ∀l,l<n→τ l<m): ∀x:AV,x.nb n→(x.ren τ).nb m
 | .agg cs,k| .tup cs,k| .pp cs,k=>Lw h cs k
 | .nY _ _ rows,k=>nbR_ren h rows k
 | .acc l _,k| .own l _ _ _ _,k| .ptr l _,k| .map l,k=>h l k
 | .func _ f c,k=>⟨Lw h f k.1,Lw h c k.2⟩
 | .iface _ x,k=>nb_ren h x k
 | .any,_| .bool _,_| .int _ _,_| .str _,_| .raw _,_=>trivial
theorem Lw {τ:Nat→Nat} {n m:Nat} (h: ∀l,l<n→τ l<m): ∀xs:List AV,nbL n xs→nbL m (renL τ xs)
 |[],_=>trivial
 |x::xs,k=>⟨nb_ren h x k.1,Lw h xs k.2⟩
theorem nbR_ren {τ:Nat→Nat} {n m:Nat} (h: ∀l,l<n→τ l<m): ∀xs:List (List AV),Gq n xs→Gq m (BA τ xs)
 |[],_=>trivial
 |x::xs,k=>⟨Lw h x k.1,nbR_ren h xs k.2⟩
end
theorem objRen_congr {τ τ':Nat→Nat} {n:Nat} (h: ∀l,l<n→τ l=τ' l) (x:AObj) (k:objNb n x):x.ren τ=x.ren τ':=by
 cases x with
 |cells cs=>simp only[AObj.ren];rw[AH h cs k]
 |acc u5 sz rows=>simp only[AObj.ren];rw[MR h rows k]
 |map es=>
  simp only[AObj.ren]
  congr 1
  refine gr fun p hp=> ?_
  rw[Lv h _ (k p hp).1,Lv h _ (k p hp).2]
 |loop lk slots st uW=>simp only[AObj.ren];rw[AH h slots k]
 |iter s p=>rfl
 |dead=>rfl
theorem Uz.JL {n:Nat} {x y:AV} (h:Uz [] n x y):Sub x y:=by
 rcases h with h|⟨l,m,sz,rows,_,h,_⟩
 ·exact h.1
 ·simp at h
theorem tX.JL {n:Nat}: ∀ {xs ys:List AV},tX [] n xs ys→tD xs ys
 |[],_,rfl=>tD.nil
 |_::_,_,⟨_,_,rfl,h,hs⟩=>tD.cons h.JL hs.JL
theorem Co.JL {n:Nat} {x y:AV} (h:Co [] n x y):Sub x y:=by
 rcases h with h|⟨cs,ds,rfl,rfl,h⟩
 ·exact h.JL
 ·rintro E v ⟨vs,rfl,hv⟩
  exact ⟨vs,rfl,h.JL E _ hv⟩
theorem tD.func {f:Fn} {xs ys:List AV} (h:tD xs ys):Sub (.func f [] xs) (.func f [] ys):=by
 rintro E v ⟨a,b,rfl,h1,h2⟩
 exact ⟨a,b,rfl,h1,h E _ h2⟩
abbrev Bx:=Nat→Nat
def Nt (ρ:List Nat) (k:Nat):Nat:=ρ.getD k 0
def Cov (ρ:List Nat) (need n:Nat):Prop:= ∀k,k<need→ ∃l,ρ[k]? =some l∧l<n
theorem Cov.mono {ρ:List Nat} {a b n:Nat} (h:Cov ρ b n) (k:a≤b):Cov ρ a n:=fun i hi=>h i (by omega)
theorem Cov.lt {ρ:List Nat} {a n:Nat} (h:Cov ρ a n): ∀l,l<a→Nt ρ l<n:=by
 intro l hl
 obtain ⟨k,hk,hn⟩:=h l hl
 unfold Nt;rw[gu,hk];exact hn
theorem MS {ρ:List Nat} {k l:Nat} (h:ρ[k]? =some l):Nt ρ k=l:=by unfold Nt;rw[gu,h];rfl
section specs
variable {α β γ δ:Type}
structure VL (γ:Type) where
 enc:Bx→γ→List AV
 dec:List Nat→Bx→List AV→Option γ
 need:Nat
 nb: ∀L g,nbL need (enc L g)
 ok: ∀ρ L vs g,dec ρ L vs=some g→tD vs (renL (Nt ρ) (enc L g))
def dvlN:List AV→Option Unit
 |[]=>some ()
 |_=>none
def vlN:VL Unit where
 enc _ _:=[]
 dec _ _:=dvlN
 need:=0
 nb _ _:=trivial
 ok ρ L vs g h:=by
  unfold dvlN at h
  split at h
  ·exact tD.nil
  ·cases h
def dvlT (t:Ty γ) (s:VL δ) (ρ:List Nat) (L:Bx):List AV→Option (γ×δ)
 |x::xs=>(t.dec [] x).bind fun y=>(s.dec ρ L xs).bind fun a=>some (y,a)
 |[]=>none
def vlT (t:Ty γ) (s:VL δ):VL (γ×δ) where
 enc L g:=t.enc g.1::s.enc L g.2
 dec:=dvlT t s
 need:=s.need
 nb L g:=⟨t.nb _ _,s.nb L g.2⟩
 ok ρ L vs g h:=by
  unfold dvlT at h
  split at h
  ·simp only[fc,ff] at h
   obtain ⟨y,hy,a,ha,rfl⟩:=h
   refine tD.cons ?_ (s.ok ρ L _ _ ha)
   rw[Ey _ _ (t.nb 0 y)]
   exact (t.ok [] 0 _ _ hy).JL
  ·cases h
def dvlP (k:Nat) (s:VL δ) (ρ:List Nat) (L:Bx):List AV→Option δ
 | .ptr l off::xs=>bif decide (off=0∧ρ[k]? =some l) then s.dec ρ L xs else none
 |_=>none
def vlP (k:Nat) (s:VL δ):VL δ where
 enc L g:= .ptr k 0::s.enc L g
 dec:=dvlP k s
 need:=max (k+1) s.need
 nb L g:=⟨show k<_ by omega,sP (by omega) _ (s.nb L g)⟩
 ok ρ L vs g h:=by
  unfold dvlP at h
  split at h
  ·rename_i l off xs
   cases hc:decide (off=0∧ρ[k]? =some l) with
   |false=>simp [hc] at h
   |true=>
    simp only[hc,cond_true] at h
    obtain ⟨rfl,M6⟩:=of_decide_eq_true hc
    refine tD.cons ?_ (s.ok ρ L _ _ h)
    simp only[AV.ren,MS M6]
    exact Sub.refl _
  ·cases h
def dvlM (k:Nat) (s:VL δ) (ρ:List Nat) (L:Bx):List AV→Option δ
 | .map l::xs=>bif decide (ρ[k]? =some l) then s.dec ρ L xs else none
 |_=>none
def vlM (k:Nat) (s:VL δ):VL δ where
 enc L g:= .map k::s.enc L g
 dec:=dvlM k s
 need:=max (k+1) s.need
 nb L g:=⟨show k<_ by omega,sP (by omega) _ (s.nb L g)⟩
 ok ρ L vs g h:=by
  unfold dvlM at h
  split at h
  ·rename_i l xs
   cases hc:decide (ρ[k]? =some l) with
   |false=>simp [hc] at h
   |true=>
    simp only[hc,cond_true] at h
    have hc:=of_decide_eq_true hc
    refine tD.cons ?_ (s.ok ρ L _ _ h)
    simp only[AV.ren,MS hc]
    exact Sub.refl _
  ·cases h
def dvlF (f:FuncId) (c:VL γ) (s:VL δ) (ρ:List Nat) (L:Bx):List AV→Option (γ×δ)
 | .func (.func f') [] cs::xs=>bif decide (f'=f) then (c.dec ρ L cs).bind fun y=>(s.dec ρ L xs).bind fun a=>some (y,a) else none
 |_=>none
def vlF (f:FuncId) (c:VL γ) (s:VL δ):VL (γ×δ) where
 enc L g:= .func (.func f) [] (c.enc L g.1)::s.enc L g.2
 dec:=dvlF f c s
 need:=max c.need s.need
 nb L g:=⟨⟨trivial,sP (by omega) _ (c.nb L g.1)⟩,sP (by omega) _ (s.nb L g.2)⟩
 ok ρ L vs g h:=by
  unfold dvlF at h
  split at h
  ·rename_i f' cs xs
   cases hc:decide (f'=f) with
   |false=>simp [hc] at h
   |true=>
    simp only[hc,cond_true,fc,ff] at h
    obtain ⟨y,hy,a,ha,rfl⟩:=h
    obtain rfl:=of_decide_eq_true hc
    refine tD.cons ?_ (s.ok ρ L _ _ ha)
    simp only[AV.ren,renL]
    exact (c.ok ρ L _ _ hy).func
  ·cases h
theorem vlN_f:(∀L g,vlN.enc L g=[])∧ ∀ρ L xs,vlN.dec ρ L xs=dvlN xs:=⟨fun _ _=>rfl,fun _ _ _=>rfl⟩
theorem vlT_f {t:Ty γ} {s:VL δ}:(∀L g,(vlT t s).enc L g=t.enc g.1::s.enc L g.2)∧ ∀ρ L xs,(vlT t s).dec ρ L xs=dvlT t s ρ L xs:=⟨fun _ _=>rfl,fun _ _ _=>rfl⟩
theorem vlP_f {k:Nat} {s:VL δ}:(∀L g,(vlP k s).enc L g= .ptr k 0::s.enc L g)∧ ∀ρ L xs,(vlP k s).dec ρ L xs=dvlP k s ρ L xs:=⟨fun _ _=>rfl,fun _ _ _=>rfl⟩
theorem vlM_f {k:Nat} {s:VL δ}:(∀L g,(vlM k s).enc L g= .map k::s.enc L g)∧ ∀ρ L xs,(vlM k s).dec ρ L xs=dvlM k s ρ L xs:=⟨fun _ _=>rfl,fun _ _ _=>rfl⟩
theorem vlF_f {f:FuncId} {c:VL γ} {s:VL δ}:(∀L g,(vlF f c s).enc L g= .func (.func f) [] (c.enc L g.1)::s.enc L g.2)∧ ∀ρ L xs,(vlF f c s).dec ρ L xs=dvlF f c s ρ L xs:=⟨fun _ _=>rfl,fun _ _ _=>rfl⟩
structure AL (γ:Type) where
 enc:Bx→γ→List AV
 dec:List Nat→Bx→List AObj→List AV→Option γ
 need:Nat
 nb: ∀L g,nbL need (enc L g)
 ok: ∀ρ L H n vs g,Cov ρ need n→dec ρ L H vs=some g→AE H n vs (renL (Nt ρ) (enc L g))
def pV:AL Unit where
 enc _ _:=[]
 dec _ _ _:=dvlN
 need:=0
 nb _ _:=trivial
 ok ρ L H n vs g _ h:=by
  unfold dvlN at h
  split at h
  ·exact AE.nil
  ·cases h
def dalT (t:Ty γ) (s:AL δ) (ρ:List Nat) (L:Bx) (H:List AObj):List AV→Option (γ×δ)
 |x::xs=>(t.dec H x).bind fun y=>(s.dec ρ L H xs).bind fun a=>some (y,a)
 |[]=>none
def qO (t:Ty γ) (s:AL δ):AL (γ×δ) where
 enc L g:=t.enc g.1::s.enc L g.2
 dec:=dalT t s
 need:=s.need
 nb L g:=⟨t.nb _ _,s.nb L g.2⟩
 ok ρ L H n vs g hc h:=by
  unfold dalT at h
  split at h
  ·simp only[fc,ff] at h
   obtain ⟨y,hy,a,ha,rfl⟩:=h
   refine AE.cons ?_ (s.ok ρ L H n _ _ hc ha)
   rw[Ey _ _ (t.nb 0 y)]
   exact t.ok H n _ _ hy
  ·cases h
def dalC (c:LO γ) (k:Nat) (s:AL δ) (ρ:List Nat) (L:Bx) (H:List AObj) (xs:List AV):Option (γ×δ):=
 (c.dec H (xs.take k)).bind fun y=>(s.dec ρ L H (xs.drop k)).bind fun a=>some (y,a)
theorem tX.append' {H:List AObj} {n:Nat}: ∀ {xs ys us vs:List AV},tX H n xs ys→AE H n us vs→AE H n (xs++us) (ys++vs)
 |[],_,_,_,rfl,h=>h
 |_::_,_,_,_,⟨y,zs,rfl,h,hs⟩,h2=>⟨y,zs++_,rfl,.inl h,tX.append' hs h2⟩
def alC (c:LO γ) (k:Nat) (s:AL δ):AL (γ×δ) where
 enc L g:=c.enc g.1++s.enc L g.2
 dec:=dalC c k s
 need:=s.need
 nb L g:=GA (c.nb _ _) (s.nb L g.2)
 ok ρ L H n vs g hc h:=by
  unfold dalC at h
  simp only[fc,ff] at h
  obtain ⟨y,hy,a,ha,rfl⟩:=h
  rw[KE,uG _ _ (c.nb 0 y),←List.take_append_drop k vs]
  exact tX.append' (c.ok H n _ _ hy) (s.ok ρ L H n _ _ hc ha)
def dalP (k:Nat) (s:AL δ) (ρ:List Nat) (L:Bx) (H:List AObj):List AV→Option δ
 | .ptr l off::xs=>bif decide (off=0∧ρ[k]? =some l) then s.dec ρ L H xs else none
 |_=>none
def uk (k:Nat) (s:AL δ):AL δ where
 enc L g:= .ptr k 0::s.enc L g
 dec:=dalP k s
 need:=max (k+1) s.need
 nb L g:=⟨show k<_ by omega,sP (by omega) _ (s.nb L g)⟩
 ok ρ L H n vs g hv h:=by
  unfold dalP at h
  split at h
  ·rename_i l off xs
   cases hc:decide (off=0∧ρ[k]? =some l) with
   |false=>simp [hc] at h
   |true=>
    simp only[hc,cond_true] at h
    obtain ⟨rfl,M6⟩:=of_decide_eq_true hc
    refine AE.cons ?_ (s.ok ρ L H n _ _ (hv.mono (by omega)) h)
    have hl:=hv.lt k (by omega)
    simp only[AV.ren]
    rw[MS M6] at hl ⊢
    exact Co.same hl
  ·cases h
def dalM (k:Nat) (s:AL δ) (ρ:List Nat) (L:Bx) (H:List AObj):List AV→Option δ
 | .map l::xs=>bif decide (ρ[k]? =some l) then s.dec ρ L H xs else none
 |_=>none
def xL (k:Nat) (s:AL δ):AL δ where
 enc L g:= .map k::s.enc L g
 dec:=dalM k s
 need:=max (k+1) s.need
 nb L g:=⟨show k<_ by omega,sP (by omega) _ (s.nb L g)⟩
 ok ρ L H n vs g hv h:=by
  unfold dalM at h
  split at h
  ·rename_i l xs
   cases hc:decide (ρ[k]? =some l) with
   |false=>simp [hc] at h
   |true=>
    simp only[hc,cond_true] at h
    have M6:=of_decide_eq_true hc
    refine AE.cons ?_ (s.ok ρ L H n _ _ (hv.mono (by omega)) h)
    have hl:=hv.lt k (by omega)
    simp only[AV.ren]
    rw[MS M6] at hl ⊢
    exact Co.same hl
  ·cases h
def dalA (k:Nat) (s:AL δ) (ρ:List Nat) (L:Bx) (H:List AObj):List AV→Option δ
 | .acc l m::xs=>bif decide (m=L k∧ρ[k]? =some l) then s.dec ρ L H xs else none
 |_=>none
def alA (k:Nat) (s:AL δ):AL δ where
 enc L g:= .acc k (L k)::s.enc L g
 dec:=dalA k s
 need:=max (k+1) s.need
 nb L g:=⟨show k<_ by omega,sP (by omega) _ (s.nb L g)⟩
 ok ρ L H n vs g hv h:=by
  unfold dalA at h
  split at h
  ·rename_i l m xs
   cases hc:decide (m=L k∧ρ[k]? =some l) with
   |false=>simp [hc] at h
   |true=>
    simp only[hc,cond_true] at h
    obtain ⟨rfl,M6⟩:=of_decide_eq_true hc
    refine AE.cons ?_ (s.ok ρ L H n _ _ (hv.mono (by omega)) h)
    have hl:=hv.lt k (by omega)
    simp only[AV.ren]
    rw[MS M6] at hl ⊢
    exact Co.same hl
  ·cases h
def dalF (f:FuncId) (c:VL γ) (s:AL δ) (ρ:List Nat) (L:Bx) (H:List AObj):List AV→Option (γ×δ)
 | .func (.func f') [] cs::xs=>bif decide (f'=f) then (c.dec ρ L cs).bind fun y=>(s.dec ρ L H xs).bind fun a=>some (y,a) else none
 |_=>none
def alF (f:FuncId) (c:VL γ) (s:AL δ):AL (γ×δ) where
 enc L g:= .func (.func f) [] (c.enc L g.1)::s.enc L g.2
 dec:=dalF f c s
 need:=max c.need s.need
 nb L g:=⟨⟨trivial,sP (by omega) _ (c.nb L g.1)⟩,sP (by omega) _ (s.nb L g.2)⟩
 ok ρ L H n vs g hv h:=by
  unfold dalF at h
  split at h
  ·rename_i f' cs xs
   cases hc:decide (f'=f) with
   |false=>simp [hc] at h
   |true=>
    simp only[hc,cond_true,fc,ff] at h
    obtain ⟨y,hy,a,ha,rfl⟩:=h
    obtain rfl:=of_decide_eq_true hc
    refine AE.cons ?_ (s.ok ρ L H n _ _ (hv.mono (by omega)) ha)
    simp only[AV.ren,renL]
    exact Co.sub (c.ok ρ L _ _ hy).func ⟨trivial,Lw (hv.mono (a:=c.need) (by omega)).lt _ (c.nb L y)⟩
  ·cases h
def dalZ (s:AL δ) (ρ:List Nat) (L:Bx) (H:List AObj):List AV→Option δ
 |_::xs=>s.dec ρ L H xs
 |_=>none
def alZ (s:AL δ):AL δ where
 enc L g:= .any::s.enc L g
 dec:=dalZ s
 need:=s.need
 nb L g:=⟨trivial,s.nb L g⟩
 ok ρ L H n vs g hv h:=by
  unfold dalZ at h
  split at h
  ·exact AE.cons Co.any (s.ok ρ L H n _ _ hv h)
  ·cases h
def Yg:Nat→AL δ→AL δ
 |0,s=>s
 |n+1,s=>alZ (Yg n s)
theorem alN_f:(∀L g,pV.enc L g=[])∧(∀ρ L H xs,pV.dec ρ L H xs=dvlN xs)∧pV.need=0:=⟨fun _ _=>rfl,fun _ _ _ _=>rfl,rfl⟩
theorem alT_f {t:Ty γ} {s:AL δ}:(∀L g,(qO t s).enc L g=t.enc g.1::s.enc L g.2)∧(∀ρ L H xs,(qO t s).dec ρ L H xs=dalT t s ρ L H xs)∧(qO t s).need=s.need:=⟨fun _ _=>rfl,fun _ _ _ _=>rfl,rfl⟩
theorem alC_f {c:LO γ} {k:Nat} {s:AL δ}:(∀L g,(alC c k s).enc L g=c.enc g.1++s.enc L g.2)∧(∀ρ L H xs,(alC c k s).dec ρ L H xs=dalC c k s ρ L H xs)∧(alC c k s).need=s.need:=⟨fun _ _=>rfl,fun _ _ _ _=>rfl,rfl⟩
theorem alP_f {k:Nat} {s:AL δ}:(∀L g,(uk k s).enc L g= .ptr k 0::s.enc L g)∧(∀ρ L H xs,(uk k s).dec ρ L H xs=dalP k s ρ L H xs)∧(uk k s).need=max (k+1) s.need:=⟨fun _ _=>rfl,fun _ _ _ _=>rfl,rfl⟩
theorem alM_f {k:Nat} {s:AL δ}:(∀L g,(xL k s).enc L g= .map k::s.enc L g)∧(∀ρ L H xs,(xL k s).dec ρ L H xs=dalM k s ρ L H xs)∧(xL k s).need=max (k+1) s.need:=⟨fun _ _=>rfl,fun _ _ _ _=>rfl,rfl⟩
theorem alA_f {k:Nat} {s:AL δ}:(∀L g,(alA k s).enc L g= .acc k (L k)::s.enc L g)∧(∀ρ L H xs,(alA k s).dec ρ L H xs=dalA k s ρ L H xs)∧(alA k s).need=max (k+1) s.need:=⟨fun _ _=>rfl,fun _ _ _ _=>rfl,rfl⟩
theorem alF_f {f:FuncId} {c:VL γ} {s:AL δ}:(∀L g,(alF f c s).enc L g= .func (.func f) [] (c.enc L g.1)::s.enc L g.2)∧(∀ρ L H xs,(alF f c s).dec ρ L H xs=dalF f c s ρ L H xs)∧(alF f c s).need=max c.need s.need:=⟨fun _ _=>rfl,fun _ _ _ _=>rfl,rfl⟩
theorem alZ_f {s:AL δ}:(∀L g,(alZ s).enc L g= .any::s.enc L g)∧(∀ρ L H xs,(alZ s).dec ρ L H xs=dalZ s ρ L H xs)∧(alZ s).need=s.need:=⟨fun _ _=>rfl,fun _ _ _ _=>rfl,rfl⟩
end specs
end Go.Abs
namespace Go.Abs
theorem uC {n m:Nat} (h:n≤m) (x:AObj) (k:objNb n x):objNb m x:=by
 cases x with
 |cells cs=>exact sP h _ k
 |acc u5 sz rows=>exact Vi h _ k
 |map es=>exact fun p hp=>⟨AV.Pf h _ (k p hp).1,AV.Pf h _ (k p hp).2⟩
 |loop lk slots st uW=>exact sP h _ k
 |iter s p=>trivial
 |dead=>trivial
theorem imp_select {ys:List AV} {H Ys:List AObj} {ρ:List Nat} {low:Nat} (hlen:ρ.length=Ys.length) (hnd:ρ.Nodup) (hid: ∀k,k<low→ρ[k]? =some k)
 (hl:low≤Ys.length) (hnb:nbL Ys.length ys) (Dz: ∀y∈Ys,objNb Ys.length y)
 (Dv: ∀ (i k:Nat) (y:AObj),ρ[i]? =some k→Ys[i]? =some y→H[k]? =some (y.ren (Nt ρ))):
 FN ⟨renL (Nt ρ) ys,H,low,[]⟩ ⟨ys,Ys,low,[]⟩:=by
 intro C φ a w S
 let φ':Nat→Value:=fun k=>φ (Nt ρ k)
 have hρ: ∀k,k<Ys.length→ρ[k]? =some (Nt ρ k):=by
  intro k hk
  have hk':k<ρ.length:=by omega
  rw[MS (fj hk')]
  exact fj hk'
 have qb: ∀ (k:Nat) (y:AObj),Ys[k]? =some y→k<Ys.length∧H[Nt ρ k]? =some (y.ren (Nt ρ)):=by
  intro k y hy
  have hk:=(fk.1 hy).1
  exact ⟨hk,Dv k _ y (hρ k hk) hy⟩
 have hfix: ∀k,k<low→Nt ρ k=k:=fun k hk=>MS (hid k hk)
 have hinj: ∀k k',k<Ys.length→k'<Ys.length→Nt ρ k=Nt ρ k'→k=k':=by
  intro k k' hk hk' he
  have h1:=hρ k hk
  have h2:=hρ k' hk'
  rw[←he] at h2
  have e1:=No ρ k _ hnd h1
  have e2:=No ρ k' _ hnd h2
  rw[e1] at e2;exact gw e2
 have BZ: ∀b o,Cg φ' Ys b o→Cg φ H b o:=by
  rintro b o ⟨k,z,hz,hm⟩
  exact ⟨_,_,(qb k z hz).2,I4.2 hm⟩
 have un:UnLe Ys.length (Nt ρ) (C.env φ H w) (C.env φ' Ys w):=by
  refine ⟨fy _,fun k hk=>⟨rfl,?_⟩,fun b o u hm hc=>⟨fun h=>hm (h.imp (BZ b o) id),hc⟩⟩
  show oW Ys[k]? =oW H[Nt ρ k]?
  have hy:=fj hk
  rw[(qb k _ hy).2,hy,BB]
 have Az:uT C φ' Ys w [] a.defers:=S.defers.step' (fun xs vs ⟨f,hf⟩ _=>(by cases hf)) (fun _ _ _=>rfl) (fun k z b hz hb=> .inl ⟨_,_,(qb k z hz).2,z1.2 hb⟩)
 refine ⟨φ',{slots:=nj.Ax un _ _ hnb S.slots,defers:=Az,objs:= ?_,apart:= ?_,vE:= ?_,size:=S.size,old:=S.old,qM:=S.qM,Be:= ?_,wZ:=S.wZ,rest:=S.rest,low:=⟨S.low.1,hl⟩,names:= ?_}⟩
 ·intro k z hz
  exact qQ.Ax un (Dz z (fz hz)) (fun _ _=>rfl) (S.objs _ _ (qb k z hz).2)
 ·intro k k' z z' b hz WO hb hb'
  refine hinj k k' (qb k z hz).1 (qb k' z' WO).1 (S.apart _ _ _ _ b (qb k z hz).2 (qb k' z' WO).2 (z1.2 hb) (z1.2 hb'))
 ·intro k z b o hz hb
  exact S.vE _ _ b o (qb k z hz).2 (z1.2 hb)
 ·intro k z b o hz hm hb
  exact S.Be _ _ b o (qb k z hz).2 (I4.2 hm) hb
 ·intro k hk
  have hk':k<low:=by have:=S.low.1;simp only at this;omega
  have hn:=S.names k hk
  have e1:φ' k=φ k:=by show φ (Nt ρ k)=φ k;rw[hfix k hk']
  have e2:oW Ys[k]? =oW H[k]? :=by
   have hy:=fj (show k<Ys.length by omega)
   have:=(qb k _ hy).2
   rw[hfix k hk'] at this
   rw[this,hy,BB]
  show (φ' k=_∧(oW Ys[k]? =_∨oW Ys[k]? =none))∨((∃m,_∧ ∀m',oW Ys[k]? =some m'→_)∧_)
  rw[e1,e2]
  exact hn
section objs
variable {α β γ δ:Type}
structure OG (γ:Type) where
 enc:Bx→γ→AObj
 dec:List Nat→Bx→List AObj→AObj→Option γ
 len:γ→Nat
 need:Nat
 nb: ∀L g,objNb need (enc L g)
 ok: ∀ρ L H n x g,Cov ρ need n→dec ρ L H x=some g→GB H n x ((enc L g).ren (Nt ρ))
 RR: ∀ρ L H x g,dec ρ L H x=some g→len g=(oW (some x)).getD 0
theorem PA {α β:Type} {f:α→Option β}: ∀ {xs:List α} {ys:List β},mapO f xs=some ys→ys.length=xs.length
 |[],ys,h=>by simp only[mapO,ff] at h;subst h;rfl
 |x::xs,ys,h=>by
  simp only[mapO,fc,ff] at h
  obtain ⟨y,hy,zs,hz,rfl⟩:=h
  simp [PA hz]
def ogA (u5:Bool) (r:Row α):OG (List α) where
 enc _ xs:= .acc u5 r.sz (mp r.enc xs)
 dec _ _ _:=daT u5 r
 len xs:=xs.length
 need:=0
 nb L g:=xk g
 ok ρ L H n x g _ h:=by
  have:=(P8 u5 r).ok H n x g h
  rw[show (AObj.acc u5 r.sz (mp r.enc g)).ren (Nt ρ)= .acc u5 r.sz (mp r.enc g) from (P8 u5 r).ren _ g]
  exact this
 RR ρ L H x g h:=by
  unfold daT at h
  split at h
  ·split at h
   ·exact PA h
   ·cases h
  ·cases h
def docC (c:AL γ) (ρ:List Nat) (L:Bx) (H:List AObj):AObj→Option γ
 | .cells cs=>c.dec ρ L H cs
 |_=>none
def B4 (c:AL γ):OG γ where
 enc L g:= .cells (c.enc L g)
 dec:=docC c
 len _:=0
 need:=c.need
 nb L g:=c.nb L g
 ok ρ L H n x g hv h:=by
  unfold docC at h
  split at h
  ·exact .inr (.inr (.inl ⟨_,_,rfl,rfl,c.ok ρ L H n _ _ hv h⟩))
  ·cases h
 RR ρ L H x g h:=by
  unfold docC at h
  split at h
  ·rfl
  ·cases h
theorem ogA_f {u5:Bool} {r:Row α}:(∀L g,(ogA u5 r).enc L g= .acc u5 r.sz (mp r.enc g))∧(∀ρ L H x,(ogA u5 r).dec ρ L H x=daT u5 r x)∧(∀g,(ogA u5 r).len g=g.length)∧(ogA u5 r).need=0:=⟨fun _ _=>rfl,fun _ _ _ _=>rfl,fun _=>rfl,rfl⟩
theorem ogC_f {c:AL γ}:(∀L g,(B4 c).enc L g= .cells (c.enc L g))∧(∀ρ L H x,(B4 c).dec ρ L H x=docC c ρ L H x)∧(∀g,(B4 c).len g=0)∧(B4 c).need=c.need:=⟨fun _ _=>rfl,fun _ _ _ _=>rfl,fun _=>rfl,rfl⟩
structure OL (β:Type) where
 enc:Bx→β→List AObj
 dec:List Nat→Bx→List AObj→List AObj→Option β
 lens:β→Bx
 size:Nat
 need:Nat
 sz: ∀L b,(enc L b).length=size
 nb: ∀L b,∀y∈enc L b,objNb need y
 ok: ∀ρ L H n xs b,Cov ρ need n→dec ρ L H xs=some b→xs.length=size∧ ∀ (i:Nat) (y:AObj),(enc L b)[i]? =some y→ ∃x,xs[i]? =some x∧GB H n x (y.ren (Nt ρ))
 Fm: ∀ρ L H xs b,dec ρ L H xs=some b→xs.length=size
 OA: ∀ρ L H xs b,dec ρ L H xs=some b→ ∀k,lens b k=(oW xs[k]?).getD 0
def dolN:List AObj→Option Unit
 |[]=>some ()
 |_=>none
def yt:OL Unit where
 enc _ _:=[]
 dec _ _ _:=dolN
 lens _ _:=0
 size:=0
 need:=0
 sz _ _:=rfl
 nb _ _:=by simp
 ok ρ L H n xs b _ h:=by
  unfold dolN at h
  split at h
  ·exact ⟨rfl,by simp⟩
  ·cases h
 Fm ρ L H xs b h:=by
  unfold dolN at h
  split at h
  ·rfl
  ·cases h
 OA ρ L H xs b h k:=by
  unfold dolN at h
  split at h
  ·rfl
  ·cases h
def dolC (o:OG γ) (s:OL β) (ρ:List Nat) (L:Bx) (H:List AObj):List AObj→Option (γ×β)
 |x::xs=>(o.dec ρ L H x).bind fun y=>(s.dec ρ L H xs).bind fun b=>some (y,b)
 |[]=>none
def Qd (a:Nat) (f:Bx):Bx
 |0=>a
 |k+1=>f k
def tA (o:OG γ) (s:OL β):OL (γ×β) where
 enc L b:=o.enc L b.1::s.enc L b.2
 dec:=dolC o s
 lens b:=Qd (o.len b.1) (s.lens b.2)
 size:=s.size+1
 need:=max o.need s.need
 sz L b:=by rw[fD,s.sz]
 nb L b y hy:=by
  simp only[fG] at hy
  rcases hy with rfl|hy
  ·exact uC (by omega) _ (o.nb L _)
  ·exact uC (by omega) _ (s.nb L _ y hy)
 ok ρ L H n xs b hv h:=by
  unfold dolC at h
  split at h
  ·rename_i x xs
   simp only[fc,ff] at h
   obtain ⟨y,hy,b,hb,rfl⟩:=h
   obtain ⟨h1,h2⟩:=s.ok ρ L H n _ _ (hv.mono (by omega)) hb
   refine ⟨by rw[fD,h1],fun i z hz=> ?_⟩
   cases i with
   |zero=>simp at hz;subst hz;exact ⟨x,by simp,o.ok ρ L H n _ _ (hv.mono (by omega)) hy⟩
   |succ i=>simp at hz;obtain ⟨q,hq,hc⟩:=h2 i z hz;exact ⟨q,by simpa using hq,hc⟩
  ·cases h
 Fm ρ L H xs b h:=by
  unfold dolC at h
  split at h
  ·simp only[fc,ff] at h
   obtain ⟨y,hy,b,hb,rfl⟩:=h
   rw[fD,s.Fm _ _ _ _ _ hb]
  ·cases h
 OA ρ L H xs b h k:=by
  unfold dolC at h
  split at h
  ·simp only[fc,ff] at h
   obtain ⟨y,hy,b,hb,rfl⟩:=h
   cases k with
   |zero=>simp only[Qd,fP];exact o.RR ρ L H _ _ hy
   |succ k=>simp only[Qd,fZ];exact s.OA ρ L H _ _ hb k
  ·cases h
theorem olN_f:(∀L b,yt.enc L b=[])∧(∀ρ L H xs,yt.dec ρ L H xs=dolN xs)∧(∀b k,yt.lens b k=0)∧yt.size=0∧yt.need=0:=⟨fun _ _=>rfl,fun _ _ _ _=>rfl,fun _ _=>rfl,rfl,rfl⟩
theorem olC_f {o:OG γ} {s:OL β}:(∀L b,(tA o s).enc L b=o.enc L b.1::s.enc L b.2)∧(∀ρ L H xs,(tA o s).dec ρ L H xs=dolC o s ρ L H xs)∧(∀b,(tA o s).lens b=Qd (o.len b.1) (s.lens b.2))∧(tA o s).size=s.size+1∧(tA o s).need=max o.need s.need:=⟨fun _ _=>rfl,fun _ _ _ _=>rfl,fun _=>rfl,rfl,rfl⟩
end objs
end Go.Abs
