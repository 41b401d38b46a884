/- A part of the proof: abstract states and the rules for them. -/
import Derived.Test.YtdkeelhebopgkaaGreatDoorCoreB
import Derived.Attr
import Derived.Laws.StructEq
import Derived.ChangeKeysEq
set_option linter.all false
open Option renaming bind_eq_some_iff → fj,bind_some → fI,isSome_some → ga,map_some → gk,map → gD
open Option.some renaming injEq → fk,inj → gC
open List renaming getElem?_eq_getElem → fm,getElem?_eq_some_iff → fo,getElem?_set_self → fq,getElem?_set_ne → fy,replicate → fA,mem_of_getElem? → fC,getElem?_append_right → fE,getElem?_append_left → fF,length_cons → fG,mem_cons → fJ,take_left' → fK,drop_left' → fL,getElem?_map → fN,length_set → fP,nodup_cons → fQ,getElem?_cons_zero → fS,isEmpty_nil → fT,getElem?_eq_none → fU,nil_append → fW,eq_nil_of_length_eq_zero → fX,length_append → fZ,length_take → gf,getElem?_cons_succ → gi,length_map → gj,mem_append → gp,take_of_length_le → gr,take_zero → gv,getElem?_of_mem → gw,all_cons → gy,map_cons → gz,map_congr_left → gA,getD → gB
open Prod.mk renaming injEq → fz
open Nat renaming le_refl → fB,lt_of_lt_of_le → fD,not_lt_zero → fV,zero_le → fY,add_sub_cancel_left → gh
open Bool renaming and_eq_true → fH,not_false → gu,true_and → gx
open List.cons renaming injEq → fM
open Array renaming toList_append → fO,toList_push → gb,toList_replicate → gq
open Go.Fence renaming wide → fR
namespace Go.Abs
def HSim (C:Ctx) (φ:Nat→Value) (H:List AObj) (w:World):Prop:=mA C φ {slots:=[],heap:=H,low:=H.length} {tmps:= #[],defers:=[]} w
def ZW (P:Program) (f:FuncId) (args:List AV) (H:List AObj) (V:ud→List AObj→Prop):Prop:=
 enters P f=true∧nbL H.length args∧(∀x∈H,objNb H.length x)∧ ∀ (C:Ctx) (φ:Nat→Value) (w:World),C.P=P→C.w0=w→C.N0=H.length→(∀l,l<H.length→C.φ0 l=φ l∧C.ln0 l=lN H[l]?)→(∀b o,C.M0 b o↔ET φ H b o)→
  HSim C φ H w→ ∀vs:Array Value,k6 (C.env φ H w) args vs.toList→
  Calls P f vs w fun e w'=> ∃o φ' H',V o H'∧mA C φ' {slots:=[],heap:=H',low:=H.length} {tmps:= #[],defers:=[]} w'∧o.rep (C.env φ' H' w') e
def qb:List AObj→List Nat→List AObj→List AObj
 |H,l::ls,x::xs=>qb (H.set l x) ls xs
 |H,_,_=>H
def mO (ρ:List Nat) (n:Nat) (l:Nat):Nat:=if l<ρ.length then ρ.getD l 0 else n+(l-ρ.length)
def tw (ρ:List Nat) (H H':List AObj):List AObj:=
 qb H ρ (H'.map (AObj.ren (mO ρ H.length)))++(H'.drop ρ.length).map (AObj.ren (mO ρ H.length))
theorem vU: ∀ (H:List AObj) (ls:List Nat) (xs:List AObj),(qb H ls xs).length=H.length
 |_,[],_=>by simp [qb]
 |_,_::_,[]=>by simp [qb]
 |H,l::ls,x::xs=>by rw[qb,vU,fP]
theorem EG: ∀ (ls:List Nat) (H:List AObj) (xs:List AObj) (k:Nat),k ∉ ls→(qb H ls xs)[k]? =H[k]?
 |[],_,_,_,_=>by simp [qb]
 |_::_,_,[],_,_=>by simp [qb]
 |l::ls,H,x::xs,k,h=>by
  simp only[fJ,not_or] at h
  rw[qb,EG ls _ xs k h.2,fy (fun e=>h.1 e.symm)]
theorem Pa: ∀ (ls:List Nat) (H:List AObj) (xs:List AObj) (i k:Nat) (x:AObj),ls.Nodup→ls[i]? =some k→xs[i]? =some x→k<H.length→(qb H ls xs)[k]? =some x
 |[],_,_,_,_,_,_,h,_,_=>by simp at h
 |_::_,_,[],_,_,_,_,_,h,_=>by simp at h
 |l::ls,H,y::ys,0,k,x,hnd,h,hx,hk=>by
  simp at h hx;subst h hx
  rw[fQ] at hnd
  rw[qb,EG ls _ ys l hnd.1,fq hk]
 |l::ls,H,y::ys,i+1,k,x,hnd,h,hx,hk=>by
  simp at h hx
  rw[fQ] at hnd
  rw[qb]
  exact Pa ls _ ys i k x hnd.2 h hx (by rw[fP];exact hk)
def YY:List Nat→Nat→Option Nat
 |[],_=>none
 |x::xs,k=>if x=k then some 0 else (YY xs k).map (· +1)
theorem Wd: ∀ (ρ:List Nat) (l k:Nat),ρ.Nodup→ρ[l]? =some k→YY ρ k=some l
 |[],_,_,_,h=>by simp at h
 |x::xs,0,k,_,h=>by simp at h;subst h;simp [YY]
 |x::xs,l+1,k,hnd,h=>by
  simp at h
  rw[fQ] at hnd
  have hne:x≠k:=fun e=>hnd.1 (e ▸ fC h)
  simp [YY,hne,Wd xs l k hnd.2 h]
theorem YZ: ∀ (ρ:List Nat) (k:Nat),k ∉ ρ→YY ρ k=none
 |[],_,_=>rfl
 |x::xs,k,h=>by
  simp only[fJ,not_or] at h
  have hne:x≠k:=fun e=>h.1 e.symm
  simp [YY,hne,YZ xs k h.2]
section call
variable {C:Ctx} {φ:Nat→Value} {σ:AState} {a:Act} {w:World}
structure Sg (T:Value→World→Array Value→(Ending→World→Prop)→Prop):Prop where
 mono: ∀h w vs R R',(∀e w',R e w'→R' e w')→T h w vs R→T h w vs R'
def Y0 (P:Program) (T:Value→World→Array Value→(Ending→World→Prop)→Prop) (args:List AV) (H:List AObj) (V:ud→List AObj→Prop):Prop:=
 nbL H.length args∧(∀x∈H,objNb H.length x)∧ ∀ (C:Ctx) (φ:Nat→Value) (w:World),C.P=P→C.w0=w→C.N0=H.length→(∀l,l<H.length→C.φ0 l=φ l∧C.ln0 l=lN H[l]?)→(∀b o,C.M0 b o↔ET φ H b o)→
  HSim C φ H w→ ∀vs:Array Value,k6 (C.env φ H w) args vs.toList→
  T (φ 0) w vs fun e w'=> ∃o φ' H',V o H'∧mA C φ' {slots:=[],heap:=H',low:=H.length} {tmps:= #[],defers:=[]} w'∧o.rep (C.env φ' H' w') e
def NF (P:Program) (T:Value→World→Array Value→(Ending→World→Prop)→Prop) (l:Nat) (args:List AV) (σ:AState) (K:ud→List AObj→Prop):Prop:=
 ∀ (C:Ctx) (φ:Nat→Value) (a:Act) (w:World),C.P=P→mA C φ σ a w→ ∀vs:Array Value,k6 (C.env φ σ.heap w) args vs.toList→
   T (φ l) w vs fun e w'=> ∃o φ' H',K o H'∧mA C φ' {σ with heap:=H'} a w'∧o.rep (C.env φ' H' w') e
theorem We {P:Program} {T:Value→World→Array Value→(Ending→World→Prop)→Prop} (hT:Sg T) {l0:Nat} {Kb args:List AV} {H:List AObj} {V:ud→List AObj→Prop} {K:ud→List AObj→Prop} (h:Y0 P T args H V) (ρ:List Nat) (hlen:ρ.length=H.length) (hnd:ρ.Nodup)
 (hz: ∀φ:Nat→Value,T (φ (mO ρ σ.heap.length 0))=T (φ l0))
 (hargs:qJ Kb (renL (mO ρ σ.heap.length) args)) (Hp: ∀ (i:Nat) (k:Nat) (x:AObj),ρ[i]? =some k→H[i]? =some x→σ.heap[k]? =some (x.ren (mO ρ σ.heap.length)))
 (hK: ∀o H',V o H'→K (o.ren (mO ρ σ.heap.length)) (tw ρ σ.heap H')):NF P T l0 Kb σ K:=by
 obtain ⟨hnbA,Fc,hc⟩:=h
 intro C φ a w hP S vs hr
 let ρf:Nat→Nat:=mO ρ σ.heap.length
 have hρ: ∀l,l<H.length→ρ[l]? =some (ρf l):=by
  intro l hl
  have hl':l<ρ.length:=by omega
  simp only[ρf,mO,hl',if_true,gB,fm hl',Option.getD_some]
 let φc:Nat→Value:=fun l=>φ (ρf l)
 have Xx: ∀ (l:Nat) (x:AObj),H[l]? =some x→σ.heap[ρf l]? =some (x.ren ρf):=fun l x hx=>Hp l _ x (hρ l (fo.1 hx).1) hx
 have hρlt: ∀l,l<H.length→ρf l<σ.heap.length:=by
  intro l hl
  have:=Xx l H[l] (fm hl)
  exact (fo.1 this).1
 have hinj: ∀l l',l<H.length→l'<H.length→ρf l=ρf l'→l=l':=by
  intro l l' hl hl' he
  have h1:=hρ l hl
  have h2:=hρ l' hl'
  rw[he] at h1
  obtain ⟨i1,e1⟩:=fo.1 h1
  obtain ⟨i2,e2⟩:=fo.1 h2
  exact (List.getElem_inj hnd).1 (by rw[e1,e2])
 have hMsub: ∀b o,ET φc H b o→ET φ σ.heap b o:=by
  rintro b o ⟨l,x,hx,hm⟩
  exact ⟨ρf l,_,Xx l x hx,O7.2 hm⟩
 have hA0: ∀b o,((ET φ σ.heap b o∨C.A b o)∧ ¬ ET φc H b o)→b<w.heap.size:=by
  rintro b o ⟨⟨l,x,hx,hm⟩|hA,_⟩
  ·exact (S.objs l x hx).qc (AObj.nu hm)
  ·exact fD (C.hA b o hA) S.size
 let C':Ctx:=Ctx.mk C.P w (ET φc H) (fun b o=>(ET φ σ.heap b o∨C.A b o)∧ ¬ ET φc H b o) hA0 (fun b o h=>let ⟨v,h1,h2,h3⟩:=S.know b o h;⟨v,h1,h2,fun hm=>h3 (hMsub b o hm)⟩) H.length φc (fun l=>lN H[l]?)
 have hmuEq: ∀b o,(ET φc H b o∨C'.A b o)↔(ET φ σ.heap b o∨C.A b o):=by
  intro b o
  constructor
  ·rintro (h|h)
   ·exact .inl (hMsub b o h)
   ·exact h.1
  ·intro h
   by_cases hm:ET φc H b o
   ·exact .inl hm
   ·exact .inr ⟨h,hm⟩
 have un:UnLe H.length ρf (C.env φ σ.heap w) (C'.env φc H w):=by
  refine ⟨fB _,fun l hl=>⟨rfl,?_⟩,fun b o u hm hcell=>⟨fun hh=>hm ((hmuEq b o).1 hh),hcell⟩⟩
  simp only[Ctx.env]
  rw[Xx l H[l] (fm hl),DW,fm hl]
 have DS: ∀ (l:Nat) (x:AObj) (b:Nat),H[l]? =some x→x.block (φc l) b→ ∃y:AObj,σ.heap[ρf l]? =some y∧y.block (φ (ρf l)) b:=fun l x b hx hb=>⟨_,Xx l x hx,Bk.2 hb⟩
 have hown: ∀ (l:Nat) (x:AObj) (b:Nat),H[l]? =some x→x.block (φc l) b→ ∀o,ET φ σ.heap b o→ET φc H b o:=by
  rintro l x b hx hb o ⟨k,y,hy,hm⟩
  obtain ⟨z,hz,hzb⟩:=DS l x b hx hb
  have hk:=S.apart k (ρf l) y z b hy hz (AObj.nu hm) hzb
  subst hk
  have hf:=Xx l x hx
  rw[hy] at hf
  cases hf
  exact ⟨l,x,hx,O7.1 hm⟩
 have hS':HSim C' φc H w:=by
  refine {slots:=rfl,defers:=rB.nil,objs:= ?_,apart:= ?_,s6:= ?_,size:=fB _,old:=fun _ _ _ _=>rfl,ni:=fun _ _ _=>rfl,C5:= ?_,vT:=fun _ _=>rfl,rest:=⟨rfl,rfl⟩,low:=⟨rfl,fB _⟩,names:=fun l hl=> .inl ⟨rfl,.inl rfl⟩}
  ·intro l x hx
   exact nk.Cb un (Fc x (fC hx)) (fun _ _=>rfl) (S.objs (ρf l) _ (Xx l x hx))
  ·intro l l' x x' b hx hx' hb hb'
   obtain ⟨z,hz,hzb⟩:=DS l x b hx hb
   obtain ⟨z',hz',hzb'⟩:=DS l' x' b hx' hb'
   exact hinj l l' (fo.1 hx).1 (fo.1 hx').1 (S.apart _ _ z z' b hz hz' hzb hzb')
  ·rintro l x b o hx hb ⟨hA|hA,hn⟩
   ·exact hn (hown l x b hx hb o hA)
   ·obtain ⟨z,hz,hzb⟩:=DS l x b hx hb
    exact S.s6 _ z b o hz hzb hA
  ·intro l x b o hx hm _
   exact ⟨l,x,hx,hm⟩
 have hr':k6 (C'.env φc H w) args vs.toList:=k6.Cb un _ _ hnbA (hargs _ _ hr)
 have ya:=hc C' φc w hP rfl rfl (fun l _=>⟨rfl,rfl⟩) (fun _ _=>Iff.rfl) hS' vs hr'
 rw[show φc 0=φ (mO ρ σ.heap.length 0) from rfl,hz φ] at ya
 refine hT.mono _ _ _ _ _ ?_ ya
 rintro e w' ⟨o,φ',H',hV,S',rR⟩
 have hHle:H.length≤H'.length:=S'.low.2
 let n:=σ.heap.length
 have hcase: ∀k,k<n→(∃l,l<H.length∧ρf l=k)∨k ∉ ρ:=by
  intro k _
  by_cases hm:k∈ρ
  ·obtain ⟨i,hi⟩:=gw hm
   have hil:=(fo.1 hi).1
   left
   refine ⟨i,by omega,?_⟩
   have:=hρ i (by omega)
   rw[hi] at this;cases this;rfl
  ·exact .inr hm
 let ix:Nat→Option Nat:=YY ρ
 have hix: ∀l,l<H.length→ix (ρf l)=some l:=by
  intro l hl
  exact Wd ρ l _ hnd (hρ l hl)
 have hix0: ∀k,k ∉ ρ→ix k=none:=by
  intro k hk
  exact YZ ρ k hk
 let φ2:Nat→Value:=fun k=>if k<n then (match ix k with|some l=>φ' l|none=>φ k) else φ' (H.length+(k-n))
 have XR: ∀l,l<H'.length→φ2 (ρf l)=φ' l:=by
  intro l hl
  by_cases h1:l<H.length
  ·simp only[φ2]
   rw[if_pos (hρlt l h1),hix l h1]
  ·have h2:ρf l=n+(l-H.length):=by
    have: ¬ l<ρ.length:=by omega
    show mO ρ σ.heap.length l=_
    unfold mO
    rw[if_neg this,hlen]
   simp only[φ2]
   rw[if_neg (by omega),h2]
   congr 1;omega
 have Y1: ∀k,k<n→k ∉ ρ→φ2 k=φ k:=by
  intro k hk hm
  simp only[φ2]
  rw[if_pos hk,hix0 k hm]
 let H2:List AObj:=tw ρ σ.heap H'
 have hH2f: ∀ (l:Nat) (hl:l<H'.length),H2[ρf l]? =some ((H'[l]).ren ρf):=by
  intro l hl
  simp only[H2,tw]
  by_cases h1:l<H.length
  ·have hlt:=hρlt l h1
   rw[fF (by rw[vU];exact hlt)]
   exact Pa ρ σ.heap _ l (ρf l) _ hnd (hρ l h1) (by rw[fN,fm hl];rfl) hlt
  ·have h2:ρf l=n+(l-H.length):=by
    have: ¬ l<ρ.length:=by omega
    show mO ρ σ.heap.length l=_
    unfold mO
    rw[if_neg this,hlen]
   rw[h2,fE (by rw[vU];omega),vU]
   rw[fN,List.getElem?_drop,hlen]
   have e:H.length+(n+(l-H.length)-σ.heap.length)=l:=by simp only[n];omega
   rw[e,fm hl];rfl
 have hH2o: ∀k,k<n→k ∉ ρ→H2[k]? =σ.heap[k]? :=by
  intro k hk hm
  simp only[H2,tw]
  rw[fF (by rw[vU];exact hk)]
  exact EG ρ _ _ k hm
 have hH2len:H2.length=n+(H'.length-H.length):=by
  simp only[H2,tw,fZ,vU,gj,List.length_drop,hlen];rfl
 have hH2: ∀ (k:Nat) (y:AObj),H2[k]? =some y→(∃l,∃hl:l<H'.length,k=ρf l∧y=(H'[l]).ren ρf)∨(k<n∧k ∉ ρ∧σ.heap[k]? =some y):=by
  intro k y hy
  have hk:k<H2.length:=(fo.1 hy).1
  by_cases h1:k<n
  ·rcases hcase k h1 with ⟨l,hl,rfl⟩|hm
   ·left
    have:=hH2f l (by omega)
    rw[hy] at this;cases this
    exact ⟨l,by omega,rfl,rfl⟩
   ·right
    rw[hH2o k h1 hm] at hy
    exact ⟨h1,hm,hy⟩
  ·left
   have hl:H.length+(k-n)<H'.length:=by omega
   have hk2:ρf (H.length+(k-n))=k:=by
    have: ¬ H.length+(k-n)<ρ.length:=by omega
    show mO ρ σ.heap.length _=_
    unfold mO
    rw[if_neg this,hlen]
    simp only[n] at h1 ⊢;omega
   have:=hH2f _ hl
   rw[hk2,hy] at this;cases this
   exact ⟨_,hl,hk2.symm,rfl⟩
 have hMut2: ∀b o,ET φ2 H2 b o→ET φ' H' b o∨ ∃ (k:Nat) (y:AObj),k<n∧k ∉ ρ∧σ.heap[k]? =some y∧y.muts (φ k) b o:=by
  rintro b o ⟨k,y,hy,hm⟩
  rcases hH2 k y hy with ⟨l,hl,rfl,rfl⟩|⟨h1,h2,h3⟩
  ·left
   rw[XR l hl] at hm
   exact ⟨l,_,fm hl,O7.1 hm⟩
  ·right
   rw[Y1 k h1 h2] at hm
   exact ⟨k,y,h1,h2,h3,hm⟩
 have hsep: ∀ (k:Nat) (y:AObj) (b:Nat),k<n→k ∉ ρ→σ.heap[k]? =some y→y.block (φ k) b→ ∀o,¬ ET φc H b o:=by
  rintro k y b hk hm hy hb o ⟨l,x,hx,UE⟩
  obtain ⟨z,hz,hzb⟩:=DS l x b hx (AObj.nu UE)
  have e:=S.apart k (ρf l) y z b hy hz hb hzb
  apply hm
  rw[e]
  exact fC (hρ l (fo.1 hx).1)
 have Ym: ∀ (l:Nat) (hl:l<H'.length) (b:Nat),(H'[l]).block (φ' l) b→b<w.heap.size→ ∃ (k:Nat) (x:AObj),H[k]? =some x∧x.block (φc k) b:=by
  intro l hl b hb hlt
  obtain ⟨o,UE⟩:=N8 hb
  obtain ⟨k,x,hx,hmx⟩:=S'.C5 l _ b o (fm hl) UE hlt
  exact ⟨k,x,hx,AObj.nu hmx⟩
 have le:(C.env φ σ.heap w).Le n (C.env φ2 H2 w'):=by
  refine ⟨by simp only[Ctx.env];omega,fun k hk=> ?_,fun b o' u hm hcell=> ?_⟩
  ·rcases hcase k hk with ⟨l,hl,rfl⟩|hm
   ·have hn:=S'.names l hl
    simp only[Ctx.env]
    rw[XR l (by omega),hH2f l (by omega),DW,Xx l H[l] (fm hl),DW]
    have h1:lN H'[l]? =lN (some H'[l]):=by rw[fm (by omega)]
    have h2:C'.ln0 l=lN (some H[l]):=by show lN H[l]? =_;rw[fm hl]
    rw[h1,h2] at hn
    exact hn
   ·left
    simp only[Ctx.env]
    rw[Y1 k hk hm,hH2o k hk hm]
    exact ⟨rfl,.inl rfl⟩
  ·have hb:=F7 hcell
   simp only[Ctx.env] at hb hm ⊢
   have hnc: ¬ ET φc H b o':=fun hh=>hm (.inl (hMsub b o' hh))
   refine ⟨?_,by rw[S'.old b o' hb hnc];exact hcell⟩
   rintro (hh|hh)
   ·rcases hMut2 b o' hh with ⟨l,x,hx,UE⟩|⟨k,y,_,_,hy,UE⟩
    ·exact hnc (S'.C5 l x b o' hx UE hb)
    ·exact hm (.inl ⟨k,y,hy,UE⟩)
   ·exact hm (.inr hh)
 have ren:V7 H'.length ρf (C'.env φ' H' w') (C.env φ2 H2 w'):=by
  refine ⟨fun l hl=> ?_,fun l hl=> ?_,fun b o' u hm hcell=>⟨?_,hcell⟩⟩
  ·have:=hH2f l hl
   exact (fo.1 this).1
  ·simp only[Ctx.env]
   rw[XR l hl,hH2f l hl,DW,fm hl]
   exact ⟨rfl,.inl rfl⟩
  ·simp only[Ctx.env] at hm ⊢
   rintro (hh|hh)
   ·rcases hMut2 b o' hh with h1|⟨k,y,hk,hkm,hy,UE⟩
    ·exact hm (.inl h1)
    ·exact hm (.inr ⟨.inl ⟨k,y,hy,UE⟩,hsep k y b hk hkm hy (AObj.nu UE) o'⟩)
   ·refine hm (.inr ⟨.inr hh,?_⟩)
    rintro ⟨l,x,hx,UE⟩
    obtain ⟨z,hz,hzb⟩:=DS l x b hx (AObj.nu UE)
    exact S.s6 _ z b o' hz hzb hh
 have S2:mA C φ2 {σ with heap:=H2} a w':=by
  have Ch:rB C φ2 H2 w' σ.df a.defers:=by
   refine S.defers.step le (fun b hb hno=>S'.ni b hb (fun o' hh=> ?_)) (fun k x b hx hb=> ?_)
   ·obtain ⟨l,x,hx,UE⟩:=hh
    obtain ⟨z,hz',hzb⟩:=DS l x b hx (AObj.nu UE)
    exact hno _ z hz' hzb
   ·by_cases hbs:b<w.heap.size
    ·rcases hH2 k x hx with ⟨l,hl,rfl,rfl⟩|⟨h1,h2,h3⟩
     ·rw[XR l hl] at hb
      obtain ⟨q,z,hz',hzb⟩:=Ym l hl b (Bk.1 hb) hbs
      obtain ⟨z',hz2,hzb'⟩:=DS q z b hz' hzb
      exact .inl ⟨_,z',hz2,hzb'⟩
     ·rw[Y1 k h1 h2] at hb
      exact .inl ⟨k,x,h3,hb⟩
    ·exact .inr (by omega)
  refine {slots:=k6.mono le _ _ (k6.nb _ _ S.slots) S.slots,defers:=Ch,objs:= ?_,apart:= ?_,s6:= ?_,size:=Nat.le_trans S.size S'.size,old:= ?_,ni:= ?_,C5:= ?_,vT:=fun x hx=>(S'.vT x (fD hx S.size)).trans (S.vT x hx),rest:=⟨S'.rest.1.trans S.rest.1,S'.rest.2.trans S.rest.2⟩,low:=⟨S.low.1,by have:=S.low.2;show σ.low≤H2.length;omega⟩,names:= ?_}
  ·intro k y hy
   rcases hH2 k y hy with ⟨l,hl,rfl,rfl⟩|⟨h1,h2,h3⟩
   ·rw[XR l hl]
    have r0:=S'.objs l _ (fm hl)
    exact nk.ren ren (O8 r0) (fun _ _=>rfl) r0
   ·rw[Y1 k h1 h2]
    have r0:=S.objs k y h3
    exact nk.mono r0 le (fun b hb=>S'.ni b (r0.qc hb) (hsep k y b h1 h2 h3 hb))
  ·intro k k' x x' b hx hx' hb hb'
   rcases hH2 k x hx with ⟨l,hl,rfl,rfl⟩|⟨h1,h2,h3⟩<;>rcases hH2 k' x' hx' with ⟨l',hl',rfl,rfl⟩|⟨h1',h2',h3'⟩
   ·rw[XR l hl] at hb
    rw[XR l' hl'] at hb'
    have:=S'.apart l l' _ _ b (fm hl) (fm hl') (Bk.1 hb) (Bk.1 hb')
    rw[this]
   ·rw[XR l hl] at hb
    rw[Y1 k' h1' h2'] at hb'
    exfalso
    obtain ⟨q,z,hz,hzb⟩:=Ym l hl b (Bk.1 hb) ((S.objs k' x' h3').qc hb')
    obtain ⟨o'',UE⟩:=N8 hzb
    exact hsep k' x' b h1' h2' h3' hb' o'' ⟨q,z,hz,UE⟩
   ·rw[XR l' hl'] at hb'
    rw[Y1 k h1 h2] at hb
    exfalso
    obtain ⟨q,z,hz,hzb⟩:=Ym l' hl' b (Bk.1 hb') ((S.objs k x h3).qc hb)
    obtain ⟨o'',UE⟩:=N8 hzb
    exact hsep k x b h1 h2 h3 hb o'' ⟨q,z,hz,UE⟩
   ·rw[Y1 k h1 h2] at hb
    rw[Y1 k' h1' h2'] at hb'
    exact S.apart k k' x x' b h3 h3' hb hb'
  ·intro k x b o' hx hb
   rcases hH2 k x hx with ⟨l,hl,rfl,rfl⟩|⟨h1,h2,h3⟩
   ·rw[XR l hl] at hb
    intro hA
    have hbs:b<w.heap.size:=fD (C.hA b o' hA) S.size
    obtain ⟨q,z,hz,hzb⟩:=Ym l hl b (Bk.1 hb) hbs
    obtain ⟨z',hz',hzb'⟩:=DS q z b hz hzb
    exact S.s6 _ z' b o' hz' hzb' hA
   ·rw[Y1 k h1 h2] at hb
    exact S.s6 k x b o' h3 hb
  ·intro b o' hb hm
   have hb':b<w.heap.size:=fD hb S.size
   have hnc: ¬ ET φc H b o':=by
    intro hh
    obtain ⟨k,y,hy,UE⟩:=hMsub b o' hh
    exact hm (S.C5 k y b o' hy UE hb)
   exact (S'.old b o' hb' hnc).trans (S.old b o' hb hm)
  ·intro b hb hm
   have hb':b<w.heap.size:=fD hb S.size
   have hnc: ∀o',¬ ET φc H b o':=by
    intro o' hh
    obtain ⟨k,y,hy,UE⟩:=hMsub b o' hh
    exact hm o' (S.C5 k y b o' hy UE hb)
   exact (S'.ni b hb' hnc).trans (S.ni b hb hm)
  ·intro k x b o' hx UE hb
   rcases hH2 k x hx with ⟨l,hl,rfl,rfl⟩|⟨h1,h2,h3⟩
   ·rw[XR l hl] at UE
    obtain ⟨q,z,hz,hmz⟩:=S'.C5 l _ b o' (fm hl) (O7.1 UE) (fD hb S.size)
    obtain ⟨k2,y2,hy2,hmu2⟩:=hMsub b o' ⟨q,z,hz,hmz⟩
    exact S.C5 k2 y2 b o' hy2 hmu2 hb
   ·rw[Y1 k h1 h2] at UE
    exact S.C5 k x b o' h3 UE hb
  ·intro k hk
   have hkn:k<n:=by have:=S.low;simp only[n];omega
   have hn:=S.names k hk
   show (φ2 k=_∧_)∨_
   rcases hcase k hkn with ⟨l,hl,rfl⟩|hm
   ·have hn':=S'.names l hl
    rw[XR l (by omega),hH2f l (by omega),DW]
    rw[Xx l H[l] (fm hl),DW] at hn
    have h1:lN H'[l]? =lN (some H'[l]):=by rw[fm (by omega)]
    have h2:C'.ln0 l=lN (some H[l]):=by show lN H[l]? =_;rw[fm hl]
    have h3:C'.φ0 l=φ (ρf l):=rfl
    rw[h1,h2,h3] at hn'
    rcases hn' with ⟨ha,hb|hb⟩|⟨⟨q,hq,hlt⟩,hp,hmp⟩
    ·rw[ha,hb];exact hn
    ·rw[hb]
     rcases hn with ⟨hc1,_⟩|⟨⟨q,hq,_⟩,hp,hmp⟩
     ·exact .inl ⟨by rw[ha];exact hc1,.inr rfl⟩
     ·exact .inr ⟨⟨q,hq,fun k' hk'=>by cases hk'⟩,hp,hmp⟩
    ·right
     rcases hn with ⟨hc1,hc2|hc2⟩|⟨⟨q2,hq2,hlt2⟩,hp2,hmp2⟩
     ·rw[hq] at hc2
      exact ⟨⟨q,hc2.symm,hlt⟩,by rw[←hc1];exact ⟨hp,hmp⟩⟩
     ·rw[hq] at hc2;cases hc2
     ·exact ⟨⟨q2,hq2,fun k' hk'=>by have:=hlt k' hk';have:=hlt2 q hq;omega⟩,hp2,hmp2⟩
   ·rw[Y1 k hkn hm,hH2o k hkn hm];exact hn
 refine ⟨o.ren ρf,φ2,H2,hK o H' hV,S2,?_⟩
 cases o with
 |ret r=>
  cases e with
  |returned v=>exact nO.ren ren r v (nO.nb _ _ rR) rR
  |panicked chain=>exact rR.elim
  |outgrown=>exact rR.elim
 |panic x=>
  cases e with
  |returned v=>exact rR.elim
  |panicked chain=>
   obtain ⟨v,hv,hr⟩:=rR
   exact ⟨v,hv,nO.ren ren x v (nO.nb _ _ hr) hr⟩
  |outgrown=>exact rR.elim
theorem VA {P:Program} {f:FuncId}:Sg (fun _ w vs R=>Calls P f vs w R):=⟨fun _ _ _ _ _ hr h=>Calls.mono h hr⟩
theorem rounds_mono {P:Program}:Sg (R8 P):=⟨fun _ _ _ _ _ hr h D rec h1 h2=>(h D rec h1 h2).mono hr⟩
theorem callA_of_fnG {P:Program} {f:FuncId} {Kb args:List AV} {H:List AObj} {V:ud→List AObj→Prop} {K:ud→List AObj→Prop} (h:ZW P f args H V) (ρ:List Nat) (hlen:ρ.length=H.length) (hnd:ρ.Nodup)
 (hargs:qJ Kb (renL (mO ρ σ.heap.length) args)) (Hp: ∀ (i:Nat) (k:Nat) (x:AObj),ρ[i]? =some k→H[i]? =some x→σ.heap[k]? =some (x.ren (mO ρ σ.heap.length)))
 (hK: ∀o H',V o H'→K (o.ren (mO ρ σ.heap.length)) (tw ρ σ.heap H')):yO P f Kb σ K:=
 ⟨h.1,We (T:=fun _ w vs R=>Calls P f vs w R) (l0:=0) VA h.2 ρ hlen hnd (fun _=>rfl) hargs Hp hK⟩
end call
theorem nk.monoN {E E':Env} {N:Nat} {x:AObj} {hd:Value} (r:nk E x hd) (h:E.Le N E') (hn:objNb N x) (hs:E'.w=E.w:=by rfl):nk E' x hd:=by
 cases x with
 |cells cs=>obtain ⟨b,c,t,h1,h2,rl,h3⟩:=r;exact ⟨b,c,t,h1,by rw[hs];exact h2,k6.mono h _ _ hn rl,h3⟩
 |acc pY sz rows=>
  obtain ⟨base,cap,h1,h2,h3,h4,h5⟩:=r
  refine ⟨base,cap,h1,h2,h3,h4,fun a0 ha hc=> ?_⟩
  obtain ⟨h6,c,t,h7,h8,rl,h9⟩:=h5 a0 ha hc
  exact ⟨h6,c,t,by rw[hs];exact h7,h8,k6.mono h _ _ (GD hn) rl,h9⟩
 |map es=>obtain ⟨r',en,cl,h1,h2,rp⟩:=r;exact ⟨r',en,cl,h1,by rw[hs];exact h2,qP.mono h hn rp⟩
 |loop k slots st sk=>obtain ⟨D,rec,h1,h2,h3,h4,rl⟩:=r;exact ⟨D,rec,h1,by rw[hs];exact h2,by rw[hs];exact h3,h4,k6.mono h _ _ hn rl⟩
 |iter s p=>obtain ⟨b,h1,h2⟩:=r;exact ⟨b,h1,by rw[hs];exact h2⟩
 |dead=>trivial
def N9 (σ:AState) (x r:AV) (H':List AObj):Prop:=
 ∀ (C:Ctx) (φ:Nat→Value) (a:Act) (w:World),mA C φ σ a w→ ∀v,nO (C.env φ σ.heap w) x v→
   ∃φ',mA C φ' {slots:=[],heap:=H',low:=σ.low} {tmps:= #[],defers:=[]} w∧nO (C.env φ' H' w) r v
def outX (low l k:Nat):Nat:=if k<low then k else if k=l then low else low+1+k
section export_
variable {σ:AState}
theorem N9.sub {x r r':AV} {H':List AObj} (h:N9 σ x r H') (hs:Sub r r'):N9 σ x r' H':=fun C φ a w S v hv=>
 let ⟨φ',S',hr⟩:=h C φ a w S v hv
 ⟨φ',S',hs _ _ hr⟩
theorem take_get {H:List AObj} {low l:Nat} (hl:l<low):(H.take low)[l]? =H[l]? :=by rw[List.getElem?_take,if_pos hl]
theorem export_one {x:AV} {l:Nat} {y:AObj} (hl:σ.heap[l]? =some y) (EF:σ.low≤l) (hnb: ∀z∈σ.heap.take σ.low,objNb σ.low z) (hy:objNb σ.low y) (hr:(x.ren (outX σ.low l)).nb (σ.low+1)):
 N9 σ x (x.ren (outX σ.low l)) (σ.heap.take σ.low++[y]):=by
 intro C φ a w S v hv
 have hlowle:=S.low.2
 have hHl:(σ.heap.take σ.low).length=σ.low:=by rw[gf];omega
 let H':=σ.heap.take σ.low++[y]
 let φ':Nat→Value:=fun k=>if k=σ.low then φ l else φ k
 have hφ': ∀k,k<σ.low→φ' k=φ k:=fun k hk=>by simp only[φ'];rw[if_neg (by omega)]
 have hφl:φ' σ.low=φ l:=by simp [φ']
 have hget0: ∀k,k<σ.low→H'[k]? =σ.heap[k]? :=by
  intro k hk
  simp only[H']
  rw[fF (by omega),take_get hk]
 have hgetl:H'[σ.low]? =some y:=by
  simp only[H']
  rw[fE (by omega),hHl,Nat.sub_self];rfl
 have hHlen:H'.length=σ.low+1:=by simp only[H',fZ,hHl,fG,List.length_nil]
 have mL: ∀ (k:Nat) (z:AObj),H'[k]? =some z→(k<σ.low∧σ.heap[k]? =some z)∨(k=σ.low∧z=y):=by
  intro k z hz
  have hk:k<σ.low+1:=by rw[←hHlen];exact (fo.1 hz).1
  by_cases e:k=σ.low
  ·subst e;rw[hgetl] at hz;cases hz;exact .inr ⟨rfl,rfl⟩
  ·left
   rw[hget0 k (by omega)] at hz
   exact ⟨by omega,hz⟩
 let old:Nat→Nat:=fun k=>if k=σ.low then l else k
 have hold: ∀ (k:Nat) (z:AObj),H'[k]? =some z→σ.heap[old k]? =some z∧φ' k=φ (old k):=by
  intro k z hz
  rcases mL k z hz with ⟨h1,h2⟩|⟨rfl,rfl⟩
  ·simp only[old];rw[if_neg (by omega)];exact ⟨h2,hφ' k h1⟩
  ·simp only[old,if_true];exact ⟨hl,hφl⟩
 have holdinj: ∀k k',k<σ.low+1→k'<σ.low+1→old k=old k'→k=k':=by
  intro k k' hk hk' he
  simp only[old] at he
  split at he<;>split at he<;>omega
 have EE: ∀b o,ET φ' H' b o→ET φ σ.heap b o:=by
  rintro b o ⟨k,z,hz,hm⟩
  obtain ⟨h1,h2⟩:=hold k z hz
  rw[h2] at hm
  exact ⟨old k,z,h1,hm⟩
 have le:(C.env φ σ.heap w).Le σ.low (C.env φ' H' w):=by
  refine ⟨by simp only[Ctx.env];omega,fun k hk=> .inl ⟨hφ' k hk,.inl (by simp only[Ctx.env];rw[hget0 k hk])⟩,fun b o u hm hc=>⟨fun h=>hm (h.imp (EE b o) id),hc⟩⟩
 refine ⟨φ',{slots:=rfl,defers:=rB.nil,objs:= ?_,apart:= ?_,s6:= ?_,size:=S.size,old:=S.old,ni:=S.ni,C5:= ?_,vT:=S.vT,rest:=S.rest,low:=⟨S.low.1,by show σ.low≤H'.length;omega⟩,names:= ?_},?_⟩
 ·intro k z hz
  show nk (C.env φ' H' w) z (φ' k)
  obtain ⟨h1,h2⟩:=hold k z hz
  rw[h2]
  refine (S.objs (old k) z h1).monoN le ?_
  rcases mL k z hz with ⟨h3,h4⟩|⟨rfl,rfl⟩
  ·exact hnb z (fC ((take_get h3).trans h4))
  ·exact hy
 ·intro k k' z z' b hz hz' hb hb'
  obtain ⟨h1,h2⟩:=hold k z hz
  obtain ⟨h1',h2'⟩:=hold k' z' hz'
  rw[h2] at hb
  rw[h2'] at hb'
  have hk:k<σ.low+1:=by rw[←hHlen];exact (fo.1 hz).1
  have hk':k'<σ.low+1:=by rw[←hHlen];exact (fo.1 hz').1
  exact holdinj k k' hk hk' (S.apart _ _ z z' b h1 h1' hb hb')
 ·intro k z b o hz hb
  obtain ⟨h1,h2⟩:=hold k z hz
  rw[h2] at hb
  exact S.s6 _ z b o h1 hb
 ·intro k z b o hz hm hb
  obtain ⟨h1,h2⟩:=hold k z hz
  rw[h2] at hm
  exact S.C5 _ z b o h1 hm hb
 ·intro k hk
  have hk':k<σ.low:=by have:=S.low.1;omega
  show (φ' k=_∧(lN H'[k]? =_∨_))∨_
  rw[hφ' k hk',hget0 k hk']
  exact S.names k hk
 ·
  let E2:Env:={w,mu:=(C.env φ' H' w).mu,φ:=fun k=>if k<σ.low+1 then φ' k else φ (k-(σ.low+1)),ln:=fun k=>if k<σ.low+1 then lN H'[k]? else none,n:=σ.low+1+σ.heap.length}
  have ren:V7 σ.heap.length (outX σ.low l) (C.env φ σ.heap w) E2:=by
   refine ⟨fun k hk=> ?_,fun k hk=> ?_,fun b o u hm hc=>⟨fun h=>hm (h.imp (EE b o) id),hc⟩⟩
   ·simp only[outX,E2]
    split
    ·omega
    ·split<;>omega
   ·simp only[outX,E2,Ctx.env]
    split
    ·rename_i h1
     rw[if_pos (by omega),if_pos (by omega),hφ' k h1,hget0 k h1]
     exact ⟨rfl,.inl rfl⟩
    ·split
     ·rename_i h1 h2
      subst h2
      rw[if_pos (by omega),if_pos (by omega),hφl,hgetl,hl]
      exact ⟨rfl,.inl rfl⟩
     ·rw[if_neg (by omega),if_neg (by omega)]
      refine ⟨?_,.inr rfl⟩
      congr 1;omega
  have h1:=nO.ren ren x v (nO.nb _ _ hv) hv
  have le2:E2.Le (σ.low+1) (C.env φ' H' w):=by
   refine ⟨by simp only[Ctx.env];show σ.low+1≤H'.length;omega,fun k hk=> .inl ⟨?_,.inl ?_⟩,fun b o u hm hc=>⟨hm,hc⟩⟩
   ·show φ' k=if k<σ.low+1 then φ' k else _
    rw[if_pos hk]
   ·show lN H'[k]? =if k<σ.low+1 then lN H'[k]? else none
    rw[if_pos hk]
  exact nO.mono le2 _ v hr h1
end export_
theorem vV {F:Fence} {n:Nat} {P:Program} {f:FuncId} {args:Array Value} {u:FrameMode} {w:World} {R R':Ending→FrameMode→World→Prop} (h:CallsDIn F n P f args u w R) (hr: ∀e u' w',R e u' w'→R' e u' w'):CallsDIn F n P f args u w R':=by
 refine ⟨h.1,fun c cs hc hroom=> ?_⟩
 obtain ⟨e,u',w',fr,hR,wR⟩:=h.2 c cs hc hroom
 exact ⟨e,u',w',fr,hr _ _ _ hR,wR⟩
def TRet (P:Program) (f:FuncId):Value→World→Array Value→(Ending→World→Prop)→Prop:=fun _ w vs R=>
 CallsDIn fR 0 P f vs .returning w fun e u' w'=> ∃r,e= .returned r∧settle u'= .returning∧R (.returned r) w'
def TPan (P:Program) (f:FuncId):Value→World→Array Value→(Ending→World→Prop)→Prop:=fun _ w vs R=> ∀ (Y2:Array Value) (v:Value),vs=Y2.push v→
 CallsDIn fR 0 P f Y2 (.panicking [{v,recovered:=false}]) w fun e u' w'=> ∃r,e= .returned r∧
  ((settle u'= .returning∧R (.returned r) w')∨ ∃v',settle u'= .panicking [{v:=v',recovered:=false}]∧R (.panicked [{v:=v',recovered:=false}]) w')
theorem WY {P:Program} {f:FuncId}:Sg (TRet P f):=⟨fun _ _ _ _ _ hr h=>vV h fun _ _ _ ⟨r,h1,h2,h3⟩=>⟨r,h1,h2,hr _ _ h3⟩⟩
theorem WZ {P:Program} {f:FuncId}:Sg (TPan P f):=⟨fun _ _ _ _ _ hr h Y2 v hv=>vV (h Y2 v hv) fun _ _ _ ⟨r,h1,h2⟩=>⟨r,h1,h2.imp (fun ⟨h3,h4⟩=>⟨h3,hr _ _ h4⟩) fun ⟨v',h3,h4⟩=>⟨v',h3,hr _ _ h4⟩⟩⟩
def Wf (P:Program) (fin:Option AV→AState→Prop):List (FuncId×List AV)→Option AV→AState→Prop
 |[],m,σ=>fin m σ
 |(f,args)::ds,none,σ=>enters P f=true∧NF P (TRet P f) 0 args {σ with df:=ds} (fun o H'=>match o with
    | .ret _=>Wf P fin ds none {σ with heap:=H',df:=ds}
    | .panic _=>False)
 |(f,args)::ds,some x,σ=>enters P f=true∧NF P (TPan P f) 0 (args++[x]) {σ with df:=ds} (fun o H'=>match o with
    | .ret _=>Wf P fin ds none {σ with heap:=H',df:=ds}
    | .panic x'=>Wf P fin ds (some x') {σ with heap:=H',df:=ds})
section unw
variable {C:Ctx} {φ:Nat→Value} {σ:AState} {w:World} {tmps:Array Value} {ds:List Deferred}
theorem mA.unpush {x:AV} {v:Value} (S:mA C φ {σ with slots:=σ.slots++[x]} {tmps:=tmps.push v,defers:=ds} w) (hl:σ.slots.length=tmps.size):mA C φ σ {tmps,defers:=ds} w∧nO (C.env φ σ.heap w) x v:=by
 have h1:=S.slots.take σ.slots.length
 have h2:=S.slots.drop σ.slots.length
 have hlen:tmps.toList.length=σ.slots.length:=by simp [hl]
 simp only[gb] at h1 h2
 rw[fK rfl,fK hlen] at h1
 rw[fL rfl,fL hlen] at h2
 obtain ⟨u,us,he2,r1,_⟩:=h2
 simp only[fM] at he2
 obtain ⟨rfl,_⟩:=he2
 exact ⟨{S with slots:=h1,defers:=S.defers},r1⟩
theorem mA.repush {x:AV} {v:Value} (S:mA C φ σ {tmps,defers:=ds} w) (h:nO (C.env φ σ.heap w) x v):mA C φ {σ with slots:=σ.slots++[x]} {tmps:=tmps.push v,defers:=ds} w:=by
 refine {S with slots:= ?_,defers:=S.defers}
 have hv:k6 (C.env φ σ.heap w) [x] [v]:=⟨v,[],rfl,h,rfl⟩
 simp only[gb]
 exact S.slots.append hv
theorem mA.len (S:mA C φ σ {tmps,defers:=ds} w):σ.slots.length=tmps.size:=by
 have:=S.slots.length
 simpa using this.symm
theorem mA.lenP {x:AV} {v:Value} (S:mA C φ {σ with slots:=σ.slots++[x]} {tmps:=tmps.push v,defers:=ds} w):σ.slots.length=tmps.size:=by
 have:=S.slots.length
 simp at this
 exact this.symm
theorem mA.pop {d:Deferred} (S:mA C φ σ {tmps,defers:=d::ds} w) (hm:VX d=false):
 ∃f xs df' cap,σ.df=(f,xs)::df'∧d.target= .fn (.func f) cap∧k6 (C.env φ σ.heap w) xs (d.args++cap).toList∧mA C φ {σ with df:=df'} {tmps,defers:=ds} w:=by
 obtain ⟨h1,h2,h3⟩:=S.defers
 simp only[List.filter_cons,hm,gu,if_true,Bool.false_eq_true,if_false] at h1 h3
 cases hdf:σ.df with
 |nil=>rw[hdf] at h3;cases h3
 |cons p df'=>
  obtain ⟨f,xs⟩:=p
  rw[hdf] at h3
  obtain ⟨d',s,cap,he,ht,hr,wR⟩:=h3
  simp only[fM] at he
  obtain ⟨rfl,rfl⟩:=he
  exact ⟨f,xs,df',cap,rfl,ht,hr,{S with slots:=S.slots,defers:=⟨h1,fun d' hd'=>h2 d' (List.mem_cons_of_mem _ hd'),wR⟩}⟩
theorem Y3 {P:Program} {d:Deferred} {f:FuncId} {cap:Array Value} (ht:d.target= .fn (.func f) cap) (he:enters P f=true):(invoke d.target d.args).run P w= .ok (.enter f (d.args++cap)) w:=by
 unfold enters at he
 split at he
 ·rename_i fn hfn
  simp only[fH,bne_iff_ne,ne_eq] at he
  have hnone:fn.body≠none:=by intro hb;simp [hb] at he
  simp [ht,invoke,callFunc,hfn,he.2,hnone]
 ·cases he
theorem VB {fn:Func} {R:Ending→World→Prop} {fin:Option AV→AState→Prop}
 (hr: ∀φ σ w,mA C φ σ {tmps,defers:=[]} w→fin none σ→ ∃v,(results fn tmps).run C.P w= .ok v w∧R (.returned v) w)
 (hp: ∀φ σ x v w,mA C φ σ {tmps,defers:=[]} w→nO (C.env φ σ.heap w) x v→fin (some x) σ→R (.panicked [{v,recovered:=false}]) w):
 ∀ (ds:List Deferred),
   (∀φ σ w,mA C φ σ {tmps,defers:=ds} w→Wf C.P fin σ.df none σ→LeavesInM fR 0 C.P fn tmps R ds .returning w)∧
   (∀φ σ x v w,mA C φ {σ with slots:=σ.slots++[x]} {tmps:=tmps.push v,defers:=ds} w→Wf C.P fin σ.df (some x) σ→LeavesInM fR 0 C.P fn tmps R ds (.panicking [{v,recovered:=false}]) w)
 |[]=>by
  refine ⟨fun φ σ w S h=> ?_,fun φ σ x v w S h=> ?_⟩
  ·have hd:σ.df=[]:=by
    have:=S.defers.2.2
    cases hdf:σ.df with
    |nil=>rfl
    |cons p r=>rw[hdf] at this;obtain ⟨_,_,_,h,_⟩:=this;cases h
   rw[hd] at h
   exact hr φ σ w S h
  ·obtain ⟨S',hx⟩:=S.unpush S.lenP
   have hd:σ.df=[]:=by
    have:=S'.defers.2.2
    cases hdf:σ.df with
    |nil=>rfl
    |cons p r=>rw[hdf] at this;obtain ⟨_,_,_,h,_⟩:=this;cases h
   rw[hd] at h
   exact hp φ σ x v w S' hx h
 |d::ds=>by
  obtain ⟨ihr,ihp⟩:=VB hr hp ds
  refine ⟨fun φ σ w S h=> ?_,fun φ σ x v w S h=> ?_⟩
  ·cases hm:VX d with
   |true=>
    obtain ⟨D,hD,_⟩:=S.defers.2.1 d (List.mem_cons_self) hm
    subst hD
    obtain ⟨h1,S'⟩:=S.Wb
    exact ⟨by simp,.inl ⟨D,_,rfl,run_takeDeferred h1,ihr φ σ _ S' h⟩⟩
   |false=>
    obtain ⟨f,xs,df',cap,hdf,ht,hxs,S'⟩:=S.pop hm
    rw[hdf] at h
    obtain ⟨he,hc⟩:=h
    refine ⟨by simp,.inr ⟨fun h=>by simp [fR] at h,_,cap,f,d.args++cap,ht,Y3 ht he,fun _ _=>trivial,?_⟩⟩
    refine vV (hc C φ _ w rfl S' _ hxs) ?_
    rintro e u' w' ⟨r,rfl,hs,o,φ',H',hK,S2,rR⟩
    cases o with
    |ret r'=>
     simp only
     rw[hs]
     exact ihr φ' _ w' S2 hK
    |panic _=>exact hK.elim
  ·cases hm:VX d with
   |true=>
    obtain ⟨D,hD,_⟩:=S.defers.2.1 d (List.mem_cons_self) hm
    subst hD
    obtain ⟨h1,S'⟩:=S.Wb
    exact ⟨by simp,.inl ⟨D,_,rfl,run_takeDeferred h1,ihp φ σ x v _ S' h⟩⟩
   |false=>
    obtain ⟨S1,hx⟩:=S.unpush S.lenP
    obtain ⟨f,xs,df',cap,hdf,ht,hxs,S'⟩:=S1.pop hm
    rw[hdf] at h
    obtain ⟨he,hc⟩:=h
    refine ⟨by simp,.inr ⟨fun h=>by simp [fR] at h,_,cap,f,d.args++cap,ht,Y3 ht he,fun _ _=>trivial,?_⟩⟩
    have hargs:k6 (C.env φ σ.heap w) (xs++[x]) ((d.args++cap).push v).toList:=by
     have hv:k6 (C.env φ σ.heap w) [x] [v]:=⟨v,[],rfl,hx,rfl⟩
     rw[gb]
     exact hxs.append hv
    refine vV (hc C φ _ w rfl S' _ hargs _ v rfl) ?_
    rintro e u' w' ⟨r,rfl,⟨hs,o,φ',H',hK,S2,rR⟩|⟨v',hs,o,φ',H',hK,S2,rR⟩⟩
    ·cases o with
     |ret r'=>
      simp only
      rw[hs]
      exact ihr φ' _ w' S2 hK
     |panic _=>exact rR.elim
    ·cases o with
     |ret r'=>exact rR.elim
     |panic x'=>
      simp only
      rw[hs]
      obtain ⟨v2,hv2,hr2⟩:=rR
      simp only[fM,PanicEntry.mk.injEq,and_true] at hv2
      subst hv2
      exact ihp φ' _ x' _ w' (S2.repush hr2) hK
end unw
def W0 (P:Program) (rs:List ResultVar) (V:ud→List AObj→Prop):Option AV→AState→Prop
 |none,σ=> ∃x,Lx P σ rs=some x∧ ∃r H',N9 σ x r H'∧V (.ret r) H'
 |some x,σ=> ∃r H',N9 σ x r H'∧V (.panic r) H'
def gPost (P:Program) (rs:List ResultVar) (V:ud→List AObj→Prop):mX→AState→Prop
 | .normal,σ=>Wf P (W0 P rs V) σ.df none σ
 | .ret,σ=>Wf P (W0 P rs V) σ.df none σ
 | .panic x,σ=>Wf P (W0 P rs V) σ.df (some x) σ
 |_,_=>False
theorem fnG_of_body {P:Program} {f:FuncId} {fn:Func} {c:Code} {args:List AV} {H:List AObj} {V:ud→List AObj→Prop} (hf:P.funcs[f]? =some fn) (hb:fn.body=some c) (hne:(fn.name != "runtime.NumGoroutine")=true) (hnb:nbL H.length args)
 (Fc: ∀x∈H,objNb H.length x) {n:Nat} (hn:fn.ntmps=n) {rs:List ResultVar} (Oa:fn.results=rs.toArray)
 (h:XQ P c (gPost P rs V) {slots:=args++fA (n-args.length) .any,heap:=H,low:=H.length}):ZW P f args H V:=by
 refine ⟨?_,hnb,Fc,fun C φ w hP h0 hN0 hφ0 hM HS vs hr=> ?_⟩
 ·unfold enters;rw[hf];simp only[hb,ga,gx];exact hne
 ·subst hP
  refine (callsIn_wide (n:=0)).1 (callsIn_of_wp_marks hf hb trivial ?_)
  have hsz:vs.size=args.length:=by have:=hr.length;simpa using this
  have S:mA C φ {slots:=args++fA (n-args.length) .any,heap:=H,low:=H.length} {tmps:=vs++Array.replicate (fn.ntmps-vs.size) undef,defers:=[]} w:=by
   refine {HS with slots:= ?_,defers:=rB.nil}
   simp only[fO,gq]
   refine hr.append ?_
   rw[hsz,hn]
   have:=k6.C1 (E:=C.env φ H w) (fA (n-args.length) undef)
   simpa using this
  refine wpIn_mono (wT (ro:=none) c _ φ _ _ w (.inl rfl) h S) ?_
  intro e a' w' hq
  have EF: ∀ {φ':Nat→Value} {σ':AState} {a'':Act} {w'':World},mA C φ' σ' a'' w''→σ'.low=H.length:=fun S'=>by rw[←S'.low.1];exact hN0
  have fin:=VB (C:=C) (tmps:=a'.tmps) (fn:=fn) (R:=fun e w'=> ∃o φ' H',V o H'∧mA C φ' {slots:=[],heap:=H',low:=H.length} {tmps:= #[],defers:=[]} w'∧o.rep (C.env φ' H' w') e) (fin:=W0 C.P rs V)
   (by
     rintro φ' σ' w' S' ⟨x,hx,r,H',hex,hV⟩
     obtain ⟨v,hv,rv⟩:=J9 (fn:=fn) S' (by rw[Oa];exact hx)
     obtain ⟨φ2,S2,hr2⟩:=hex C φ' _ w' S' v rv
     rw[EF S'] at S2
     exact ⟨v,hv,.ret r,φ2,H',hV,S2,hr2⟩)
   (by
     rintro φ' σ' x v w' S' hx ⟨r,H',hex,hV⟩
     obtain ⟨φ2,S2,hr2⟩:=hex C φ' _ w' S' v hx
     rw[EF S'] at S2
     exact ⟨.panic r,φ2,H',hV,S2,v,rfl,hr2⟩) a'.defers
  cases e with
  |normal=>obtain ⟨φ',σ',S',hq⟩:=hq;exact fin.1 φ' σ' w' S' hq
  |ret=>obtain ⟨φ',σ',S',hq⟩:=hq;exact fin.1 φ' σ' w' S' hq
  |exit id=>obtain ⟨_,_,_,hq⟩:=hq;exact hq.elim
  |goto l=>obtain ⟨_,_,_,hq⟩:=hq;exact hq.elim
  |panic chain=>
   obtain ⟨φ',σ',x,v,S',hq,hch,rR⟩:=hq
   subst hch
   exact fin.2 φ' σ' x v w' (mA.repush (tmps:=a'.tmps) (ds:=a'.defers) S' rR) hq
  |outgrown=>exact hq.elim
def cEnd (P:Program) (rs:List ResultVar) (V:AV→Prop):Option AV→AState→Prop
 |none,σ=>endV V σ.heap (Lx P σ rs)
 |some _,_=>False
def retPostU (P:Program) (rs:List ResultVar) (V:AV→Prop):mX→AState→Prop
 | .normal,σ=>Wf P (cEnd P rs V) σ.df none σ
 | .ret,σ=>Wf P (cEnd P rs V) σ.df none σ
 | .panic x,σ=>Wf P (cEnd P rs V) σ.df (some x) σ
 |_,_=>False
theorem fnC_of_bodyU {P:Program} {f:FuncId} {fn:Func} {c:Code} {args:List AV} {V:AV→Prop} (hf:P.funcs[f]? =some fn) (hb:fn.body=some c) (hne:(fn.name != "runtime.NumGoroutine")=true) (hnb:nbL 0 args)
 (h:XQ P c (retPostU P fn.results.toList V) {slots:=args++fA (fn.ntmps-args.length) .any,heap:=[]}):yP P f args V:=by
 refine ⟨?_,hnb,fun C φ w hP h0 hN hM vs hr=> ?_⟩
 ·unfold enters;rw[hf];simp only[hb,ga,gx];exact hne
 ·subst hP
  refine (callsIn_wide (n:=0)).1 (callsIn_of_wp_marks hf hb trivial ?_)
  have hsz:vs.size=args.length:=by have:=hr.length;simpa using this
  have S:mA C φ {slots:=args++fA (fn.ntmps-args.length) .any,heap:=[]} {tmps:=vs++Array.replicate (fn.ntmps-vs.size) undef,defers:=[]} w:=by
   refine {slots:= ?_,defers:=rB.nil,objs:=by simp,apart:=by simp,s6:=by simp,size:=by rw[h0];exact fB _,old:=fun b o _ _=>by rw[h0],ni:=fun b _ _=>by rw[h0],C5:=by simp,vT:=fun x _=>by rw[h0],rest:=by rw[h0];exact ⟨rfl,rfl⟩,low:=⟨hN,fB _⟩,names:=fun l hl=>by rw[hN] at hl;exact absurd hl (fV _)}
   simp only[fO,gq]
   refine hr.append ?_
   rw[hsz]
   have:=k6.C1 (E:=C.env φ [] w) (fA (fn.ntmps-args.length) undef)
   simpa using this
  refine wpIn_mono (wT (ro:=none) c _ φ _ _ w (.inl rfl) h S) ?_
  intro e a' w' hq
  have fin:=VB (C:=C) (tmps:=a'.tmps) (fn:=fn) (R:=fun e w'=> ∃r v φ',V r∧e= .returned v∧nO (C.env φ' [] w') r v∧w.heap.size≤w'.heap.size∧(∀b,b<w.heap.size→w'.heap[b]? =w.heap[b]?)∧
        (∀x,x.block<w.heap.size→w'.frozen? x=w.frozen? x)∧w'.output=w.output∧w'.os=w.os) (fin:=cEnd C.P fn.results.toList V)
   (by
     intro φ' σ' w' S' hend
     simp only[cEnd] at hend
     cases hx:Lx C.P σ' fn.results.toList with
     |none=>rw[hx] at hend;exact hend.elim
     |some x=>
     rw[hx] at hend
     obtain ⟨hn,r0,hsub,hV⟩:=hend
     obtain ⟨v,hv,rv⟩:=J9 S' hx
     refine ⟨v,hv,_,v,φ',hV,rfl,hsub _ _ (by have:=WS S' (S'.drops (by rw[←S'.low.1];exact hN)) x v;rw[←S'.low.1,hN] at this;exact this hn rv),?_,?_,?_,?_⟩
     ·rw[←h0];exact S'.size
     ·intro b hb;rw[←h0];exact S'.ni b (by rw[h0];exact hb) (fun o=>hM b o)
     ·intro y hy;rw[←h0];exact S'.vT y (by rw[h0];exact hy)
     ·rw[←h0];exact S'.rest)
   (by
     intro φ' σ' x v w' S' hx hend
     exact hend.elim) a'.defers
  cases e with
  |normal=>obtain ⟨φ',σ',S',hq⟩:=hq;exact fin.1 φ' σ' w' S' hq
  |ret=>obtain ⟨φ',σ',S',hq⟩:=hq;exact fin.1 φ' σ' w' S' hq
  |exit id=>obtain ⟨_,_,_,hq⟩:=hq;exact hq.elim
  |goto l=>obtain ⟨_,_,_,hq⟩:=hq;exact hq.elim
  |panic chain=>
   obtain ⟨φ',σ',x,v,S',hq,hch,rR⟩:=hq
   subst hch
   exact fin.2 φ' σ' x v w' (mA.repush (tmps:=a'.tmps) (ds:=a'.defers) S' rR) hq
  |outgrown=>exact hq.elim
attribute [go_sem] AV.ren renL CU AObj.ren ud.ren mO tw qb outX gPost
end Go.Abs
namespace Go.Abs
def Pb:List AV→List Tmp→List AV→List AV
 |s,p::ps,x::xs=>Pb (s.set p x) ps xs
 |s,_,_=>s
theorem setPs_rep {E:Env}: ∀ {ps:List Tmp} {xs:List AV} {vs:List Value} {s:List AV} {t:Array Value},k6 E xs vs→k6 E s t.toList→
 k6 E (Pb s ps xs) ((ps.zip vs).foldl (fun t (p:Tmp×Value)=>t.setIfInBounds p.1 p.2) t).toList
 |[],_,_,_,_,_,h=>by simpa [Pb] using h
 |_::_,[],_,_,_,rfl,h=>by simpa [Pb] using h
 |p::ps,x::xs,_,s,t,⟨u,us,rfl,r1,r2⟩,h=>by
  simp only[Pb,List.zip_cons_cons,List.foldl_cons]
  refine setPs_rep r2 ?_
  have:=h.set (i:=p) r1
  simpa [Array.toList_setIfInBounds] using this
def Y4:mX→Option (Option Code)
 | .normal=>some none
 | .ret=>some (some .ret)
 | .exit id=>some (some (.exit id))
 |_=>none
def rPost (V:ud→List AObj→Prop) (e:mX) (σ:AState):Prop:=
 ∃j k s,Y4 e=some (oP k.js j)∧σ.heap[0]? =some (.loop k s .busy 0)∧ ∃r H',N9 {σ with heap:=σ.heap.set 0 (.loop k s (stP (oP k.js j)) j)} (.bool (oP k.js j).isNone) r H'∧V (.ret r) H'
theorem fnT_of_round {P:Program} {k:wQ} {slots args:List AV} {H:List AObj} {V:ud→List AObj→Prop} (hH:H[0]? =some (.loop k slots .ready 0))
 (hnb:nbL H.length args) (Fc: ∀x∈H,objNb H.length x) (hn:wS k.assign=true∧wS k.body=true)
 (h:XQ P k.assign (mX.then (fun σ1=> ∃k1 s1,σ1.heap[0]? =some (.loop k1 s1 .ready 0)∧XQ P k.body (rPost V) {σ1 with heap:=σ1.heap.set 0 (.loop k1 s1 .busy 0)}) (fun _ _=>False))
   {slots:=Pb slots k.ps.toList args,heap:=H,low:=H.length}):Y0 P (R8 P) args H V:=by
 refine ⟨hnb,Fc,fun C φ w hP h0 hN hφ0 hM HS vs hr D rec hφ hw=> ?_⟩
 subst hP
 have hpos:0<H.length:=(fo.1 hH).1
 have hstay: ∀ {φ':Nat→Value} {σ':AState} {a':Act} {w':World},mA C φ' σ' a' w'→φ' 0= .func (.yield (D+1)) #[] #[]:=by
  intro φ' σ' a' w' S'
  rcases S'.names 0 (by omega) with ⟨h1,_⟩|⟨⟨n,h1,_⟩,_⟩
  ·rw[h1,(hφ0 0 hpos).1];exact hφ
  ·rw[(hφ0 0 hpos).2,hH] at h1;cases h1
 have EF: ∀ {φ':Nat→Value} {σ':AState} {a':Act} {w':World},mA C φ' σ' a' w'→σ'.low=H.length:=fun S'=>by rw[←S'.low.1];exact hN
 have Hp: ∀ {φ':Nat→Value} {σ':AState} {a':Act} {w':World} {k:wQ} {s:List AV} {st:LoopState} {c:Int},mA C φ' σ' a' w'→σ'.heap[0]? =some (.loop k s st c)→
  ∃Sf,w'.heap[D+1]? =some (.loop Sf)∧(Sf.params=k.ps∧Sf.assign=k.assign∧Sf.body=k.body∧Sf.state=st∧Sf.pending=oP k.js c∧Sf.defers=D)∧k6 (C.env φ' σ'.heap w') s Sf.tmps.toList:=by
  intro φ' σ' a' w' k s st c S' h0
  obtain ⟨D',Sf,e1,g1,g2,g3,rl⟩:=S'.objs 0 _ h0
  rw[hstay S'] at e1
  simp only[Value.func.injEq,Fn.yield.injEq,Nat.add_right_cancel_iff,and_true] at e1
  subst e1
  exact ⟨Sf,g1,g3,rl⟩
 obtain ⟨rec0,g1,g3,rl⟩:=Hp HS hH
 rw[hw] at g1;cases g1
 rw[g3.1,g3.2.1,g3.2.2.1]
 refine roundIn_of_wpIn (F:=fR) trivial ?_
 have S:mA C φ {slots:=Pb slots k.ps.toList args,heap:=H,low:=H.length} {tmps:=(k.ps.zip vs).foldl (fun tmps (t,a)=>tmps.setIfInBounds t a) rec.tmps,defers:=[]} w:=by
  refine {HS with slots:= ?_,defers:=rB.nil}
  have:=setPs_rep (ps:=k.ps.toList) hr rl
  simpa only[←Array.foldl_toList,Array.toList_zip] using this
 refine wpIn_mono (wT (ro:=some (D+1)) k.assign _ φ _ _ w (.inr hn.1) h S) ?_
 intro e a1 w1 hq
 cases e with
 |exit id=>obtain ⟨_,_,_,hq⟩:=hq;exact hq.elim
 |goto l=>obtain ⟨_,_,_,hq⟩:=hq;exact hq.elim
 |ret=>obtain ⟨_,_,_,hq⟩:=hq;exact hq.elim
 |panic ch=>obtain ⟨_,_,_,_,_,hq,_⟩:=hq;exact hq.elim
 |outgrown=>exact hq.elim
 |normal=>
  obtain ⟨φ1,σ1,S1,k1,s1,hH1,hbody⟩:=hq
  obtain ⟨rec1,kk,k3,_⟩:=Hp S1 hH1
  refine ⟨_,run_beginRound kk k3.2.2.2.1,?_⟩
  have S2:=S1.setLoop (st':= .busy) (Ka:=0) hH1 (hstay S1) kk
  have e2:({rec1 with state:= .busy,pending:=oP k1.js 0}:Loop)={rec1 with state:= .busy}:=by
   rw[←k3.2.2.2.2.1]
  rw[e2] at S2
  refine wpIn_mono (wT (ro:=some (D+1)) k.body _ _ _ _ _ (.inr hn.2) hbody S2) ?_
  have fin: ∀ (e:mX) (c:Option Code) (φ2:Nat→Value) (σ2:AState) (a2:Act) (w3:World),Y4 e=some c→mA C φ2 σ2 a2 w3→rPost V e σ2→
   ∃v w',(Instr.endRound (D+1) c).run C.P w3= .ok v w'∧ ∃o φ' H',V o H'∧mA C φ' {slots:=[],heap:=H',low:=H.length} {tmps:= #[],defers:=[]} w'∧o.rep (C.env φ' H' w') (.returned v):=by
   rintro e c φ2 σ2 a2 w3 hj S3 ⟨j,k2,s2,hj',hH2,r,H',hex,hV⟩
   rw[hj] at hj'
   obtain rfl:c=oP k2.js j:=gC hj'
   obtain ⟨rec2,m1,m3,_⟩:=Hp S3 hH2
   have S4:=S3.setLoop (st':=stP (oP k2.js j)) (Ka:=j) hH2 (hstay S3) m1
   have hend:=run_endRound (P:=C.P) (oP k2.js j) m1
   have est:(if (oP k2.js j).isNone then LoopState.ready else .done)=stP (oP k2.js j):=by cases oP k2.js j<;>rfl
   rw[est] at hend
   obtain ⟨φ5,S5,hr5⟩:=hex C φ2 a2 _ S4 (.bool (oP k2.js j).isNone) rfl
   rw[show σ2.low=H.length from EF S3] at S5
   exact ⟨_,_,hend,.ret r,φ5,H',hV,S5,hr5⟩
  intro e a2 w3 hq
  cases e with
  |normal=>obtain ⟨φ2,σ2,S3,hq⟩:=hq;exact fin .normal none φ2 σ2 a2 w3 rfl S3 hq
  |ret=>obtain ⟨φ2,σ2,S3,hq⟩:=hq;exact fin .ret _ φ2 σ2 a2 w3 rfl S3 hq
  |exit id=>obtain ⟨φ2,σ2,S3,hq⟩:=hq;exact fin (.exit id) _ φ2 σ2 a2 w3 rfl S3 hq
  |goto l=>obtain ⟨_,_,_,_,_,_,hq,_⟩:=hq;cases hq
  |panic ch=>obtain ⟨_,_,_,_,_,⟨_,_,_,hq,_⟩,_⟩:=hq;cases hq
  |outgrown=>exact hq.elim
end Go.Abs
namespace Go.Abs
def child:Nat→Code→Code
 |0,.seq x _=>x
 |1,.seq _ y=>y
 |0,.cond _ x _=>x
 |1,.cond _ _ y=>y
 |0,.block _ x=>x
 |0,.loop x=>x
 |0,.scope x=>x
 |_,_=> .skip
def sub:List Nat→Code→Code
 |[],c=>c
 |d::p,c=>child d (sub p c)
inductive Kt where
 |at (p:List Nat)
 |cut (p:List Nat)
 |ops (ops:Array Oper) (rest:List Oper)
 |Mn (p:List Nat) (rest:List Oper) (j:Nat) (tr:List Tr)
 |blk (id:Nat)
 |lp (m:Nat) (p:List Nat)
 |lq (m:Nat) (p:List Nat)
 |rb
 |rd
def beginO (σ:AState):Option AObj→Option AState
 |some (.loop k s .ready 0)=>some {σ with heap:=σ.heap.set 0 (.loop k s .busy 0)}
 |_=>none
def W1 (σ:AState):Option AState:=beginO σ σ.heap[0]?
section
variable {R:Type}
def regOps:Code→Array Oper
 | .region _ ops _=>ops
 |_=> #[]
def pP (M:lF R) (p:List Nat):Array Oper:=regOps (sub p M.body)
noncomputable def yY (M:lF R):Kt→AState→Option (mX×AState)
 | .at p,σ=>exec M (sub p M.body) p σ
 | .cut p,σ=>(M.cut p σ).map fun σ'=>(.normal,σ')
 | .ops ops rest,σ=>tT M ops rest σ
 | .Mn p rest j tr,σ=>Hs M (pP M p) rest j tr σ
 | .blk _,σ=>some (.normal,σ)
 | .lp m p,σ=>(M.wU p σ).bind (lqN (M.wU p) (exec M (sub (0::p) M.body) (0::p)) m)
 | .lq m p,σ=>lqN (M.wU p) (exec M (sub (0::p) M.body) (0::p)) m σ
 | .rb,σ=>(W1 σ).map fun σ'=>(.normal,σ')
 | .rd,_=>none
noncomputable def fin (M:lF R):List Kt→mX→AState→Option R
 |[],.normal,σ=>M.out σ
 |[],.ret,σ=>M.out σ
 |[],.panic x,σ=>M.pJ x σ
 |[],_,_=>none
 | .rd::_,e,σ=>M.qT e σ
 | .blk id::k,.exit id',σ=>if id'=id then fin M k .normal σ else fin M k (.exit id') σ
 |x::k,.normal,σ=>match yY M x σ with
  |some (e,σ')=>fin M k e σ'
  |none=>none
 |_::k,e,σ=>fin M k e σ
noncomputable def run (M:lF R) (k:List Kt) (σ:AState):Option R:=fin M k .normal σ
variable {M:lF R} {k:List Kt} {σ:AState}
theorem run_nil:run M [] σ=M.out σ:=rfl
theorem run_blk {id:Nat}:run M (.blk id::k) σ=run M k σ:=rfl
theorem oF {x:Kt} (h: ∀id,x≠ .blk id) (h2:x≠ .rd:=by simp):fin M (x::k) .normal σ=match yY M x σ with
 |some (e,σ')=>fin M k e σ'
 |none=>none:=by
 cases x<;>first|rfl|exact absurd rfl (h _)|exact absurd rfl h2
theorem run_ops_nil {ops:Array Oper}:run M (.ops ops []::k) σ=run M k σ:=rfl
theorem run_dops_nil {p:List Nat} {j:Nat} {tr:List Tr}:run M (.Mn p [] j tr::k) σ=run M k σ:=rfl
def behind (id:Nat):List Kt→Option (List Kt)
 |[]=>none
 | .blk id'::k=>if id=id' then some k else behind id k
 | .rd::_=>none
 |_::k=>behind id k
def isRd:Kt→Bool
 | .rd=>true
 |_=>false
def rdIn:List Kt→Bool
 |[]=>false
 |x::k=>isRd x||rdIn k
theorem FK {id:Nat}: ∀ {k k':List Kt},behind id k=some k'→fin M k (.exit id) σ=run M k' σ
 |[],_,h=>by simp [behind] at h
 | .blk id'::k,k',h=>by
   simp only[behind] at h
   split at h
   ·rename_i e
    cases h
    subst e
    simp only[fin,if_true];rfl
   ·rename_i e
    simp only[fin,e,if_false]
    exact FK h
 | .at _::k,k',h=>FK (k:=k) (by simpa [behind] using h)
 | .cut _::k,k',h=>FK (k:=k) (by simpa [behind] using h)
 | .ops _ _::k,k',h=>FK (k:=k) (by simpa [behind] using h)
 | .Mn _ _ _ _::k,k',h=>FK (k:=k) (by simpa [behind] using h)
 | .lp _ _::k,k',h=>FK (k:=k) (by simpa [behind] using h)
 | .lq _ _::k,k',h=>FK (k:=k) (by simpa [behind] using h)
 | .rb::k,k',h=>FK (k:=k) (by simpa [behind] using h)
 | .rd::k,k',h=>by simp [behind] at h
theorem FL {id:Nat}: ∀ {k:List Kt},behind id k=none→fin M k (.exit id) σ=bif rdIn k then M.qT (.exit id) σ else none
 |[],_=>rfl
 | .blk id'::k,h=>by
   simp only[behind] at h
   split at h
   ·cases h
   ·rename_i e
    simp only[fin,e,if_false]
    exact FL h
 | .rb::k,h=>FL (k:=k) (by simpa [behind] using h)
 | .rd::k,h=>rfl
 | .at _::k,h=>FL (k:=k) (by simpa [behind] using h)
 | .cut _::k,h=>FL (k:=k) (by simpa [behind] using h)
 | .ops _ _::k,h=>FL (k:=k) (by simpa [behind] using h)
 | .Mn _ _ _ _::k,h=>FL (k:=k) (by simpa [behind] using h)
 | .lp _ _::k,h=>FL (k:=k) (by simpa [behind] using h)
 | .lq _ _::k,h=>FL (k:=k) (by simpa [behind] using h)
theorem JY: ∀ {k:List Kt},fin M k .ret σ=bif rdIn k then M.qT .ret σ else M.out σ
 |[]=>rfl
 | .rb::k=>JY (k:=k)
 | .rd::k=>rfl
 | .blk _::k=>JY (k:=k)
 | .at _::k=>JY (k:=k)
 | .cut _::k=>JY (k:=k)
 | .ops _ _::k=>JY (k:=k)
 | .Mn _ _ _ _::k=>JY (k:=k)
 | .lp _ _::k=>JY (k:=k)
 | .lq _ _::k=>JY (k:=k)
noncomputable def panK (M:lF R) (x:AV) (σ:AState) (k:List Kt):Option R:=bif rdIn k then M.qT (.panic x) σ else M.pJ x σ
theorem Bm {x:AV}: ∀ {k:List Kt},fin M k (.panic x) σ=panK M x σ k
 |[]=>rfl
 | .rb::k=>Bm (k:=k)
 | .rd::k=>rfl
 | .blk _::k=>Bm (k:=k)
 | .at _::k=>Bm (k:=k)
 | .cut _::k=>Bm (k:=k)
 | .ops _ _::k=>Bm (k:=k)
 | .Mn _ _ _ _::k=>Bm (k:=k)
 | .lp _ _::k=>Bm (k:=k)
 | .lq _ _::k=>Bm (k:=k)
noncomputable def exitK (M:lF R) (σ:AState) (id:Nat) (k:List Kt):Option (List Kt)→Option R
 |some k=>run M k σ
 |none=>bif rdIn k then M.qT (.exit id) σ else none
theorem exitK_some {id:Nat} {k k':List Kt}:exitK M σ id k (some k')=run M k' σ:=rfl
theorem exitK_none {id:Nat} {k:List Kt}:exitK M σ id k none=bif rdIn k then M.qT (.exit id) σ else none:=rfl
noncomputable def retK (M:lF R) (σ:AState) (k:List Kt):Option R:=bif rdIn k then M.qT .ret σ else M.out σ
noncomputable def Sh (M:lF R) (k:List Kt) (σ:AState):Option Code→Option R
 |none=>run M k σ
 |some .ret=>retK M σ k
 |some (.exit id)=>exitK M σ id k (behind id k)
 |_=>none
noncomputable def W2 (M:lF R) (k:List Kt) (σ:AState) (H':List AObj):Option AObj→Option R
 |some (.loop lk _ st sk)=>pcond (st=stP (oP lk.js sk)) (Sh M k {σ with heap:=H'.set σ.heap.length .dead} (oP lk.js sk))
 |_=>none
noncomputable def Ob (M:lF R) (k:List Kt) (σ:AState):Option (AV×List AObj)→Option R
 |some (_,H')=>W2 M k σ H' H'[σ.heap.length]?
 |none=>none
noncomputable def stepR (M:lF R) (lk:wQ) (k:List Kt) (σ:AState):AV→Option R
 | .func (.func f) first cap=>Ob M k σ (M.cl f (first++[.map σ.heap.length]++cap) (σ.heap++[.loop lk σ.slots .ready 0]))
 |_=>none
theorem stepJ_none:Sh M k σ none=run M k σ:=rfl
theorem stepJ_ret:Sh M k σ (some .ret)=retK M σ k:=rfl
theorem stepJ_exit {id:Nat}:Sh M k σ (some (.exit id))=exitK M σ id k (behind id k):=rfl
theorem stepJ_cond {b:Bool} {x y:Option Code}:Sh M k σ (bif b then x else y)=bif b then Sh M k σ x else Sh M k σ y:=by cases b<;>rfl
theorem Xy {H':List AObj} {lk:wQ} {s:List AV} {st:LoopState} {sk:Int}:W2 M k σ H' (some (.loop lk s st sk))=pcond (st=stP (oP lk.js sk)) (Sh M k {σ with heap:=H'.set σ.heap.length .dead} (oP lk.js sk)):=rfl
theorem stepR1_some {r:AV} {H':List AObj}:Ob M k σ (some (r,H'))=W2 M k σ H' H'[σ.heap.length]? :=rfl
theorem stepR1_none:Ob M k σ none=none:=rfl
theorem stepR1_bind {α:Type} {o:Option α} {f:α→Option (AV×List AObj)}:Ob M k σ (o.bind f)=o.bind fun x=>Ob M k σ (f x):=by cases o<;>rfl
theorem stepR1_cond {b:Bool} {x y:Option (AV×List AObj)}:Ob M k σ (bif b then x else y)=bif b then Ob M k σ x else Ob M k σ y:=by cases b<;>rfl
theorem stepR_func {lk:wQ} {f:FuncId} {first cap:List AV}:stepR M lk k σ (.func (.func f) first cap)=Ob M k σ (M.cl f (first++[.map σ.heap.length]++cap) (σ.heap++[.loop lk σ.slots .ready 0])):=rfl
noncomputable def W3 (M:lF R) (c:Operand) (p:List Nat) (k:List Kt) (σ:AState):AV→Option R
 | .bool b=>bif b then run M (.at (0::p)::k) (YW c true σ) else run M (.at (1::p)::k) (YW c false σ)
 |_=>none
theorem stepIf_true {c:Operand} {p:List Nat}:W3 M c p k σ (.bool true)=run M (.at (0::p)::k) (YW c true σ):=rfl
theorem stepIf_false {c:Operand} {p:List Nat}:W3 M c p k σ (.bool false)=run M (.at (1::p)::k) (YW c false σ):=rfl
theorem stepIf_sym {c:Operand} {p:List Nat} {b:Bool}:W3 M c p k σ (.bool b)=bif b then run M (.at (0::p)::k) (YW c true σ) else run M (.at (1::p)::k) (YW c false σ):=rfl
def nP (M:lF R) (p:List Nat):Bool:=
 match sub p M.body with
 | .region _ ops _=>Gl ops
 |_=>false
def lkAt (js:List (Int×Code)):Code→wQ
 | .rangeFunc _ ps as body=>⟨ps,as,body,js⟩
 |_=>⟨#[],.skip,.skip,[]⟩
def lkM (M:lF R) (p:List Nat):wQ:=lkAt (M.js p) (sub p M.body)
noncomputable def DY (M:lF R) (p:List Nat) (k:List Kt) (σ:AState):Code→Option R
 | .skip=>run M k σ
 | .region _ ops false=>run M (.ops ops ops.toList::k) σ
 | .region _ ops true=>pcond (M.P.follows .mixedOrders=true∧nP M p=true) (run M (.Mn p ops.toList 0 []::k) σ)
 | .seq _ _=>run M (.at (0::p):: .cut (1::p):: .at (1::p)::k) σ
 | .cond c _ _=>W3 M c p k σ (σ.ev c)
 | .block id _=>run M (.at (0::p):: .blk id::k) σ
 | .loop _=>run M (.lp M.n p::k) σ
 | .exit id=>exitK M σ id k (behind id k)
 | .scope _=>run M (.at (0::p)::k) σ
 | .label _=>run M k σ
 | .ret=>retK M σ k
 | .rangeFunc g _ _ _=>stepR M (lkM M p) k σ (σ.ev g)
 |_=>none
theorem fin_block {id:Nat} {e:mX}:fin M (.blk id::k) e σ=match (match e with
 | .exit id'=>if id'=id then (mX.normal,σ) else (.exit id',σ)
 |e=>(e,σ)) with
 |(e,σ)=>fin M k e σ:=by
 cases e with
 |exit id'=>
  simp only[fin]
  split<;>rfl
 |_=>rfl
theorem Y5 {x:Kt} {e:mX} (h: ∀id,x≠ .blk id) (he:e≠ .normal) (h2:x≠ .rd:=by simp):fin M (x::k) e σ=fin M k e σ:=by
 cases x<;>cases e<;>first|rfl|exact absurd rfl (h _)|exact absurd rfl he|exact absurd rfl h2
theorem run_at {p:List Nat}:run M (.at p::k) σ=DY M p k σ (sub p M.body):=by
 show fin M (.at p::k) .normal σ=_
 rw[oF (by simp)]
 simp only[yY]
 cases hc:sub p M.body with
 |skip=>rfl
 |region id ops b=>
  cases b with
  |false=>
   simp only[exec,DY]
   show _=fin M (.ops ops ops.toList::k) .normal σ
   rw[oF (by simp)]
   simp only[yY]
  |true=>
   simp only[exec,DY]
   show _=pcond _ (fin M (.Mn p ops.toList 0 []::k) .normal σ)
   rw[oF (by simp)]
   simp only[yY]
   have hd:nP M p=Gl ops:=by simp only[nP,hc]
   have ho:pP M p=ops:=by simp only[pP,hc,regOps]
   rw[hd,ho]
   by_cases hp:M.P.follows .mixedOrders=true∧Gl ops=true
   ·simp only[pcond,if_pos hp]
   ·simp only[pcond,if_neg hp]
 |seq x y=>
  simp only[exec,DY]
  show _=fin M (.at (0::p):: .cut (1::p):: .at (1::p)::k) .normal σ
  rw[oF (by simp)]
  have h0:sub (0::p) M.body=x:=by simp [sub,hc,child]
  have h1:sub (1::p) M.body=y:=by simp [sub,hc,child]
  simp only[yY,h0]
  cases hx:exec M x (0::p) σ with
  |none=>rfl
  |some r=>
   obtain ⟨e1,σ1⟩:=r
   cases e1 with
   |normal=>
    simp only
    rw[oF (by simp)]
    simp only[yY]
    cases hcut:M.cut (1::p) σ1 with
    |none=>rfl
    |some σ2=>
     simp only[fI,gk]
     rw[oF (by simp)]
     simp only[yY,h1]
   |_=>
    simp only
    rw[Y5 (by simp) (by simp),Y5 (by simp) (by simp)]
 |cond c x y=>
  simp only[exec,DY]
  have h0:sub (0::p) M.body=x:=by simp [sub,hc,child]
  have h1:sub (1::p) M.body=y:=by simp [sub,hc,child]
  cases hv:σ.ev c with
  |bool b=>
   simp only[W3]
   cases b with
   |true=>
    simp only[cond_true]
    show _=fin M (.at (0::p)::k) .normal _
    rw[oF (by simp)]
    simp only[yY,h0]
   |false=>
    simp only[cond_false]
    show _=fin M (.at (1::p)::k) .normal _
    rw[oF (by simp)]
    simp only[yY,h1]
  |_=>rfl
 |block id x=>
  simp only[exec,DY]
  have h0:sub (0::p) M.body=x:=by simp [sub,hc,child]
  show _=fin M (.at (0::p):: .blk id::k) .normal σ
  rw[oF (by simp)]
  simp only[yY,h0]
  cases hx:exec M x (0::p) σ with
  |none=>rfl
  |some r=>
   obtain ⟨e1,σ1⟩:=r
   simp only
   rw[fin_block]
   cases e1 with
   |exit id'=>
    by_cases he:id'=id
    ·simp only[he,if_true]
    ·simp only[he,if_false]
   |_=>rfl
 |loop x=>
  simp only[exec,DY]
  have h0:sub (0::p) M.body=x:=by simp [sub,hc,child]
  show _=fin M (.lp M.n p::k) .normal σ
  rw[oF (by simp)]
  simp only[yY,h0]
 |exit id=>
  simp only[exec,DY]
  cases hb:behind id k with
  |none=>exact FL hb
  |some k'=>exact FK hb
 |scope x=>
  simp only[exec,DY]
  have h0:sub (0::p) M.body=x:=by simp [sub,hc,child]
  show _=fin M (.at (0::p)::k) .normal σ
  rw[oF (by simp)]
  simp only[yY,h0]
 |label l=>rfl
 |ret=>exact JY
 |goto l=>rfl
 |rangeFunc g ps as body=>
  have hlk:lkM M p=⟨ps,as,body,M.js p⟩:=by simp only[lkM,hc,lkAt]
  simp only[exec,DY,hlk]
  cases hv:σ.ev g with
  |func fn first cap=>
   cases fn with
   |func f=>
    simp only[rngX,stepR]
    cases hcl:M.cl f (first++[.map σ.heap.length]++cap) (σ.heap++[.loop ⟨ps,as,body,M.js p⟩ σ.slots .ready 0]) with
    |none=>rfl
    |some q=>
     obtain ⟨r,H'⟩:=q
     simp only[Ob]
     cases hH:H'[σ.heap.length]? with
     |none=>rfl
     |some x=>
      cases x with
      |loop lk s st sk=>
       simp only[endX,W2]
       by_cases hst:st=stP (oP lk.js sk)
       ·simp only[pcond,if_pos hst]
        generalize oP lk.js sk=pc
        cases pc with
        |none=>rfl
        |some c=>
         cases c with
         |ret=>exact JY
         |exit id=>
          simp only[jumpX,Sh]
          cases hb:behind id k with
          |none=>exact FL hb
          |some k'=>exact FK hb
         |_=>rfl
       ·simp only[pcond,if_neg hst]
      |_=>rfl
   |_=>rfl
  |_=>rfl
 |refuse s=>rfl
theorem stepN_skip {p:List Nat}:DY M p k σ .skip=run M k σ:=rfl
theorem stepN_region {p:List Nat} {id:Nat} {ops:Array Oper}:DY M p k σ (.region id ops false)=run M (.ops ops ops.toList::k) σ:=rfl
theorem stepN_draw {p:List Nat} {id:Nat} {ops:Array Oper}:DY M p k σ (.region id ops true)=pcond (M.P.follows .mixedOrders=true) (pcond (nP M p=true) (run M (.Mn p ops.toList 0 []::k) σ)):=by
 rw[←O9];rfl
theorem stepN_seq {p:List Nat} {x y:Code}:DY M p k σ (.seq x y)=run M (.at (0::p):: .cut (1::p):: .at (1::p)::k) σ:=rfl
theorem stepN_cond {p:List Nat} {c:Operand} {x y:Code}:DY M p k σ (.cond c x y)=W3 M c p k σ (σ.ev c):=rfl
theorem stepN_block {p:List Nat} {id:Nat} {x:Code}:DY M p k σ (.block id x)=run M (.at (0::p):: .blk id::k) σ:=rfl
theorem stepN_loop {p:List Nat} {x:Code}:DY M p k σ (.loop x)=run M (.lp M.n p::k) σ:=rfl
theorem stepN_exit {p:List Nat} {id:Nat}:DY M p k σ (.exit id)=exitK M σ id k (behind id k):=rfl
theorem stepN_range {p:List Nat} {g:Operand} {ps:Array Tmp} {as body:Code}:DY M p k σ (.rangeFunc g ps as body)=stepR M (lkM M p) k σ (σ.ev g):=rfl
theorem stepN_scope {p:List Nat} {x:Code}:DY M p k σ (.scope x)=run M (.at (0::p)::k) σ:=rfl
theorem stepN_label {p:List Nat} {l:Nat}:DY M p k σ (.label l)=run M k σ:=rfl
theorem stepN_ret {p:List Nat}:DY M p k σ .ret=retK M σ k:=rfl
theorem run_rb:run M (.rb::k) σ=(W1 σ).bind fun σ'=>run M k σ':=by
 show fin M (.rb::k) .normal σ=_
 rw[oF (by simp)]
 simp only[yY]
 cases W1 σ<;>rfl
theorem run_rd:run M (.rd::k) σ=M.qT .normal σ:=rfl
theorem run_cut {p:List Nat}:run M (.cut p::k) σ=(M.cut p σ).bind fun σ'=>run M k σ':=by
 show fin M (.cut p::k) .normal σ=_
 rw[oF (by simp)]
 simp only[yY]
 cases M.cut p σ<;>rfl
theorem run_lp {m:Nat} {p:List Nat}:run M (.lp m p::k) σ=(M.wU p σ).bind fun σ'=>run M (.lq m p::k) σ':=by
 show fin M (.lp m p::k) .normal σ=_
 rw[oF (by simp)]
 simp only[yY]
 cases h:M.wU p σ with
 |none=>rfl
 |some σ'=>
  simp only[fI]
  show _=fin M (.lq m p::k) .normal σ'
  rw[oF (by simp)]
  simp only[yY]
theorem k7 {p:List Nat}:run M (.lq 0 p::k) σ=none:=by
 show fin M (.lq 0 p::k) .normal σ=_
 rw[oF (by simp)]
 simp only[yY,lqN]
theorem k8 {m:Nat} {p:List Nat}:run M (.lq (m+1) p::k) σ=run M (.at (0::p):: .lp m p::k) σ:=by
 show fin M (.lq (m+1) p::k) .normal σ=fin M (.at (0::p):: .lp m p::k) .normal σ
 rw[oF (by simp),oF (by simp)]
 simp only[yY,lqN]
 cases hx:exec M (sub (0::p) M.body) (0::p) σ with
 |none=>rfl
 |some r=>
  obtain ⟨e1,σ1⟩:=r
  cases e1 with
  |normal=>
   simp only
   rw[oF (by simp)]
   simp only[yY]
  |_=>
   simp only
   rw[Y5 (by simp) (by simp)]
noncomputable def pe (M:lF R) (ops:Array Oper) (dst:Option Tmp) (rest:List Oper) (k:List Kt) (σ:AState):Option u7→Option R
 |some e=>pcond e.pre (run M (.ops ops rest::k) (σ.app dst e))
 |none=>none
noncomputable def Kc (M:lF R) (ops:Array Oper) (dst:Option Tmp) (rest:List Oper) (k:List Kt) (σ:AState):Option (AV×List AObj)→Option R
 |some (r,H')=>run M (.ops ops rest::k) (AState.put {σ with heap:=H'} dst r)
 |none=>none
noncomputable def Ly (M:lF R) (ops:Array Oper) (dst:Option Tmp) (rest:List Oper) (k:List Kt) (σ:AState):Option (ud×List AObj)→Option R
 |some (.ret r,H')=>run M (.ops ops rest::k) (AState.put {σ with heap:=H'} dst r)
 |some (.panic x,H')=>panK M x {σ with heap:=H'} k
 |none=>none
noncomputable def stepF (M:lF R) (ops:Array Oper) (dst:Option Tmp) (rest:List Oper) (k:List Kt) (σ:AState):Option (FuncId×List AV)→Option R
 |some p=>run M (.ops ops rest::k) (σ.dfr p dst)
 |none=>none
noncomputable def stepQ (M:lF R) (k:List Kt) (σ:AState):Option AV→Option R
 |some x=>panK M x σ k
 |none=>none
noncomputable def qQ (M:lF R) (ops:Array Oper) (dst:Option Tmp) (rest:List Oper) (k:List Kt) (σ:AState):Op→Option R
 | .defer c=>stepF M ops dst rest k σ (Ck σ (.defer c))
 | .panic x=>stepQ M k σ (Lw σ (.panic x))
 |o=>pe M ops dst rest k σ (lA M.P σ o)
noncomputable def stepY (M:lF R) (ops:Array Oper) (o:Oper) (rest:List Oper) (k:List Kt) (σ:AState):Option (Nat×List AV)→Option R
 |some (l,args)=>Kc M ops o.dst rest k σ (M.cy l args σ.heap)
 |none=>qQ M ops o.dst rest k σ o.op
noncomputable def Y6 (M:lF R) (ops:Array Oper) (o:Oper) (rest:List Oper) (k:List Kt) (σ:AState):Option (FuncId×List AV)→Option R
 |some (f,args)=>bif M.Ab f then Ly M ops o.dst rest k σ (M.cp f args σ.heap) else Kc M ops o.dst rest k σ (M.cl f args σ.heap)
 |none=>stepY M ops o rest k σ (yieldOf σ o.op)
noncomputable def stepW (M:lF R) (ops:Array Oper) (o:Oper) (rest:List Oper) (k:List Kt) (σ:AState):Option Bool→Option R
 |none=>none
 |some b=>bif b then Y6 M ops o rest k (rC ops o true σ) (mN (rC ops o true σ) o.op) else run M (.ops ops rest::k) ((rC ops o false σ).put o.dst (.raw undef))
theorem run_ops {ops:Array Oper} {o:Oper} {rest:List Oper}:run M (.ops ops (o::rest)::k) σ=stepW M ops o rest k σ (oR ops o σ):=by
 have hr: ∀σ,run M (.ops ops rest::k) σ=match tT M ops rest σ with|some (e,σ')=>fin M k e σ'|none=>none:=by
  intro σ
  show fin M (.ops ops rest::k) .normal σ=_
  rw[oF (by simp)]
  simp only[yY]
 have hl:run M (.ops ops (o::rest)::k) σ=match tT M ops (o::rest) σ with|some (e,σ')=>fin M k e σ'|none=>none:=by
  show fin M (.ops ops (o::rest)::k) .normal σ=_
  rw[oF (by simp)]
  simp only[yY]
 rw[hl]
 simp only[tT]
 cases hw:oR ops o σ with
 |none=>rfl
 |some b=>
  simp only[stepW]
  cases b with
  |false=>simp only[cond_false,hr]
  |true=>
   simp only[cond_true]
   cases hc:mN (rC ops o true σ) o.op with
   |some q=>
    obtain ⟨f,args⟩:=q
    simp only[Y6]
    cases hi:M.Ab f with
    |true=>
     simp only[cond_true]
     cases ha:M.cp f args (rC ops o true σ).heap with
     |none=>simp only[Ly]
     |some q=>
      obtain ⟨r,H'⟩:=q
      cases r with
      |ret r=>simp only[Ly,hr]
      |panic x=>simp only[Ly,Bm]
    |false=>
     simp only[cond_false]
     cases ha:M.cl f args (rC ops o true σ).heap with
     |none=>simp only[Kc]
     |some q=>obtain ⟨r,H'⟩:=q;simp only[Kc,hr]
   |none=>
    simp only[Y6]
    cases hy:yieldOf (rC ops o true σ) o.op with
    |some q=>
     obtain ⟨l,args⟩:=q
     simp only[stepY]
     cases ha:M.cy l args (rC ops o true σ).heap with
     |none=>simp only[Kc]
     |some q=>obtain ⟨r,H'⟩:=q;simp only[Kc,hr]
    |none=>
     simp only[stepY]
     have key:(∀c,o.op≠ .defer c)→(∀x,o.op≠ .panic x)→qQ M ops o.dst rest k (rC ops o true σ) o.op=pe M ops o.dst rest k (rC ops o true σ) (lA M.P (rC ops o true σ) o.op):=by
      intro h1 h2
      unfold qQ
      split
      ·rename_i hh;exact absurd hh (h1 _)
      ·rename_i hh;exact absurd hh (h2 _)
      ·rfl
     by_cases h1: ∃c,o.op= .defer c
     ·obtain ⟨c,ZV⟩:=h1
      simp only[ZV,lA,qQ]
      cases Ck (rC ops o true σ) (.defer c) with
      |some p=>simp only[stepF,hr]
      |none=>simp only[stepF,Lw]
     ·by_cases h2: ∃x,o.op= .panic x
      ·obtain ⟨x,hx⟩:=h2
       simp only[hx,lA,qQ,Ck]
       cases Lw (rC ops o true σ) (.panic x) with
       |some p=>simp only[stepQ,Bm]
       |none=>simp only[stepQ]
      ·rw[key (fun c ZV=>h1 ⟨c,ZV⟩) (fun x hx=>h2 ⟨x,hx⟩)]
       cases he:lA M.P (rC ops o true σ) o.op with
       |none=>
        simp only[pe]
        have e1:Ck (rC ops o true σ) o.op=none:=by
         unfold Ck
         split
         ·rename_i hh;exact absurd ⟨_,hh⟩ h1
         ·rfl
        have e2:Lw (rC ops o true σ) o.op=none:=by
         unfold Lw
         split
         ·rename_i hh;exact absurd ⟨_,hh⟩ h2
         ·rfl
        simp only[e1,e2]
       |some e=>
        simp only[pe,hr]
        by_cases hp:e.pre
        ·simp only[pcond,if_pos hp]
        ·simp only[pcond,if_neg hp]
theorem stepW_true {ops:Array Oper} {o:Oper} {rest:List Oper}:stepW M ops o rest k σ (some true)=Y6 M ops o rest k (rC ops o true σ) (mN (rC ops o true σ) o.op):=rfl
theorem stepW_false {ops:Array Oper} {o:Oper} {rest:List Oper}:stepW M ops o rest k σ (some false)=run M (.ops ops rest::k) ((rC ops o false σ).put o.dst (.raw undef)):=rfl
theorem stepW_sym {ops:Array Oper} {o:Oper} {rest:List Oper} {b:Bool}:stepW M ops o rest k σ (some b)=bif b then Y6 M ops o rest k (rC ops o true σ) (mN (rC ops o true σ) o.op) else run M (.ops ops rest::k) ((rC ops o false σ).put o.dst (.raw undef)):=rfl
theorem stepC_some {ops:Array Oper} {o:Oper} {rest:List Oper} {f:FuncId} {args:List AV}:Y6 M ops o rest k σ (some (f,args))=bif M.Ab f then Ly M ops o.dst rest k σ (M.cp f args σ.heap) else Kc M ops o.dst rest k σ (M.cl f args σ.heap):=rfl
theorem stepP_ret {ops:Array Oper} {dst:Option Tmp} {rest:List Oper} {r:AV} {H':List AObj}:Ly M ops dst rest k σ (some (.ret r,H'))=run M (.ops ops rest::k) (AState.put {σ with heap:=H'} dst r):=rfl
theorem stepP_pan {ops:Array Oper} {dst:Option Tmp} {rest:List Oper} {x:AV} {H':List AObj}:Ly M ops dst rest k σ (some (.panic x,H'))=panK M x {σ with heap:=H'} k:=rfl
theorem stepP_none {ops:Array Oper} {dst:Option Tmp} {rest:List Oper}:Ly M ops dst rest k σ none=none:=rfl
theorem stepP_bind {ops:Array Oper} {dst:Option Tmp} {rest:List Oper} {α:Type} {o:Option α} {f:α→Option (ud×List AObj)}:Ly M ops dst rest k σ (o.bind f)=o.bind fun x=>Ly M ops dst rest k σ (f x):=by
 cases o<;>rfl
theorem stepP_cond {ops:Array Oper} {dst:Option Tmp} {rest:List Oper} {b:Bool} {x y:Option (ud×List AObj)}:Ly M ops dst rest k σ (bif b then x else y)=bif b then Ly M ops dst rest k σ x else Ly M ops dst rest k σ y:=by cases b<;>rfl
theorem stepF_some {ops:Array Oper} {dst:Option Tmp} {rest:List Oper} {p:FuncId×List AV}:stepF M ops dst rest k σ (some p)=run M (.ops ops rest::k) (σ.dfr p dst):=rfl
theorem stepQ_some {x:AV}:stepQ M k σ (some x)=panK M x σ k:=rfl
theorem stepC_none {ops:Array Oper} {o:Oper} {rest:List Oper}:Y6 M ops o rest k σ none=stepY M ops o rest k σ (yieldOf σ o.op):=rfl
theorem stepY_some {ops:Array Oper} {o:Oper} {rest:List Oper} {l:Nat} {args:List AV}:stepY M ops o rest k σ (some (l,args))=Kc M ops o.dst rest k σ (M.cy l args σ.heap):=rfl
theorem stepY_none {ops:Array Oper} {o:Oper} {rest:List Oper}:stepY M ops o rest k σ none=qQ M ops o.dst rest k σ o.op:=rfl
theorem stepE_none {ops:Array Oper} {dst:Option Tmp} {rest:List Oper}:pe M ops dst rest k σ none=none:=rfl
theorem stepE_some {ops:Array Oper} {dst:Option Tmp} {rest:List Oper} {x:AV} {rd:List Nat} {up:List (Nat×AObj)} {nw:List AObj} {p:Prop}:
 pe M ops dst rest k σ (some {val:=x,rd,up,nw,pre:=p})=pcond p (run M (.ops ops rest::k) {σ.put dst x with heap:=l7 σ.heap up++nw}):=rfl
theorem stepE_bind {ops:Array Oper} {dst:Option Tmp} {rest:List Oper} {α:Type} {o:Option α} {f:α→Option u7}:pe M ops dst rest k σ (o.bind f)=o.bind fun x=>pe M ops dst rest k σ (f x):=by
 cases o<;>rfl
theorem stepE_ite {ops:Array Oper} {dst:Option Tmp} {rest:List Oper} {p:Prop} [Decidable p] {a b:Option u7}:pe M ops dst rest k σ (if p then a else b)=bif decide p then pe M ops dst rest k σ a else pe M ops dst rest k σ b:=by
 by_cases h:p<;>simp [h]
theorem stepA_some {ops:Array Oper} {dst:Option Tmp} {rest:List Oper} {r:AV} {H':List AObj}:Kc M ops dst rest k σ (some (r,H'))=run M (.ops ops rest::k) (AState.put {σ with heap:=H'} dst r):=rfl
theorem Y7 {ops:Array Oper} {dst:Option Tmp} {rest:List Oper}:Kc M ops dst rest k σ none=none:=rfl
theorem stepA_bind {ops:Array Oper} {dst:Option Tmp} {rest:List Oper} {α:Type} {o:Option α} {f:α→Option (AV×List AObj)}:Kc M ops dst rest k σ (o.bind f)=o.bind fun x=>Kc M ops dst rest k σ (f x):=by
 cases o<;>rfl
def NG (M:lF R) (p:List Nat) (tr:List Tr) (j:Nat) (e:u7):Prop:=Dw (pP M p) tr j e
def lS (M:lF R) (p:List Nat) (i j:Nat):Bool:=YJ (pP M p) i j
theorem compatP_eq {p:List Nat} {tr:List Tr} {j:Nat} {e:u7}:NG M p tr j e=(e.idle=true∨(tr.all fun t=>Bj t e||lS M p t.j j)=true):=rfl
noncomputable def vQ (M:lF R) (p:List Nat) (dst:Option Tmp) (rest:List Oper) (j:Nat) (tr:List Tr) (k:List Kt) (σ:AState):Option u7→Option R
 |some e=>pcond (e.pre∧NG M p tr j e) (run M (.Mn p rest (j+1) (Gn tr j σ.heap.length e)::k) (σ.app dst e))
 |none=>none
noncomputable def Mo (M:lF R) (p:List Nat) (dst:Option Tmp) (rest:List Oper) (j:Nat) (tr:List Tr) (k:List Kt) (σ:AState):Option AV→Option R
 |some r=>run M (.Mn p rest (j+1) tr::k) (σ.put dst r)
 |none=>none
def Si (M:lF R) (p:List Nat) (c:Nat) (rest:List Oper) (j:Nat) (σ:AState):Prop:=NC M.P (pP M p) c rest j σ
noncomputable def Gp (M:lF R) (p:List Nat) (dst:Option Tmp) (rest:List Oper) (j:Nat) (tr:List Tr) (k:List Kt) (σ:AState):Option CO→Option R
 |some (.ret e)=>vQ M p dst rest j tr k σ (some e)
 |some (.pan x H')=>pcond (La tr=true∧Si M p j rest (j+1) (σ.put dst (.raw undef))) (panK M x {σ with slots:=Vz (pP M p) σ.slots,heap:=H'} k)
 |none=>none
noncomputable def VC (M:lF R) (p:List Nat) (o:Oper) (rest:List Oper) (j:Nat) (tr:List Tr) (k:List Kt) (σ:AState):Option (FuncId×List AV)→Option R
 |some (f,args)=>bif M.AZ f then Gp M p o.dst rest j tr k σ (M.co f args σ.heap) else bif M.AY f then vQ M p o.dst rest j tr k σ (M.ce f args σ.heap) else Mo M p o.dst rest j tr k σ (M.cd f args)
 |none=>vQ M p o.dst rest j tr k σ (lA M.P σ o.op)
noncomputable def Y8 (M:lF R) (p:List Nat) (o:Oper) (rest:List Oper) (j:Nat) (tr:List Tr) (k:List Kt) (σ:AState):Option Bool→Option R
 |none=>none
 |some b=>bif b then VC M p o rest j tr k (rC (pP M p) o true σ) (mN (rC (pP M p) o true σ) o.op) else run M (.Mn p rest (j+1) tr::k) ((rC (pP M p) o false σ).put o.dst (.raw undef))
theorem run_dops {p:List Nat} {o:Oper} {rest:List Oper} {j:Nat} {tr:List Tr}:run M (.Mn p (o::rest) j tr::k) σ=Y8 M p o rest j tr k σ (oR (pP M p) o σ):=by
 have hr: ∀j tr σ,run M (.Mn p rest j tr::k) σ=match Hs M (pP M p) rest j tr σ with|some (e,σ')=>fin M k e σ'|none=>none:=by
  intro j tr σ
  show fin M (.Mn p rest j tr::k) .normal σ=_
  rw[oF (by simp)]
  simp only[yY]
 have hl:run M (.Mn p (o::rest) j tr::k) σ=match Hs M (pP M p) (o::rest) j tr σ with|some (e,σ')=>fin M k e σ'|none=>none:=by
  show fin M (.Mn p (o::rest) j tr::k) .normal σ=_
  rw[oF (by simp)]
  simp only[yY]
 rw[hl]
 simp only[Hs]
 cases hw:oR (pP M p) o σ with
 |none=>rfl
 |some b=>
  simp only[Y8]
  cases b with
  |false=>simp only[cond_false,hr]
  |true=>
   simp only[cond_true]
   cases hc:mN (rC (pP M p) o true σ) o.op with
   |some q=>
    obtain ⟨f,args⟩:=q
    simp only[VC]
    cases hic:M.AZ f with
    |true=>
     simp only[cond_true]
     cases he:M.co f args (rC (pP M p) o true σ).heap with
     |none=>simp only[Gp]
     |some q=>
      cases q with
      |ret e=>
       simp only[Gp,vQ,hr]
       have hpe:(e.pre∧NG M p tr j e)=(e.pre∧Dw (pP M p) tr j e):=rfl
       rw[hpe]
       by_cases hp:e.pre∧Dw (pP M p) tr j e
       ·simp only[pcond,if_pos hp]
       ·simp only[pcond,if_neg hp]
      |pan x H'=>
       simp only[Gp,Si]
       by_cases hp:La tr=true∧NC M.P (pP M p) j rest (j+1) ((rC (pP M p) o true σ).put o.dst (.raw undef))
       ·simp only[pcond,if_pos hp,Bm]
       ·simp only[pcond,if_neg hp]
    |false=>
    simp only[cond_false]
    cases hi:M.AY f with
    |true=>
     simp only[cond_true]
     cases he:M.ce f args (rC (pP M p) o true σ).heap with
     |none=>simp only[vQ]
     |some e=>
      simp only[vQ,hr]
      have hpe:(e.pre∧NG M p tr j e)=(e.pre∧Dw (pP M p) tr j e):=rfl
      rw[hpe]
      by_cases hp:e.pre∧Dw (pP M p) tr j e
      ·simp only[pcond,if_pos hp]
      ·simp only[pcond,if_neg hp]
    |false=>
     simp only[cond_false]
     cases ha:M.cd f args with
     |none=>simp only[Mo]
     |some r=>simp only[Mo,hr]
   |none=>
    simp only[VC]
    cases he:lA M.P (rC (pP M p) o true σ) o.op with
    |none=>simp only[vQ]
    |some e=>
     simp only[vQ,hr]
     have hpe:(e.pre∧NG M p tr j e)=(e.pre∧Dw (pP M p) tr j e):=rfl
     rw[hpe]
     by_cases hp:e.pre∧Dw (pP M p) tr j e
     ·simp only[pcond,if_pos hp]
     ·simp only[pcond,if_neg hp]
theorem stepDW_true {p:List Nat} {o:Oper} {rest:List Oper} {j:Nat} {tr:List Tr}:Y8 M p o rest j tr k σ (some true)=VC M p o rest j tr k (rC (pP M p) o true σ) (mN (rC (pP M p) o true σ) o.op):=rfl
theorem stepDW_false {p:List Nat} {o:Oper} {rest:List Oper} {j:Nat} {tr:List Tr}:Y8 M p o rest j tr k σ (some false)=run M (.Mn p rest (j+1) tr::k) ((rC (pP M p) o false σ).put o.dst (.raw undef)):=rfl
theorem stepDW_sym {p:List Nat} {o:Oper} {rest:List Oper} {j:Nat} {tr:List Tr} {b:Bool}:Y8 M p o rest j tr k σ (some b)=bif b then VC M p o rest j tr k (rC (pP M p) o true σ) (mN (rC (pP M p) o true σ) o.op) else run M (.Mn p rest (j+1) tr::k) ((rC (pP M p) o false σ).put o.dst (.raw undef)):=rfl
theorem stepDC_some {p:List Nat} {o:Oper} {rest:List Oper} {j:Nat} {tr:List Tr} {f:FuncId} {args:List AV}:VC M p o rest j tr k σ (some (f,args))=bif M.AZ f then Gp M p o.dst rest j tr k σ (M.co f args σ.heap) else bif M.AY f then vQ M p o.dst rest j tr k σ (M.ce f args σ.heap) else Mo M p o.dst rest j tr k σ (M.cd f args):=rfl
theorem stepDP_ret {p:List Nat} {dst:Option Tmp} {rest:List Oper} {j:Nat} {tr:List Tr} {e:u7}:Gp M p dst rest j tr k σ (some (.ret e))=vQ M p dst rest j tr k σ (some e):=rfl
theorem stepDP_pan {p:List Nat} {dst:Option Tmp} {rest:List Oper} {j:Nat} {tr:List Tr} {x:AV} {H':List AObj}:Gp M p dst rest j tr k σ (some (.pan x H'))=pcond (La tr=true) (pcond (Si M p j rest (j+1) (σ.put dst (.raw undef))) (panK M x {σ with slots:=Vz (pP M p) σ.slots,heap:=H'} k)):=by
 rw[←O9];rfl
theorem Xz {p:List Nat} {dst:Option Tmp} {rest:List Oper} {j:Nat} {tr:List Tr}:Gp M p dst rest j tr k σ none=none:=rfl
theorem stepDP_bind {p:List Nat} {dst:Option Tmp} {rest:List Oper} {j:Nat} {tr:List Tr} {α:Type} {o:Option α} {f:α→Option CO}:Gp M p dst rest j tr k σ (o.bind f)=o.bind fun x=>Gp M p dst rest j tr k σ (f x):=by
 cases o<;>rfl
theorem restP_nil {p:List Nat} {c j:Nat}:Si M p c [] j σ=True:=rfl
def Gq (M:lF R) (p:List Nat) (c j:Nat):Bool:=qd (pP M p) c j
theorem restP_skip {p:List Nat} {c j:Nat} {o:Oper} {rest:List Oper} (h:Gq M p c j=true):Si M p c (o::rest) j σ=Si M p c rest (j+1) (σ.put o.dst (.raw undef)):=by
 unfold Gq at h
 show NC M.P (pP M p) c (o::rest) j σ=NC M.P (pP M p) c rest (j+1) (σ.put o.dst (.raw undef))
 simp only[NC,h]
theorem stepDE_none {p:List Nat} {dst:Option Tmp} {rest:List Oper} {j:Nat} {tr:List Tr}:vQ M p dst rest j tr k σ none=none:=rfl
theorem stepDE_idle {p:List Nat} {dst:Option Tmp} {rest:List Oper} {j:Nat} {tr:List Tr} {x:AV} {pr:Prop}:
 vQ M p dst rest j tr k σ (some {val:=x,rd:=[],up:=[],nw:=[],pre:=pr})=pcond pr (run M (.Mn p rest (j+1) tr::k) (σ.put dst x)):=by
 simp only[vQ,NG,Dw,u7.idle,Gn,fT,Bool.and_true,gu,true_or,and_true,cond_true]
 rw[F8]
theorem stepDE_some {p:List Nat} {dst:Option Tmp} {rest:List Oper} {j:Nat} {tr:List Tr} {x:AV} {rd:List Nat} {up:List (Nat×AObj)} {nw:List AObj} {pr:Prop}:
 vQ M p dst rest j tr k σ (some {val:=x,rd,up,nw,pre:=pr})=pcond pr (pcond (NG M p tr j {val:=x,rd,up,nw,pre:=pr}) (run M (.Mn p rest (j+1) (Gn tr j σ.heap.length {val:=x,rd,up,nw,pre:=pr})::k) {σ.put dst x with heap:=l7 σ.heap up++nw})):=by
 rw[←O9];rfl
theorem stepDE_bind {p:List Nat} {dst:Option Tmp} {rest:List Oper} {j:Nat} {tr:List Tr} {α:Type} {o:Option α} {f:α→Option u7}:vQ M p dst rest j tr k σ (o.bind f)=o.bind fun x=>vQ M p dst rest j tr k σ (f x):=by
 cases o<;>rfl
theorem stepDE_ite {p:List Nat} {dst:Option Tmp} {rest:List Oper} {j:Nat} {tr:List Tr} {pr:Prop} [Decidable pr] {a b:Option u7}:vQ M p dst rest j tr k σ (if pr then a else b)=bif decide pr then vQ M p dst rest j tr k σ a else vQ M p dst rest j tr k σ b:=by
 by_cases h:pr<;>simp [h]
theorem stepDA_some {p:List Nat} {dst:Option Tmp} {rest:List Oper} {j:Nat} {tr:List Tr} {r:AV}:Mo M p dst rest j tr k σ (some r)=run M (.Mn p rest (j+1) tr::k) (σ.put dst r):=rfl
theorem stepDA_none {p:List Nat} {dst:Option Tmp} {rest:List Oper} {j:Nat} {tr:List Tr}:Mo M p dst rest j tr k σ none=none:=rfl
theorem stepDA_bind {p:List Nat} {dst:Option Tmp} {rest:List Oper} {j:Nat} {tr:List Tr} {α:Type} {o:Option α} {f:α→Option AV}:Mo M p dst rest j tr k σ (o.bind f)=o.bind fun x=>Mo M p dst rest j tr k σ (f x):=by
 cases o<;>rfl
theorem Qj (G:Good M) {r:R} {Q:mX→AState→Prop} (h:run M [.at []] σ=some r) (hQ: ∀σ',M.out σ'=some r→Q .normal σ'∧Q .ret σ') (hP: ∀x σ',M.pJ x σ'=some r→Q (.panic x) σ'):XQ M.P M.body Q σ:=by
 have h':fin M [.at []] .normal σ=some r:=h
 rw[oF (by simp)] at h'
 simp only[yY,sub] at h'
 cases hx:exec M M.body [] σ with
 |none=>simp only[hx] at h';cases h'
 |some q=>
  obtain ⟨e,σ'⟩:=q
  simp only[hx] at h'
  refine yX G _ [] Q σ e σ' hx ?_
  cases e with
  |normal=>exact (hQ σ' h').1
  |ret=>exact (hQ σ' h').2
  |panic x=>exact hP x σ' h'
  |_=>simp only[fin] at h';cases h'
theorem run_sound (G:Good M) {r:R} {Q:mX→AState→Prop} (h:run M [.at []] σ=some r) (hQ: ∀σ',M.out σ'=some r→Q .normal σ'∧Q .ret σ') (hP: ∀x σ',M.pJ x σ'=none):XQ M.P M.body Q σ:=
 Qj G h hQ fun x σ' hx=>by rw[hP x σ'] at hx;cases hx
def Y9:Op→Bool
 | .call {callee:= .value _,..}=>false
 | .panic _=>false
 |_=>true
def Za:Code→Bool
 | .skip=>true
 | .region _ ops _=>ops.toList.all fun o=>Y9 o.op
 | .seq x y=>Za x&&Za y
 |_=>false
theorem Sj {σ:AState} {o:Op} (h:Y9 o=true):mN σ o=none:=by
 unfold mN
 split
 ·cases h
 ·rfl
theorem calm_pan {σ:AState} {o:Op} (h:Y9 o=true):Lw σ o=none:=by
 unfold Lw
 split
 ·cases h
 ·rfl
theorem Qk {M:lF R} {ops:Array Oper}: ∀ (rest:List Oper) (σ:AState) (e:mX) (σ':AState),rest.all (fun o=>Y9 o.op)=true→tT M ops rest σ=some (e,σ')→e= .normal
 |[],σ,e,σ',_,h=>by simp only[tT,fk,fz] at h;exact h.1.symm
 |o::rest,σ,e,σ',hc,h=>by
  rw[gy,fH] at hc
  have ih:=fun σ=>Qk (M:=M) (ops:=ops) rest σ e σ' hc.2
  simp only[tT] at h
  split at h
  ·cases h
  ·rename_i b _
   cases b with
   |false=>simp only[cond_false] at h;exact ih _ h
   |true=>
    simp only[cond_true,Sj hc.1,calm_pan hc.1] at h
    split at h
    ·split at h
     ·exact ih _ h
     ·cases h
    ·split at h
     ·rw[lV] at h;exact ih _ h.2
     ·split at h
      ·exact ih _ h
      ·cases h
theorem Zb {M:lF R} {ops:Array Oper}: ∀ (rest:List Oper) (j:Nat) (tr:List Tr) (σ:AState) (e:mX) (σ':AState),rest.all (fun o=>Y9 o.op)=true→Hs M ops rest j tr σ=some (e,σ')→e= .normal
 |[],_,_,σ,e,σ',_,h=>by simp only[Hs,fk,fz] at h;exact h.1.symm
 |o::rest,j,tr,σ,e,σ',hc,h=>by
  rw[gy,fH] at hc
  have ih:=fun tr σ=>Zb (M:=M) (ops:=ops) rest (j+1) tr σ e σ' hc.2
  simp only[Hs] at h
  split at h
  ·cases h
  ·rename_i b _
   cases b with
   |false=>simp only[cond_false] at h;exact ih _ _ h
   |true=>
    simp only[cond_true,Sj hc.1] at h
    split at h
    ·rw[lV] at h;exact ih _ _ h.2
    ·cases h
theorem W4 {M:lF R}: ∀ (c:Code) (p:List Nat) (σ:AState) (e:mX) (σ':AState),Za c=true→exec M c p σ=some (e,σ')→e= .normal
 | .skip,_,_,e,_,_,h=>by simp only[exec,fk,fz] at h;exact h.1.symm
 | .region _ ops false,_,_,e,_,hp,h=>by
   simp only[exec] at h
   exact Qk _ _ _ _ hp h
 | .region _ ops true,_,_,e,_,hp,h=>by
   simp only[exec] at h
   rw[lV] at h
   exact Zb _ _ _ _ _ _ hp h.2
 | .seq x y,p,σ,e,σ',hp,h=>by
   simp only[Za,fH] at hp
   simp only[exec] at h
   cases hx:exec M x (0::p) σ with
   |none=>simp only[hx] at h;cases h
   |some r=>
    obtain ⟨e1,σ1⟩:=r
    have:=W4 x _ _ _ _ hp.1 hx
    subst this
    simp only[hx] at h
    cases hc:M.cut (1::p) σ1 with
    |none=>simp only[hc,Option.bind_none] at h;cases h
    |some σ2=>
     simp only[hc,fI] at h
     exact W4 y _ _ _ _ hp.2 h
 | .cond _ _ _,_,_,_,_,hp,_=>by cases hp
 | .block _ _,_,_,_,_,hp,_=>by cases hp
 | .loop _,_,_,_,_,hp,_=>by cases hp
 | .exit _,_,_,_,_,hp,_=>by cases hp
 | .scope _,_,_,_,_,hp,_=>by cases hp
 | .label _,_,_,_,_,hp,_=>by cases hp
 | .ret,_,_,_,_,hp,_=>by cases hp
 | .goto _,_,_,_,_,hp,_=>by cases hp
 | .rangeFunc _ _ _ _,_,_,_,_,hp,_=>by cases hp
 | .refuse _,_,_,_,_,hp,_=>by cases hp
theorem fnT_run {lk:wQ} {slots args:List AV} {H:List AObj} {V:ud→List AObj→Prop} {r:R} (G:Good M) (hbody:M.body= .seq lk.assign lk.body) (hp:Za lk.assign=true) (hn:wS lk.assign=true∧wS lk.body=true)
 (hH:H[0]? =some (.loop lk slots .ready 0)) (hnb:nbL H.length args) (Fc: ∀x∈H,objNb H.length x) (hout: ∀e σ,M.qT e σ=some r→rPost V e σ)
 (h:run M [.at [0],.rb,.at [1],.rd] {slots:=Pb slots lk.ps.toList args,heap:=H,low:=H.length}=some r):Y0 M.P (R8 M.P) args H V:=by
 refine fnT_of_round hH hnb Fc hn ?_
 have h0:sub [0] M.body=lk.assign:=by rw[hbody];rfl
 have h1:sub [1] M.body=lk.body:=by rw[hbody];rfl
 have h':fin M [.at [0],.rb,.at [1],.rd] .normal {slots:=Pb slots lk.ps.toList args,heap:=H,low:=H.length}=some r:=h
 rw[oF (by simp)] at h'
 simp only[yY,h0] at h'
 cases hx:exec M lk.assign [0] {slots:=Pb slots lk.ps.toList args,heap:=H,low:=H.length} with
 |none=>simp only[hx] at h';cases h'
 |some q=>
  obtain ⟨e,σ'⟩:=q
  have:=W4 _ _ _ _ _ hp hx
  subst this
  simp only[hx] at h'
  refine yX G _ [0] _ _ .normal σ' hx ?_
  rw[oF (by simp)] at h'
  simp only[yY] at h'
  cases hb:W1 σ' with
  |none=>simp only[hb,Option.map_none] at h';cases h'
  |some σ2=>
   simp only[hb,gk] at h'
   unfold W1 beginO at hb
   split at hb
   ·rename_i k s hk
    simp only[fk] at hb
    subst hb
    refine ⟨k,s,hk,?_⟩
    rw[oF (by simp)] at h'
    simp only[yY,h1] at h'
    cases Mg:exec M lk.body [1] {σ' with heap:=σ'.heap.set 0 (.loop k s .busy 0)} with
    |none=>simp only[Mg] at h';cases h'
    |some q=>
     obtain ⟨e2,σ3⟩:=q
     simp only[Mg] at h'
     refine yX G _ [1] _ _ e2 σ3 Mg ?_
     exact hout e2 σ3 (by cases e2<;>exact h')
   ·cases hb
theorem Yn {f:FuncId} {fn:Func} {args:List AV} {V:AV→Prop} {r:R} {n:Nat} {rs:List ResultVar} (G:Good M) (hf:M.P.funcs[f]? =some fn) (hb:fn.body=some M.body) (hne:(fn.name != "runtime.NumGoroutine")=true) (hnb:nbL 0 args)
 (hn:fn.ntmps=n) (Oa:fn.results=rs.toArray) (hout: ∀σ,M.out σ=some r→σ.df=[]∧endV V σ.heap (Lx M.P σ rs))
 (h:run M [.at []] {slots:=args++fA (n-args.length) .any,heap:=[]}=some r) (hP: ∀x σ',M.pJ x σ'=none:=by intros;rfl):yP M.P f args V:=by
 refine fnC_of_body hf hb hne hnb ?_
 rw[Oa,hn]
 refine run_sound G h (fun σ' hs=> ?_) hP
 have:=hout σ' hs
 exact ⟨this,this⟩
end
end Go.Abs
namespace Go.Abs
section lists
variable {α β γ:Type}
def mapO (f:β→Option α):List β→Option (List α)
 |[]=>some []
 |x::xs=>(f x).bind fun y=>(mapO f xs).bind fun ys=>some (y::ys)
theorem mapO_nil (f:β→Option α):mapO f []=some []:=rfl
theorem mapO_cons (f:β→Option α) (x:β) (xs:List β):mapO f (x::xs)=(f x).bind fun y=>(mapO f xs).bind fun ys=>some (y::ys):=rfl
theorem XA (f:β→Option α): ∀a b:List β,mapO f (a++b)=(mapO f a).bind fun x=>(mapO f b).bind fun y=>some (x++y)
 |[],b=>by cases h:mapO f b<;>simp [mapO,h]
 |x::a,b=>by
  simp only[List.cons_append,mapO,XA f a b]
  cases f x<;>simp
  cases mapO f a<;>simp
  cases mapO f b<;>simp
theorem Zc {f:β→Option α} {g:α→β} (h: ∀x,f (g x)=some x): ∀xs:List α,mapO f (xs.map g)=some xs
 |[]=>rfl
 |x::xs=>by simp [mapO,h x,Zc h xs]
def mp (f:α→β) (xs:List α):List β:=xs.map f
theorem qe (f:α→β) (xs:List α):mp f xs=xs.map f:=rfl
attribute [irreducible] mp
theorem Me (f:α→β) (xs:List α):(mp f xs).length=xs.length:=by rw[qe,gj]
theorem mp_take (f:α→β) (xs:List α) (n:Nat):(mp f xs).take n=mp f (xs.take n):=by rw[qe,qe,List.map_take]
theorem mp_drop (f:α→β) (xs:List α) (n:Nat):(mp f xs).drop n=mp f (xs.drop n):=by rw[qe,qe,List.map_drop]
theorem Zd (f:α→β) (xs:List α):(mp f xs).isEmpty=xs.isEmpty:=by rw[qe];cases xs<;>rfl
theorem Cm {f:β→Option α} {g:α→β} (h: ∀x,f (g x)=some x) (xs:List α):mapO f (mp g xs)=some xs:=by rw[qe];exact Zc h xs
theorem bind_map' {f:α→β} {g:β→Option γ} {o:Option α}:(gD f o).bind g=o.bind fun x=>g (f x):=by cases o<;>rfl
theorem bind_bind' {f:α→Option β} {g:β→Option γ} {o:Option α}:(o.bind f).bind g=o.bind fun x=>(f x).bind g:=by cases o<;>rfl
theorem bind_cond {f:α→Option β} {b:Bool} {x y:Option α}:(bif b then x else y).bind f=bif b then x.bind f else y.bind f:=by cases b<;>rfl
theorem bind_none' {f:α→Option β}:(none:Option α).bind f=none:=rfl
theorem x8 {f:α→Option β} {x:α}:(some x).bind f=f x:=rfl
def IX (xs:List α) (n:Int):Option α:=if 0≤n then xs[n.toNat]? else none
theorem idxA_mp {f:α→β} {xs:List α} {n:Int}:IX (mp f xs) n=gD f (IX xs n):=by
 rw[qe];unfold IX;split<;>simp
theorem idxA_zero {x:α} {xs:List α}:IX (x::xs) 0=some x:=rfl
theorem idxA_one {x y:α} {xs:List α}:IX (x::y::xs) 1=some y:=rfl
theorem idxA_two {x y z:α} {xs:List α}:IX (x::y::z::xs) 2=some z:=rfl
end lists
def AW:List AV→List AV→Prop
 |[],ys=>ys=[]
 |x::xs,ys=> ∃y zs,ys=y::zs∧Sub x y∧AW xs zs
theorem AW.nil:AW [] []:=rfl
theorem AW.cons {x y:AV} {xs ys:List AV} (h:Sub x y) (hs:AW xs ys):AW (x::xs) (y::ys):=⟨y,ys,rfl,h,hs⟩
theorem AW.subL: ∀ {xs ys:List AV},AW xs ys→qJ xs ys
 |[],_,rfl=>qJ.nil
 |_::_,_,⟨_,_,rfl,h,hs⟩=>qJ.cons h (AW.subL hs)
theorem AW.subM: ∀ {xs ys:List AV},AW xs ys→WR xs ys
 |[],_,rfl=>WR.nil
 |_::_,_,⟨_,_,rfl,h,hs⟩=>WR.cons h (AW.subM hs)
theorem AW.length: ∀ {xs ys:List AV},AW xs ys→xs.length=ys.length
 |[],_,rfl=>rfl
 |_::_,_,⟨_,_,rfl,_,hs⟩=>by simp [AW.length hs]
theorem AW.append: ∀ {xs ys us vs:List AV},AW xs ys→AW us vs→AW (xs++us) (ys++vs)
 |[],_,_,_,rfl,h=>h
 |_::_,_,_,_,⟨y,zs,rfl,h,hs⟩,h2=>⟨y,zs++_,rfl,h,AW.append hs h2⟩
theorem oN.nil {H:List AObj} {n:Nat}:oN H n [] []:=rfl
theorem oN.cons {H:List AObj} {n:Nat} {x y:AV} {xs ys:List AV} (h:Co1 H n x y) (hs:oN H n xs ys):oN H n (x::xs) (y::ys):=⟨y,ys,rfl,h,hs⟩
theorem oN.append {H:List AObj} {n:Nat}: ∀ {xs ys us vs:List AV},oN H n xs ys→oN H n us vs→oN H n (xs++us) (ys++vs)
 |[],_,_,_,rfl,h=>h
 |_::_,_,_,_,⟨y,zs,rfl,h,hs⟩,h2=>⟨y,zs++_,rfl,h,oN.append hs h2⟩
theorem Co1.toSub {n:Nat} {x y:AV} (h:Co1 [] n x y):Sub x y:=by
 rcases h with h|⟨l,m,sz,rows,_,hl,_⟩
 ·exact h.1
 ·simp at hl
theorem oN.toSub {n:Nat}: ∀ {xs ys:List AV},oN [] n xs ys→AW xs ys
 |[],_,rfl=>rfl
 |_::_,_,⟨y,zs,rfl,h,hs⟩=>⟨y,zs,rfl,h.toSub,oN.toSub hs⟩
theorem Co.toSub {n:Nat} {x y:AV} (h:Co [] n x y):Sub x y:=by
 rcases h with h|⟨cs,ds,rfl,rfl,h⟩
 ·exact h.toSub
 ·exact Sub.agg h.toSub.subL
theorem oN.toCoL {H:List AObj} {n:Nat}: ∀ {xs ys:List AV},oN H n xs ys→B8 H n xs ys
 |[],_,rfl=>rfl
 |_::_,_,⟨y,zs,rfl,h,hs⟩=>⟨y,zs,rfl,.inl h,oN.toCoL hs⟩
structure Row (α:Type) where
 enc:α→List AV
 dec:List AV→Option α
 sz:Nat
 ok: ∀r x,dec r=some x→AW r (enc x)
 nb: ∀n x,nbL n (enc x)
structure Ty (α:Type) where
 enc:α→AV
 dec:List AObj→AV→Option α
 ok: ∀H n v x,dec H v=some x→Co H n v (enc x)
 nb: ∀n x,(enc x).nb n
section rows
variable {α:Type}
def Ht (sz k:Nat) (rows:List (List AV)):Bool:=sz==k||rows.isEmpty
def dL (r:Row α) (H:List AObj):AV→Option (List α)
 | .l5 _ sz rows=>bif Ht sz r.sz rows then mapO r.dec rows else none
 | .acc l n=>match H[l]? with
   |some (.acc true sz rows)=>bif (rows.length==n)&&Ht sz r.sz rows then mapO r.dec rows else none
   |_=>none
 |_=>none
theorem JG {r:Row α}: ∀ {rows:List (List AV)} {xs:List α},mapO r.dec rows=some xs→Qh rows (mp r.enc xs)∧Ga rows (mp r.enc xs)
 |[],xs,h=>by
  simp only[mapO,fk] at h
  subst h
  rw[qe]
  exact ⟨Qh.nil,rfl⟩
 |c::rows,xs,h=>by
  simp only[mapO,fj,fk] at h
  obtain ⟨y,hy,ys,hys,rfl⟩:=h
  obtain ⟨h1,h2⟩:=JG hys
  have h3:=r.ok _ _ hy
  rw[qe] at h1 h2 ⊢
  exact ⟨Qh.cons h3.subM h1,_,_,rfl,⟨h3.length,h3.subL⟩,h2⟩
theorem wj {r:Row α} {n:Nat}: ∀xs:List α,Lu n (mp r.enc xs)
 |[]=>by rw[qe];trivial
 |x::xs=>by have:=wj (r:=r) (n:=n) xs;rw[qe] at this ⊢;exact ⟨r.nb n x,this⟩
theorem Ql {t:Bool} {sz k:Nat} {rows ug:List (List AV)} (h:Ht sz k rows=true) (hs:Qh rows ug):Sub (.l5 t sz rows) (.l5 false k ug):=by
 unfold Ht at h
 simp only[Bool.or_eq_true,beq_iff_eq,List.isEmpty_iff] at h
 rcases h with rfl|rfl
 ·exact Sub.l5 hs
 ·have:ug=[]:=fX hs.1.symm
  subst this
  exact Sub.empty _ _ _
theorem Pc {r:Row α} {H:List AObj} {n:Nat} {v:AV} {xs:List α} (h:dL r H v=some xs):Co1 H n v (.l5 false r.sz (mp r.enc xs)):=by
 unfold dL at h
 split at h
 ·rename_i t sz rows
  cases hs:Ht sz r.sz rows with
  |false=>simp [hs] at h
  |true=>
   simp only[hs,cond_true] at h
   exact .inl ⟨Ql hs (JG h).1,wj xs⟩
 ·rename_i l m
  split at h
  ·rename_i sz rows hl
   cases hs:Ht sz r.sz rows with
   |false=>simp [hs] at h
   |true=>
    cases hm:(rows.length==m) with
    |false=>simp [hm] at h
    |true=>
     simp only[hs,hm,Bool.and_self,cond_true] at h
     exact .inr ⟨l,m,sz,rows,rfl,hl,by simpa using hm,Ql hs (JG h).1,wj xs⟩
  ·cases h
 ·cases h
def nj (r:Row α):Ty (List α) where
 enc xs:= .l5 false r.sz (mp r.enc xs)
 dec:=dL r
 ok _ _ _ _ h:= .inl (Pc h)
 nb _ xs:=wj xs
theorem tyL_enc {r:Row α} {xs:List α}:(nj r).enc xs= .l5 false r.sz (mp r.enc xs):=rfl
theorem tyL_dec {r:Row α} {H:List AObj} {v:AV}:(nj r).dec H v=dL r H v:=rfl
end rows
def sb (s:List UInt8):ByteArray:=⟨s.toArray⟩
abbrev Str:=List UInt8
def dI (k:IntKind):AV→Option Int
 | .int k' n=>if k'=k then some n else none
 |_=>none
def dB:AV→Option Bool
 | .bool b=>some b
 |_=>none
def dS:AV→Option Str
 | .str b=>some b.data.toList
 |_=>none
theorem EU {k:IntKind} {H:List AObj} {n:Nat} {v:AV} {x:Int} (h:dI k v=some x):Co1 H n v (.int k x):=by
 unfold dI at h
 split at h
 ·split at h
  ·cases h;rename_i e;subst e;exact Co1.sub (Sub.refl _) trivial
  ·cases h
 ·cases h
theorem dB_ok {H:List AObj} {n:Nat} {v:AV} {x:Bool} (h:dB v=some x):Co1 H n v (.bool x):=by
 unfold dB at h
 split at h
 ·cases h;exact Co1.sub (Sub.refl _) trivial
 ·cases h
theorem sb_data (b:ByteArray):sb b.data.toList=b:=by
 cases b;rfl
theorem Wg {H:List AObj} {n:Nat} {v:AV} {x:Str} (h:dS v=some x):Co1 H n v (.str (sb x)):=by
 unfold dS at h
 split at h
 ·cases h;rw[sb_data];exact Co1.sub (Sub.refl _) trivial
 ·cases h
theorem Sk (s:Str):dS (.str (sb s))=some s:=rfl
theorem Mp (k:IntKind) (n:Int):dI k (.int k n)=some n:=by simp [dI]
theorem Hu (b:Bool):dB (.bool b)=some b:=rfl
theorem dS_empty:dS (.str ByteArray.empty)=some []:=rfl
theorem dS_emptyL:dS (.str ⟨#[]⟩)=some []:=rfl
def mK (k:IntKind):Ty Int:=⟨.int k,fun _=>dI k,fun _ _ _ _ h=> .inl (EU h),fun _ _=>trivial⟩
def pQ:Ty Bool:=⟨.bool,fun _=>dB,fun _ _ _ _ h=> .inl (dB_ok h),fun _ _=>trivial⟩
def nh:Ty Str:=⟨fun s=> .str (sb s),fun _=>dS,fun _ _ _ _ h=> .inl (Wg h),fun _ _=>trivial⟩
theorem tyI_enc {k:IntKind} {x:Int}:(mK k).enc x= .int k x:=rfl
theorem tyI_dec {k:IntKind} {H:List AObj} {v:AV}:(mK k).dec H v=dI k v:=rfl
theorem tyB_enc {x:Bool}:pQ.enc x= .bool x:=rfl
theorem tyB_dec {H:List AObj} {v:AV}:pQ.dec H v=dB v:=rfl
theorem tyS_enc {x:Str}:nh.enc x= .str (sb x):=rfl
theorem tyS_dec {H:List AObj} {v:AV}:nh.dec H v=dS v:=rfl
def dF (f:FuncId):AV→Option Unit
 | .func (.func g) [] []=>if g=f then some () else none
 |_=>none
theorem dF_lit (f:FuncId):dF f (.func (.func f) [] [])=some ():=by simp [dF]
def tyF (f:FuncId):Ty Unit where
 enc _:= .func (.func f) [] []
 dec _:=dF f
 ok H n v x h:=by
  unfold dF at h
  split at h
  ·split at h
   ·rename_i e;subst e;exact Co.same ⟨trivial,trivial⟩
   ·cases h
  ·cases h
 nb _ _:=⟨trivial,trivial⟩
theorem tyF_enc {f:FuncId} {x:Unit}:(tyF f).enc x= .func (.func f) [] []:=rfl
theorem tyF_dec {f:FuncId} {H:List AObj} {v:AV}:(tyF f).dec H v=dF f v:=rfl
def Sl (n:Int):List AV:=[.int .i64 n]
def mo (s:Str):List AV:=[.str (sb s)]
def Wh (b:Bool):List AV:=[.bool b]
def Ze (n:Int):List AV:=[.int .u8 n]
def dI1 (k:IntKind):List AV→Option Int
 |[c]=>dI k c
 |_=>none
def dB1:List AV→Option Bool
 |[c]=>dB c
 |_=>none
def dS1:List AV→Option Str
 |[c]=>dS c
 |_=>none
def rowI:Row Int where
 enc:=Sl
 dec:=dI1 .i64
 sz:=1
 ok r x h:=by
  unfold dI1 at h
  split at h
  ·exact AW.cons (EU (H:=[]) (n:=0) h).toSub AW.nil
  ·cases h
 nb _ _:=⟨trivial,trivial⟩
def rowU:Row Int where
 enc:=Ze
 dec:=dI1 .u8
 sz:=1
 ok r x h:=by
  unfold dI1 at h
  split at h
  ·exact AW.cons (EU (H:=[]) (n:=0) h).toSub AW.nil
  ·cases h
 nb _ _:=⟨trivial,trivial⟩
def rowB:Row Bool where
 enc:=Wh
 dec:=dB1
 sz:=1
 ok r x h:=by
  unfold dB1 at h
  split at h
  ·exact AW.cons (dB_ok (H:=[]) (n:=0) h).toSub AW.nil
  ·cases h
 nb _ _:=⟨trivial,trivial⟩
def nq:Row Str where
 enc:=mo
 dec:=dS1
 sz:=1
 ok r x h:=by
  unfold dS1 at h
  split at h
  ·exact AW.cons (Wg (H:=[]) (n:=0) h).toSub AW.nil
  ·cases h
 nb _ _:=⟨trivial,trivial⟩
theorem rowI_f:rowI.enc=Sl∧rowI.dec=dI1 .i64∧rowI.sz=1:=⟨rfl,rfl,rfl⟩
theorem rowU_f:rowU.enc=Ze∧rowU.dec=dI1 .u8∧rowU.sz=1:=⟨rfl,rfl,rfl⟩
theorem rowB_f:rowB.enc=Wh∧rowB.dec=dB1∧rowB.sz=1:=⟨rfl,rfl,rfl⟩
theorem W5:nq.enc=mo∧nq.dec=dS1∧nq.sz=1:=⟨rfl,rfl,rfl⟩
theorem GI:(∀xs:List Int,mapO (dI1 .i64) (mp Sl xs)=some xs)∧(∀xs:List Int,mapO (dI1 .u8) (mp Ze xs)=some xs)∧(∀xs:List Bool,mapO dB1 (mp Wh xs)=some xs)∧ ∀xs:List Str,mapO dS1 (mp mo xs)=some xs:=
 ⟨Cm fun x=>by simp [dI1,Sl,dI],Cm fun x=>by simp [dI1,Ze,dI],Cm fun x=>rfl,Cm fun x=>rfl⟩
structure R0 (α:Type) where
 enc:α→List AV
 dec:List AObj→List AV→Option α
 ok: ∀H n cs x,dec H cs=some x→oN H n cs (enc x)
 nb: ∀n x,nbL n (enc x)
section cel
variable {α:Type}
def dC (c:R0 α) (H:List AObj):AV→Option α
 | .agg cs=>c.dec H cs
 |_=>none
def lK (c:R0 α):Ty α where
 enc x:= .agg (c.enc x)
 dec:=dC c
 ok H n v x h:=by
  unfold dC at h
  split at h
  ·exact .inr ⟨_,_,rfl,rfl,c.ok H n _ _ h⟩
  ·cases h
 nb n x:=c.nb n x
theorem tyC_enc {c:R0 α} {x:α}:(lK c).enc x= .agg (c.enc x):=rfl
theorem tyC_dec {c:R0 α} {H:List AObj} {v:AV}:(lK c).dec H v=dC c H v:=rfl
end cel
def tyU:Ty Unit where
 enc _:= .tup []
 dec _
  | .tup []=>some ()
  |_=>none
 ok H n v x h:=by
  split at h
  ·exact Co.same trivial
  ·cases h
 nb _ _:=trivial
theorem tyU_enc {x:Unit}:tyU.enc x= .tup []:=rfl
theorem tyU_dec {H:List AObj}:tyU.dec H (.tup [])=some ():=rfl
section tuples
variable {α β γ δ ε:Type}
def d2 (a:Ty α) (b:Ty β):AV→Option (α×β)
 | .tup [x,y]=>(a.dec [] x).bind fun u=>(b.dec [] y).bind fun v=>some (u,v)
 |_=>none
def d3 (a:Ty α) (b:Ty β) (c:Ty γ):AV→Option (α×β×γ)
 | .tup [x,y,z]=>(a.dec [] x).bind fun u=>(b.dec [] y).bind fun v=>(c.dec [] z).bind fun w=>some (u,v,w)
 |_=>none
def d4 (a:Ty α) (b:Ty β) (c:Ty γ) (d:Ty δ):AV→Option (α×β×γ×δ)
 | .tup [x,y,z,p]=>(a.dec [] x).bind fun u=>(b.dec [] y).bind fun v=>(c.dec [] z).bind fun w=>(d.dec [] p).bind fun q=>some (u,v,w,q)
 |_=>none
def d5 (a:Ty α) (b:Ty β) (c:Ty γ) (d:Ty δ) (e:Ty ε):AV→Option (α×β×γ×δ×ε)
 | .tup [x,y,z,p,s]=>(a.dec [] x).bind fun u=>(b.dec [] y).bind fun v=>(c.dec [] z).bind fun w=>(d.dec [] p).bind fun q=>(e.dec [] s).bind fun t=>some (u,v,w,q,t)
 |_=>none
def ty2 (a:Ty α) (b:Ty β):Ty (α×β) where
 enc x:= .tup [a.enc x.1,b.enc x.2]
 dec _:=d2 a b
 ok H n v x h:=by
  unfold d2 at h
  split at h
  ·simp only[fj,fk] at h
   obtain ⟨u,hu,w,hw,rfl⟩:=h
   exact Co.sub (Sub.tup (qJ.cons (a.ok [] 0 _ _ hu).toSub (qJ.cons (b.ok [] 0 _ _ hw).toSub qJ.nil))) ⟨a.nb n u,b.nb n w,trivial⟩
  ·cases h
 nb n x:=⟨a.nb n _,b.nb n _,trivial⟩
def ty3 (a:Ty α) (b:Ty β) (c:Ty γ):Ty (α×β×γ) where
 enc x:= .tup [a.enc x.1,b.enc x.2.1,c.enc x.2.2]
 dec _:=d3 a b c
 ok H n v x h:=by
  unfold d3 at h
  split at h
  ·simp only[fj,fk] at h
   obtain ⟨u,hu,w,hw,p,hp,rfl⟩:=h
   exact Co.sub (Sub.tup (qJ.cons (a.ok [] 0 _ _ hu).toSub (qJ.cons (b.ok [] 0 _ _ hw).toSub (qJ.cons (c.ok [] 0 _ _ hp).toSub qJ.nil)))) ⟨a.nb n u,b.nb n w,c.nb n p,trivial⟩
  ·cases h
 nb n x:=⟨a.nb n _,b.nb n _,c.nb n _,trivial⟩
def ty4 (a:Ty α) (b:Ty β) (c:Ty γ) (d:Ty δ):Ty (α×β×γ×δ) where
 enc x:= .tup [a.enc x.1,b.enc x.2.1,c.enc x.2.2.1,d.enc x.2.2.2]
 dec _:=d4 a b c d
 ok H n v x h:=by
  unfold d4 at h
  split at h
  ·simp only[fj,fk] at h
   obtain ⟨u,hu,w,hw,p,hp,q,hq,rfl⟩:=h
   exact Co.sub (Sub.tup (qJ.cons (a.ok [] 0 _ _ hu).toSub (qJ.cons (b.ok [] 0 _ _ hw).toSub (qJ.cons (c.ok [] 0 _ _ hp).toSub (qJ.cons (d.ok [] 0 _ _ hq).toSub qJ.nil))))) ⟨a.nb n u,b.nb n w,c.nb n p,d.nb n q,trivial⟩
  ·cases h
 nb n x:=⟨a.nb n _,b.nb n _,c.nb n _,d.nb n _,trivial⟩
def ty5 (a:Ty α) (b:Ty β) (c:Ty γ) (d:Ty δ) (e:Ty ε):Ty (α×β×γ×δ×ε) where
 enc x:= .tup [a.enc x.1,b.enc x.2.1,c.enc x.2.2.1,d.enc x.2.2.2.1,e.enc x.2.2.2.2]
 dec _:=d5 a b c d e
 ok H n v x h:=by
  unfold d5 at h
  split at h
  ·simp only[fj,fk] at h
   obtain ⟨u,hu,w,hw,p,hp,q,hq,s,hs,rfl⟩:=h
   exact Co.sub (Sub.tup (qJ.cons (a.ok [] 0 _ _ hu).toSub (qJ.cons (b.ok [] 0 _ _ hw).toSub (qJ.cons (c.ok [] 0 _ _ hp).toSub (qJ.cons (d.ok [] 0 _ _ hq).toSub (qJ.cons (e.ok [] 0 _ _ hs).toSub qJ.nil)))))) ⟨a.nb n u,b.nb n w,c.nb n p,d.nb n q,e.nb n s,trivial⟩
  ·cases h
 nb n x:=⟨a.nb n _,b.nb n _,c.nb n _,d.nb n _,e.nb n _,trivial⟩
theorem ty2_enc {a:Ty α} {b:Ty β} {x:α×β}:(ty2 a b).enc x= .tup [a.enc x.1,b.enc x.2]:=rfl
theorem ty2_dec {a:Ty α} {b:Ty β} {H:List AObj} {v:AV}:(ty2 a b).dec H v=d2 a b v:=rfl
theorem ty3_enc {a:Ty α} {b:Ty β} {c:Ty γ} {x:α×β×γ}:(ty3 a b c).enc x= .tup [a.enc x.1,b.enc x.2.1,c.enc x.2.2]:=rfl
theorem ty3_dec {a:Ty α} {b:Ty β} {c:Ty γ} {H:List AObj} {v:AV}:(ty3 a b c).dec H v=d3 a b c v:=rfl
theorem ty4_enc {a:Ty α} {b:Ty β} {c:Ty γ} {d:Ty δ} {x:α×β×γ×δ}:(ty4 a b c d).enc x= .tup [a.enc x.1,b.enc x.2.1,c.enc x.2.2.1,d.enc x.2.2.2]:=rfl
theorem ty4_dec {a:Ty α} {b:Ty β} {c:Ty γ} {d:Ty δ} {H:List AObj} {v:AV}:(ty4 a b c d).dec H v=d4 a b c d v:=rfl
theorem ty5_enc {a:Ty α} {b:Ty β} {c:Ty γ} {d:Ty δ} {e:Ty ε} {x:α×β×γ×δ×ε}:(ty5 a b c d e).enc x= .tup [a.enc x.1,b.enc x.2.1,c.enc x.2.2.1,d.enc x.2.2.2.1,e.enc x.2.2.2.2]:=rfl
theorem ty5_dec {a:Ty α} {b:Ty β} {c:Ty γ} {d:Ty δ} {e:Ty ε} {H:List AObj} {v:AV}:(ty5 a b c d e).dec H v=d5 a b c d e v:=rfl
end tuples
noncomputable def qT {ρ:Type} (P:Program) (rs:List ResultVar) (t:Ty ρ) (σ:AState):Option ρ:=
 bif σ.df.isEmpty then (Lx P σ rs).bind fun x=>pcond ((U6 0 σ.heap x).nb 0) (t.dec [] (U6 0 σ.heap x)) else none
theorem Wi {ρ:Type} {P:Program} {rs:List ResultVar} {t:Ty ρ} {σ:AState} {r:ρ} (h:qT P rs t σ=some r):σ.df=[]∧endV (fun v=>v=t.enc r) σ.heap (Lx P σ rs):=by
 unfold qT at h
 cases hd:σ.df with
 |cons p q=>rw[hd] at h;cases h
 |nil=>
 rw[hd] at h
 simp only[fT,cond_true] at h
 refine ⟨rfl,?_⟩
 cases hx:Lx P σ rs with
 |none=>rw[hx] at h;cases h
 |some x=>
  rw[hx] at h
  simp only[fI] at h
  rw[lV] at h
  exact ⟨h.1,_,(t.ok [] 0 _ _ h.2).toSub,rfl⟩
abbrev Ent:=List AV→List AObj→Option (AV×List AObj)
abbrev EntD:=List AV→Option AV
section entries
variable {α β γ δ ε ζ ρ:Type}
def ent0 (t:Ty ρ) (F:Option ρ):Ent
 |[],H=>F.bind fun r=>some (t.enc r,H)
 |_,_=>none
def qR (a:Ty α) (t:Ty ρ) (F:α→Option ρ):Ent
 |[x],H=>(a.dec H x).bind fun x=>(F x).bind fun r=>some (t.enc r,H)
 |_,_=>none
def yR (a:Ty α) (b:Ty β) (t:Ty ρ) (F:α→β→Option ρ):Ent
 |[x,y],H=>(a.dec H x).bind fun x=>(b.dec H y).bind fun y=>(F x y).bind fun r=>some (t.enc r,H)
 |_,_=>none
def Sm (a:Ty α) (b:Ty β) (c:Ty γ) (t:Ty ρ) (F:α→β→γ→Option ρ):Ent
 |[x,y,z],H=>(a.dec H x).bind fun x=>(b.dec H y).bind fun y=>(c.dec H z).bind fun z=>(F x y z).bind fun r=>some (t.enc r,H)
 |_,_=>none
def ent4 (a:Ty α) (b:Ty β) (c:Ty γ) (d:Ty δ) (t:Ty ρ) (F:α→β→γ→δ→Option ρ):Ent
 |[x,y,z,u],H=>(a.dec H x).bind fun x=>(b.dec H y).bind fun y=>(c.dec H z).bind fun z=>(d.dec H u).bind fun u=>(F x y z u).bind fun r=>some (t.enc r,H)
 |_,_=>none
def ent5 (a:Ty α) (b:Ty β) (c:Ty γ) (d:Ty δ) (e:Ty ε) (t:Ty ρ) (F:α→β→γ→δ→ε→Option ρ):Ent
 |[x,y,z,u,v],H=>(a.dec H x).bind fun x=>(b.dec H y).bind fun y=>(c.dec H z).bind fun z=>(d.dec H u).bind fun u=>(e.dec H v).bind fun v=>(F x y z u v).bind fun r=>some (t.enc r,H)
 |_,_=>none
def ent6 (a:Ty α) (b:Ty β) (c:Ty γ) (d:Ty δ) (e:Ty ε) (f:Ty ζ) (t:Ty ρ) (F:α→β→γ→δ→ε→ζ→Option ρ):Ent
 |[x,y,z,u,v,w],H=>(a.dec H x).bind fun x=>(b.dec H y).bind fun y=>(c.dec H z).bind fun z=>(d.dec H u).bind fun u=>(e.dec H v).bind fun v=>(f.dec H w).bind fun w=>(F x y z u v w).bind fun r=>some (t.enc r,H)
 |_,_=>none
noncomputable def rS (e:Ent):EntD:=fun args=>pcond (nbL 0 args) ((e args []).bind fun r=>some r.1)
def NH (P:Program) (f:FuncId) (e:Ent):Prop:= ∀args σ r H',e args σ.heap=some (r,H')→yO P f args σ (fun o C6=>o= .ret r∧C6=H')
def JH (P:Program) (f:FuncId) (e:EntD):Prop:= ∀args r,e args=some r→yP P f args (fun v=>v=r)
variable {P:Program} {f:FuncId} {a:Ty α} {b:Ty β} {c:Ty γ} {d:Ty δ} {e:Ty ε} {g:Ty ζ} {t:Ty ρ}
theorem ent0_ok {F:Option ρ} (h: ∀r,F=some r→yP P f [] (fun v=>v=t.enc r)):NH P f (ent0 t F):=by
 intro args σ r H' he
 unfold ent0 at he
 split at he
 ·simp only[fj,fk,fz] at he
  obtain ⟨r',hr,rfl,rfl⟩:=he
  exact Wc (n:=0) (h r' hr) B8.nil
 ·cases he
theorem pH {F:α→Option ρ} (h: ∀x r,F x=some r→yP P f [a.enc x] (fun v=>v=t.enc r)):NH P f (qR a t F):=by
 intro args σ r H' he
 unfold qR at he
 split at he
 ·simp only[fj,fk,fz] at he
  obtain ⟨x,hx,r',hr,rfl,rfl⟩:=he
  exact Wc (n:=0) (h x r' hr) (B8.cons (a.ok _ 0 _ _ hx) B8.nil)
 ·cases he
theorem qS {F:α→β→Option ρ} (h: ∀x y r,F x y=some r→yP P f [a.enc x,b.enc y] (fun v=>v=t.enc r)):NH P f (yR a b t F):=by
 intro args σ r H' he
 unfold yR at he
 split at he
 ·simp only[fj,fk,fz] at he
  obtain ⟨x,hx,y,hy,r',hr,rfl,rfl⟩:=he
  exact Wc (n:=0) (h x y r' hr) (B8.cons (a.ok _ 0 _ _ hx) (B8.cons (b.ok _ 0 _ _ hy) B8.nil))
 ·cases he
theorem Wj {F:α→β→γ→Option ρ} (h: ∀x y z r,F x y z=some r→yP P f [a.enc x,b.enc y,c.enc z] (fun v=>v=t.enc r)):NH P f (Sm a b c t F):=by
 intro args σ r H' he
 unfold Sm at he
 split at he
 ·simp only[fj,fk,fz] at he
  obtain ⟨x,hx,y,hy,z,hz,r',hr,rfl,rfl⟩:=he
  exact Wc (n:=0) (h x y z r' hr) (B8.cons (a.ok _ 0 _ _ hx) (B8.cons (b.ok _ 0 _ _ hy) (B8.cons (c.ok _ 0 _ _ hz) B8.nil)))
 ·cases he
theorem ent0_okD {F:Option ρ} (h: ∀r,F=some r→yP P f [] (fun w=>w=t.enc r)):JH P f (rS (ent0 t F)):=by
 intro args r he
 unfold rS at he
 rw[lV] at he
 obtain ⟨hnb,he⟩:=he
 unfold ent0 at he
 split at he
 ·simp only[fj,fk,Prod.exists,fz] at he
  obtain ⟨_,_,⟨r',hr,rfl,rfl⟩,rfl⟩:=he
  exact Yl (h r' hr) (qJ.nil) hnb
 ·cases he
theorem nG {F:α→Option ρ} (h: ∀x r,F x=some r→yP P f [a.enc x] (fun w=>w=t.enc r)):JH P f (rS (qR a t F)):=by
 intro args r he
 unfold rS at he
 rw[lV] at he
 obtain ⟨hnb,he⟩:=he
 unfold qR at he
 split at he
 ·simp only[fj,fk,Prod.exists,fz] at he
  obtain ⟨_,_,⟨x,hx,r',hr,rfl,rfl⟩,rfl⟩:=he
  exact Yl (h x r' hr) (qJ.cons (a.ok _ 0 _ _ hx).toSub qJ.nil) hnb
 ·cases he
theorem Ad {F:α→β→Option ρ} (h: ∀x y r,F x y=some r→yP P f [a.enc x,b.enc y] (fun w=>w=t.enc r)):JH P f (rS (yR a b t F)):=by
 intro args r he
 unfold rS at he
 rw[lV] at he
 obtain ⟨hnb,he⟩:=he
 unfold yR at he
 split at he
 ·simp only[fj,fk,Prod.exists,fz] at he
  obtain ⟨_,_,⟨x,hx,y,hy,r',hr,rfl,rfl⟩,rfl⟩:=he
  exact Yl (h x y r' hr) (qJ.cons (a.ok _ 0 _ _ hx).toSub (qJ.cons (b.ok _ 0 _ _ hy).toSub qJ.nil)) hnb
 ·cases he
theorem Mq {F:α→β→γ→Option ρ} (h: ∀x y z r,F x y z=some r→yP P f [a.enc x,b.enc y,c.enc z] (fun w=>w=t.enc r)):JH P f (rS (Sm a b c t F)):=by
 intro args r he
 unfold rS at he
 rw[lV] at he
 obtain ⟨hnb,he⟩:=he
 unfold Sm at he
 split at he
 ·simp only[fj,fk,Prod.exists,fz] at he
  obtain ⟨_,_,⟨x,hx,y,hy,z,hz,r',hr,rfl,rfl⟩,rfl⟩:=he
  exact Yl (h x y z r' hr) (qJ.cons (a.ok _ 0 _ _ hx).toSub (qJ.cons (b.ok _ 0 _ _ hy).toSub (qJ.cons (c.ok _ 0 _ _ hz).toSub qJ.nil))) hnb
 ·cases he
end entries
def oS:List (Nat×Ent)→FuncId→List AV→List AObj→Option (AV×List AObj)
 |[],_,_,_=>none
 |(g,e)::t,f,args,H=>if f=g then e args H else oS t f args H
def Pd:List (Nat×EntD)→FuncId→List AV→Option AV
 |[],_,_=>none
 |(g,e)::t,f,args=>if f=g then e args else Pd t f args
theorem kW {P:Program}: ∀f args (σ:AState) r H',oS [] f args σ.heap=some (r,H')→yO P f args σ (fun o C6=>o= .ret r∧C6=H'):=by
 intro f args σ r H' h;cases h
theorem kV {P:Program} {g:Nat} {e:Ent} {t:List (Nat×Ent)} (h1:NH P g e) (h2: ∀f args (σ:AState) r H',oS t f args σ.heap=some (r,H')→yO P f args σ (fun o C6=>o= .ret r∧C6=H')):
 ∀f args (σ:AState) r H',oS ((g,e)::t) f args σ.heap=some (r,H')→yO P f args σ (fun o C6=>o= .ret r∧C6=H'):=by
 intro f args σ r H' h
 simp only[oS] at h
 split at h
 ·rename_i hg;subst hg;exact h1 _ _ _ _ h
 ·exact h2 _ _ _ _ _ h
theorem kX {P:Program}: ∀f args r,Pd [] f args=some r→yP P f args (fun v=>v=r):=by
 intro f args r h;cases h
theorem s7 {P:Program} {g:Nat} {e:EntD} {t:List (Nat×EntD)} (h1:JH P g e) (h2: ∀f args r,Pd t f args=some r→yP P f args (fun v=>v=r)):
 ∀f args r,Pd ((g,e)::t) f args=some r→yP P f args (fun v=>v=r):=by
 intro f args r h
 simp only[Pd] at h
 split at h
 ·rename_i hg;subst hg;exact h1 _ _ h
 ·exact h2 _ _ _ h
structure NZ where
 f:List AObj→Nat→AV→Option AV
 ok: ∀H n v v',f H n v=some v'→Co H n v v'
structure ZO where
 f:List AObj→Nat→AObj→Option AObj
 ok: ∀H n x y,f H n x=some y→Mk H n x y
def zA:NZ:=⟨fun _ _ _=>some .any,fun _ _ _ _ h=>by cases h;exact Co.any⟩
noncomputable def zK:NZ:=⟨fun _ n v=>pcond (v.nb n) (some v),fun _ _ _ _ h=>by rw[lV] at h;obtain ⟨h1,h2⟩:=h;cases h2;exact Co.same h1⟩
def zT {α:Type} (t:Ty α):NZ:=⟨fun H _ v=>(t.dec H v).bind fun x=>some (t.enc x),fun H n v v' h=>by
 simp only[fj,fk] at h
 obtain ⟨x,hx,rfl⟩:=h
 exact t.ok H n v x hx⟩
theorem sub_lst_true {sz:Nat} {rows ug:List (List AV)} (hs:Qh rows ug):Sub (.l5 true sz rows) (.l5 true sz ug):=by
 rintro E v ⟨base,cap,hv,h1,h2,h3,h4,h5⟩
 refine ⟨base,cap,by rw[←hs.1];exact hv,by rw[←hs.1];exact h1,fun _=>by rw[←hs.1];exact h2 rfl,h3,fun a ha hne=>h4 a ha ?_,fun a ha=>hs.2 E sz _ _ (h5 a ha)⟩
 rintro rfl
 exact hne (fX hs.1.symm)
def dLt {α:Type} (r:Row α):AV→Option (List α)
 | .l5 true sz rows=>bif sz==r.sz then mapO r.dec rows else none
 |_=>none
def zL {α:Type} (r:Row α):NZ:=⟨fun _ _ v=>(dLt r v).bind fun x=>some (.l5 true r.sz (mp r.enc x)),fun H n v v' h=>by
 simp only[fj,fk] at h
 obtain ⟨x,hx,rfl⟩:=h
 unfold dLt at hx
 split at hx
 ·rename_i sz rows
  cases hz:(sz==r.sz) with
  |false=>rw[hz] at hx;cases hx
  |true=>
   rw[hz,cond_true] at hx
   obtain rfl:=beq_iff_eq.1 hz
   exact .inl (.inl ⟨sub_lst_true (JG hx).1,wj x⟩)
 ·cases hx⟩
theorem zL_f {α:Type} {r:Row α} {H:List AObj} {n:Nat} {v:AV}:(zL r).f H n v=(dLt r v).bind fun x=>some (.l5 true r.sz (mp r.enc x)):=rfl
theorem zA_f {H:List AObj} {n:Nat} {v:AV}:zA.f H n v=some .any:=rfl
theorem zK_f {H:List AObj} {n:Nat} {v:AV}:zK.f H n v=pcond (v.nb n) (some v):=rfl
theorem zT_f {α:Type} {t:Ty α} {H:List AObj} {n:Nat} {v:AV}:(zT t).f H n v=(t.dec H v).bind fun x=>some (t.enc x):=rfl
def XS:List NZ→List AObj→Nat→List AV→Option (List AV)
 |[],_,_,[]=>some []
 |z::zs,H,n,v::vs=>(z.f H n v).bind fun u=>(XS zs H n vs).bind fun us=>some (u::us)
 |_,_,_,_=>none
theorem Yo: ∀ {zs:List NZ} {H:List AObj} {n:Nat} {vs us:List AV},XS zs H n vs=some us→B8 H n vs us
 |[],_,_,[],us,h=>by simp only[XS,fk] at h;subst h;rfl
 |z::zs,H,n,v::vs,us,h=>by
  simp only[XS,fj,fk] at h
  obtain ⟨u,hu,ws,hws,rfl⟩:=h
  exact B8.cons (z.ok _ _ _ _ hu) (Yo hws)
 |[],_,_,_::_,_,h=>by simp [XS] at h
 |_::_,_,_,[],_,h=>by simp [XS] at h
def oD:ZO:=⟨fun _ _ _=>some .dead,fun _ _ _ _ h=>by cases h;exact .inl rfl⟩
noncomputable def oK:ZO:=⟨fun _ n x=>pcond (objNb n x) (some x),fun _ _ _ _ h=>by rw[lV] at h;obtain ⟨h1,h2⟩:=h;cases h2;exact .inr (.inl ⟨rfl,h1⟩)⟩
def oCf (zs:List NZ) (H:List AObj) (n:Nat):AObj→Option AObj
 | .cells cs=>(XS zs H n cs).bind fun ds=>some (.cells ds)
 |_=>none
def oC (zs:List NZ):ZO:=⟨oCf zs,fun H n x y h=>by
 unfold oCf at h
 split at h
 ·simp only[fj,fk] at h
  obtain ⟨ds,hd,rfl⟩:=h
  exact .inr (.inr (.inl ⟨_,_,rfl,rfl,Yo hd⟩))
 ·cases h⟩
def oTf {α:Type} (c:R0 α) (H:List AObj):AObj→Option AObj
 | .cells cs=>(c.dec H cs).bind fun x=>some (.cells (c.enc x))
 |_=>none
def oT {α:Type} (c:R0 α):ZO:=⟨fun H _=>oTf c H,fun H n x y h=>by
 unfold oTf at h
 split at h
 ·simp only[fj,fk] at h
  obtain ⟨z,hz,rfl⟩:=h
  exact .inr (.inr (.inl ⟨_,_,rfl,rfl,(c.ok H n _ _ hz).toCoL⟩))
 ·cases h⟩
def oAf {α:Type} (r:Row α):AObj→Option AObj
 | .acc pY sz rows=>(mapO r.dec rows).bind fun xs=>some (.acc pY sz (mp r.enc xs))
 |_=>none
def oA {α:Type} (r:Row α):ZO:=⟨fun _ _=>oAf r,fun H n x y h=>by
 unfold oAf at h
 split at h
 ·simp only[fj,fk] at h
  obtain ⟨xs,hx,rfl⟩:=h
  exact .inr (.inr (.inr (.inl ⟨_,_,_,_,rfl,rfl,(JG hx).2,wj xs⟩)))
 ·cases h⟩
theorem oD_f {H:List AObj} {n:Nat} {x:AObj}:oD.f H n x=some .dead:=rfl
theorem oK_f {H:List AObj} {n:Nat} {x:AObj}:oK.f H n x=pcond (objNb n x) (some x):=rfl
theorem oC_f {zs:List NZ} {H:List AObj} {n:Nat} {cs:List AV}:(oC zs).f H n (.cells cs)=(XS zs H n cs).bind fun ds=>some (.cells ds):=rfl
theorem oT_f {α:Type} {c:R0 α} {H:List AObj} {n:Nat} {cs:List AV}:(oT c).f H n (.cells cs)=(c.dec H cs).bind fun x=>some (.cells (c.enc x)):=rfl
theorem oA_f {α:Type} {r:Row α} {H:List AObj} {n:Nat} {pY:Bool} {sz:Nat} {rows:List (List AV)}:(oA r).f H n (.acc pY sz rows)=(mapO r.dec rows).bind fun xs=>some (.acc pY sz (mp r.enc xs)):=rfl
def zipO:List ZO→List AObj→Nat→List AObj→Option (List AObj)
 |[],_,_,_=>some []
 |z::zs,H,n,v::vs=>(z.f H n v).bind fun u=>(zipO zs H n vs).bind fun us=>some (u::us)
 |_::_,_,_,[]=>none
theorem zipO_ok: ∀ {zs:List ZO} {H:List AObj} {n:Nat} {vs us:List AObj},zipO zs H n vs=some us→Sb H n vs us∧us.length=zs.length
 |[],_,_,vs,us,h=>by simp only[zipO,fk] at h;subst h;exact ⟨Sb.nil,rfl⟩
 |z::zs,H,n,v::vs,us,h=>by
  simp only[zipO,fj,fk] at h
  obtain ⟨u,hu,ws,hws,rfl⟩:=h
  obtain ⟨h1,h2⟩:=zipO_ok hws
  exact ⟨⟨z.ok _ _ _ _ hu,h1⟩,by simp [h2]⟩
 |_::_,_,_,[],_,h=>by simp [zipO] at h
theorem dfNb_nil_eq {n:Nat}:dfNb n []=True:=eq_true Sc
theorem dfNb_cons_eq {n:Nat} {p:FuncId×List AV} {r:List (FuncId×List AV)}:dfNb n (p::r)=(nbL n p.2∧dfNb n r):=by
 apply propext
 constructor
 ·intro h;exact ⟨h p (by simp),fun q hq=>h q (by simp [hq])⟩
 ·rintro ⟨h1,h2⟩ q hq
  rcases fJ.1 hq with rfl|hq
  ·exact h1
  ·exact h2 q hq
noncomputable def nrmZ (zs:List NZ) (zo:List ZO) (σ:AState):Option AState:=
 (XS zs σ.heap zo.length σ.slots).bind fun ss=>(zipO zo σ.heap zo.length σ.heap).bind fun hs=>bif decide (σ.low≤zo.length) then pcond (dfNb zo.length σ.df) (some ⟨ss,hs,σ.low,σ.df⟩) else none
theorem nrmZ_ok {zs:List NZ} {zo:List ZO} {σ σ':AState} (h:nrmZ zs zo σ=some σ'):Gk σ σ':=by
 unfold nrmZ at h
 simp only[fj] at h
 obtain ⟨ss,h1,hs,h2,h3⟩:=h
 cases hl:decide (σ.low≤zo.length) with
 |false=>simp [hl] at h3
 |true=>
  simp only[hl,cond_true] at h3
  rw[lV] at h3
  obtain ⟨hdf,h3⟩:=h3
  simp only[fk] at h3
  subst h3
  obtain ⟨h4,h5⟩:=zipO_ok h2
  have hle:σ.low≤hs.length:=by rw[h5];exact of_decide_eq_true hl
  refine YO.imp ⟨⟨⟨rfl,hle⟩,rfl,by rw[h5];exact hdf⟩,?_,?_⟩
  ·show B8 σ.heap hs.length σ.slots ss
   rw[h5];exact Yo h1
  ·show Sb σ.heap hs.length σ.heap hs
   rw[h5];exact h4
def DZ (i sz:Nat) (pY:Bool) (σ:AState):AState:=
 match σ.slots[i]? with
 |some (.l5 true _ [])=>{slots:=σ.slots.set i (.acc σ.heap.length 0),heap:=σ.heap++[.acc pY sz []],low:=σ.low,df:=σ.df}
 |_=>σ
theorem Zf {i sz:Nat} {pY:Bool} {σ:AState}:Gk σ (DZ i sz pY σ):=by
 unfold DZ
 split
 ·rename_i s h
  exact ghostAcc h
 ·exact Gk.refl σ
end Go.Abs
namespace Go.Abs
section ghost
variable {C:Ctx} {φ:Nat→Value} {σ:AState} {a:Act} {w:World}
theorem Qm {cs ds:List AV} {h:Value} {b o:Nat}:(AObj.cells cs).muts h b o→(AObj.cells ds).muts h b o:=by
 intro hm
 cases h with
 |pointer p=>cases p<;>exact hm
 |_=>exact hm
theorem Kd {cs ds:List AV} {h:Value} {b:Nat}:(AObj.cells cs).block h b→(AObj.cells ds).block h b:=by
 intro hm
 cases h with
 |pointer p=>cases p<;>exact hm
 |_=>exact hm
theorem Qn {H:List AObj} {l:Nat} {cs ds:List AV} (hl:H[l]? =some (.cells cs)) {k:Nat} {x:AObj} (hx:(H.set l (.cells ds))[k]? =some x):(k=l∧x= .cells ds)∨(k≠l∧H[k]? =some x):=by
 by_cases e:k=l
 ·subst e
  have hlt:k<H.length:=(fo.1 hl).1
  rw[fq hlt] at hx
  cases hx;exact .inl ⟨rfl,rfl⟩
 ·rw[fy (fun h=>e h.symm)] at hx
  exact .inr ⟨e,hx⟩
theorem recell_env {l:Nat} {cs ds:List AV} (hl:σ.heap[l]? =some (.cells cs)):C.env φ (σ.heap.set l (.cells ds)) w=C.env φ σ.heap w:=by
 have hlt:l<σ.heap.length:=(fo.1 hl).1
 have UE: ∀b o,ET φ (σ.heap.set l (.cells ds)) b o↔ET φ σ.heap b o:=by
  intro b o
  constructor
  ·rintro ⟨k,x,hx,hm⟩
   rcases Qn hl hx with ⟨rfl,rfl⟩|⟨_,hx⟩
   ·exact ⟨k,_,hl,Qm hm⟩
   ·exact ⟨k,x,hx,hm⟩
  ·rintro ⟨k,x,hx,hm⟩
   by_cases e:k=l
   ·subst e
    rw[hl] at hx;cases hx
    exact ⟨k,_,fq hlt,Qm hm⟩
   ·exact ⟨k,x,by rw[fy (fun h=>e h.symm)];exact hx,hm⟩
 unfold Ctx.env
 congr 1
 ·funext b o
  exact propext (or_congr (UE b o) Iff.rfl)
 ·funext k
  by_cases e:k=l
  ·subst e;rw[fq hlt,hl];rfl
  ·rw[fy (fun h=>e h.symm)]
 ·exact fP
theorem mA.recell (S:mA C φ σ a w) {l:Nat} {cs ds:List AV} (hl:σ.heap[l]? =some (.cells cs)) (h: ∀b c t,φ l= .pointer (some ⟨b,0,none⟩)→w.heap[b]? =some (.cells c t (0,0))→k6 (C.env φ σ.heap w) cs c.toList→k6 (C.env φ σ.heap w) ds c.toList):
 mA C φ {σ with heap:=σ.heap.set l (.cells ds)} a w:=by
 have hlt:l<σ.heap.length:=(fo.1 hl).1
 have henv:C.env φ (σ.heap.set l (.cells ds)) w=C.env φ σ.heap w:=recell_env hl
 have Ch:rB C φ (σ.heap.set l (.cells ds)) w σ.df a.defers:=S.defers.step' (fun xs vs _ r=>by rw[henv];exact r) (fun _ _ _=>rfl) (fun k x b hx hb=>by
  rcases Qn hl hx with ⟨rfl,rfl⟩|⟨_,hx⟩
  ·exact .inl ⟨k,_,hl,Kd hb⟩
  ·exact .inl ⟨k,x,hx,hb⟩)
 refine {slots:= ?_,defers:=Ch,objs:= ?_,apart:= ?_,s6:= ?_,size:=S.size,old:=S.old,ni:=S.ni,C5:= ?_,vT:=S.vT,rest:=S.rest,low:=⟨S.low.1,by show σ.low≤(σ.heap.set l (.cells ds)).length;rw[fP];exact S.low.2⟩,names:= ?_}
 ·show k6 (C.env φ (σ.heap.set l (.cells ds)) w) σ.slots a.tmps.toList
  rw[henv];exact S.slots
 ·intro k x hx
  show nk (C.env φ (σ.heap.set l (.cells ds)) w) x (φ k)
  rw[henv]
  rcases Qn hl hx with ⟨rfl,rfl⟩|⟨_,hx⟩
  ·obtain ⟨b,c,t,h1,h2,h3,h4⟩:=S.objs k _ hl
   exact ⟨b,c,t,h1,h2,h b c t h1 h2 h3,h4⟩
  ·exact S.objs k x hx
 ·intro k k' x x' b hx hx' hb hb'
  rcases Qn hl hx with ⟨e1,rfl⟩|⟨_,h2⟩<;>rcases Qn hl hx' with ⟨e2,rfl⟩|⟨_,h3⟩
  ·rw[e1,e2]
  ·rw[e1] at hb ⊢;exact S.apart _ _ _ _ b hl h3 (Kd hb) hb'
  ·rw[e2] at hb' ⊢;exact S.apart _ _ _ _ b h2 hl hb (Kd hb')
  ·exact S.apart _ _ _ _ b h2 h3 hb hb'
 ·intro k x b o hx hb
  rcases Qn hl hx with ⟨rfl,rfl⟩|⟨_,hx⟩
  ·exact S.s6 _ _ b o hl (Kd hb)
  ·exact S.s6 _ _ b o hx hb
 ·intro k x b o hx hm hb
  rcases Qn hl hx with ⟨rfl,rfl⟩|⟨_,hx⟩
  ·exact S.C5 _ _ b o hl (Qm hm) hb
  ·exact S.C5 _ _ b o hx hm hb
 ·intro k hk
  have:=S.names k hk
  show (φ k=_∧(lN (σ.heap.set l (.cells ds))[k]? =_∨lN (σ.heap.set l (.cells ds))[k]? =none))∨((∃q,_∧ ∀k',lN (σ.heap.set l (.cells ds))[k]? =some k'→q<k')∧_)
  have e:lN (σ.heap.set l (.cells ds))[k]? =lN σ.heap[k]? :=by
   by_cases e:k=l
   ·subst e;rw[fq hlt,hl];rfl
   ·rw[fy (fun h=>e h.symm)]
  rw[e];exact this
theorem ghostCell {l off s sz:Nat} {cs:List AV} (hl:σ.heap[l]? =some (.cells cs)) (hc:cs[off]? =some (.l5 true s [])):
 Gk σ {slots:=σ.slots,heap:=σ.heap.set l (.cells (cs.set off (.acc σ.heap.length 0)))++[.acc true sz []],low:=σ.low,df:=σ.df}:=by
 intro C φ a w S
 have hlt:l<σ.heap.length:=(fo.1 hl).1
 obtain ⟨b,c,t,hφ,hh,rl,h1⟩:=S.objs l _ hl
 obtain ⟨v,hv,base,cap,rfl,_,hcap,_⟩:=rl.get hc
 have hcap:cap=0:=hcap rfl
 subst hcap
 have S':=S.Qf (pY:=true) (sz:=sz) (rows:=[]) (w':=w) (h':= .slice base 0 0) (fB _) (fun _ _=>rfl) (fun _=>rfl) ⟨rfl,rfl⟩ (by
  intro b hb
  cases base<;>simp [AObj.block] at hb) (fun E' _ _=>⟨base,0,rfl,fB _,fun _=>rfl,by simp,fun b _ h0=>absurd rfl h0⟩)
 refine ⟨(fun k=>if k=σ.heap.length then .slice base 0 0 else φ k),?_⟩
 have hl':(σ.heap++[AObj.acc true sz []])[l]? =some (.cells cs):=by rw[fF hlt];exact hl
 have S2:=S'.recell (l:=l) (cs:=cs) (ds:=cs.set off (.acc σ.heap.length 0)) hl' (by
  intro b2 c2 t2 h3 h4 r
  have e1:b2=b:=by
   have h3':(if l=σ.heap.length then Value.slice base 0 0 else φ l)= .pointer (some ⟨b2,0,none⟩):=h3
   rw[if_neg (by omega),hφ] at h3'
   simpa using h3'.symm
  subst e1
  rw[show w.heap[b2]? =some (.cells c t (0,0)) from hh] at h4
  simp only[fk,Obj.cells.injEq] at h4
  obtain ⟨rfl,_⟩:=h4
  have Vy:=k6.set (i:=off) (c:= .acc σ.heap.length 0) (v:= .slice base 0 0) r ⟨by simp [Ctx.env],⟨_,_,_,rfl⟩,fun k hk=>by
   simp only[Ctx.env,fE (fB _),Nat.sub_self,fS,lN,fk] at hk
   exact ⟨by simp,fun _=>by simp [Ctx.env]⟩⟩
  have hsame:c.toList.set off (.slice base 0 0)=c.toList:=by
   obtain ⟨hlt2,he⟩:=fo.1 hv
   have he':c.toList[off]= .slice base 0 0:=he
   rw[←he',List.set_getElem_self]
  rw[hsame] at Vy
  exact Vy)
 have Vy:(σ.heap++[AObj.acc true sz []]).set l (.cells (cs.set off (.acc σ.heap.length 0)))=σ.heap.set l (.cells (cs.set off (.acc σ.heap.length 0)))++[.acc true sz []]:=by
  rw[List.set_append_left _ _ hlt]
 rw[Vy] at S2
 exact S2
def gCell (l off sz:Nat) (σ:AState):AState:=
 match σ.heap[l]? with
 |some (.cells cs)=>match cs[off]? with
  |some (.l5 true _ [])=>{slots:=σ.slots,heap:=σ.heap.set l (.cells (cs.set off (.acc σ.heap.length 0)))++[.acc true sz []],low:=σ.low,df:=σ.df}
  |_=>σ
 |_=>σ
theorem gCell_ok {l off sz:Nat} {σ:AState}:Gk σ (gCell l off sz σ):=by
 unfold gCell
 split
 ·rename_i cs hl
  split
  ·rename_i s hc
   exact ghostCell hl hc
  ·exact Gk.refl σ
 ·exact Gk.refl σ
end ghost
structure DO where
 gs:List (Nat×Nat×Bool)
 gc:List (Nat×Nat×Nat)
 zs:List NZ
 zo:List ZO
 sel:Option Nat
 selm:Option (Nat×Nat)
def isLstS:Option AV→Bool
 |some (.l5 _ _ _)=>true
 |_=>false
def selO:Option Nat→AState→Bool
 |none,_=>true
 |some i,σ=>isLstS σ.slots[i]?
def isMapS (k:Nat):Option AV→Bool
 |some (.map k')=>k'==k
 |_=>false
def selM:Option (Nat×Nat)→AState→Bool
 |none,_=>true
 |some (i,k),σ=>isMapS k σ.slots[i]?
def gSlots:List (Nat×Nat×Bool)→AState→AState
 |[],σ=>σ
 |(i,sz,b)::r,σ=>gSlots r (DZ i sz b σ)
def Zg:List (Nat×Nat×Nat)→AState→AState
 |[],σ=>σ
 |(l,o,sz)::r,σ=>Zg r (gCell l o sz σ)
theorem gSlots_ok: ∀ {g:List (Nat×Nat×Bool)} {σ:AState},Gk σ (gSlots g σ)
 |[],σ=>Gk.refl σ
 |(_,_,_)::_,_=>Zf.trans gSlots_ok
theorem W6: ∀ {g:List (Nat×Nat×Nat)} {σ:AState},Gk σ (Zg g σ)
 |[],σ=>Gk.refl σ
 |(_,_,_)::_,_=>gCell_ok.trans W6
noncomputable def nrmN (N:DO) (σ:AState):Option AState:=nrmZ N.zs N.zo (Zg N.gc (gSlots N.gs σ))
theorem nrmN_ok {N:DO} {σ σ':AState} (h:nrmN N σ=some σ'):Gk σ σ':=(gSlots_ok.trans W6).trans (nrmZ_ok h)
noncomputable def vR:List (List Nat×DO)→List Nat→AState→Option AState
 |[],_,σ=>some σ
 |(q,N)::t,p,σ=>if p=q then (bif selO N.sel σ&&selM N.selm σ then nrmN N σ else vR t p σ) else vR t p σ
theorem rz: ∀ (t:List (List Nat×DO)) (p:List Nat) (σ σ':AState),vR t p σ=some σ'→Gk σ σ'
 |[],_,σ,σ',h=>by simp only[vR,fk] at h;subst h;exact Gk.refl _
 |(q,N)::t,p,σ,σ',h=>by
  simp only[vR] at h
  split at h
  ·cases hs:(selO N.sel σ&&selM N.selm σ) with
   |true=>rw[hs] at h;exact nrmN_ok h
   |false=>rw[hs] at h;exact rz t p σ σ' h
  ·exact rz t p σ σ' h
def ixA (σ:AState) (sz:Nat) (x i:AV):Option u7:=
 match x,i with
 | .l5 _ sz' rows,.int _ n=>if sz'=sz then (IX rows n).bind fun r=>some {val:= .pp r} else none
 | .acc l m,.int _ n=>match σ.heap[l]? with
   |some (.acc true sz' rows)=>if sz'=sz∧rows.length=m then (IX rows n).bind fun r=>some {val:= .pp r,rd:=[l]} else none
   |some (.acc false sz' rows)=>if sz'=sz∧rows.length=m then (IX rows n).bind fun _=>some {val:= .own l n.toNat m 0 sz,rd:=[l]} else none
   |_=>none
 |_,_=>none
def idxB (s:ByteArray) (n:Int):Option UInt8:=if 0≤n then s[n.toNat]? else none
def ixS (x i:AV):Option u7:=
 match x,i with
 | .str s,.int _ n=>(idxB s n).bind fun b=>some {val:= .int .u8 b.toNat}
 |_,_=>none
def ldA (P:Program) (σ:AState) (t:TypeId) (v:AV):Option u7:=
 match oQ P t,v with
 |some (g,n),.ptr l off=>match σ.heap[l]? with
  |some (.cells cs)=>(mg g n (cs.drop off)).bind fun v=>ldV σ.heap l v
  |_=>none
 |some (g,n),.pp cs=>(mg g n cs).bind fun v=>some {val:=v}
 |some (g,n),.own l i m o sz=>match σ.heap[l]? with
  |some (.acc false sz' rows)=>if sz'=sz∧rows.length=m then rows[i]?.bind fun r=>(mg g n (r.drop o)).bind fun v=>some {val:=v,rd:=[l]} else none
  |_=>none
 |some (false,_),.raw v=>Yx v
 |_,_=>none
def stA (P:Program) (σ:AState) (t:TypeId) (v:AV) (ys:Option (List AV)):Option u7:=
 match oQ P t,v,ys with
 |some (_,n),.ptr l off,some ys=>match σ.heap[l]? with
  |some (.cells cs)=>if ys.length=n∧off+n≤cs.length then some {val:= .any,rd:=[l],up:=[(l,.cells (splice cs off ys))]} else none
  |_=>none
 |some (_,n),.own l i m o sz,some ys=>match σ.heap[l]? with
  |some (.acc false sz' rows)=>if sz'=sz∧rows.length=m then rows[i]?.bind fun r=>if ys.length=n∧o+n≤sz then some {val:= .any,rd:=[l],up:=[(l,.acc false sz (rows.set i (splice r o ys)))]} else none else none
  |_=>none
 |_,_,_=>none
def selI (n:Int) (f:Nat→Option u7):Nat→Nat→Option u7
 |0,_=>none
 |c+1,i=>bif n==(i:Int) then f i else selI n f c (i+1)
theorem selI_eq {n:Int} {f:Nat→Option u7}: ∀ (c i:Nat),selI n f c i=if (i:Int)≤n∧n<(i:Int)+c then f n.toNat else none
 |0,i=>by rw[if_neg (by omega)];rfl
 |c+1,i=>by
  rw[selI,selI_eq c (i+1)]
  cases h:n==(i:Int) with
  |true=>
   have:=beq_iff_eq.1 h
   subst this
   rw[cond_true,if_pos (by omega:(i:Int)≤(i:Int)∧(i:Int)<(i:Int)+((c+1:Nat):Int)),Int.toNat_natCast]
  |false=>
   have:=beq_eq_false_iff_ne.1 h
   rw[cond_false]
   by_cases h2:(i:Int)≤n∧n<(i:Int)+((c+1:Nat):Int)
   ·rw[if_pos h2,if_pos (by omega)]
   ·rw[if_neg h2,if_neg (by omega)]
def ixP (len sz:Nat) (x i:AV):Option u7:=
 match x,i with
 | .ptr l off,.int _ n=>if len≤8 then selI n (fun i=>some {val:= .ptr l (off+i*sz)}) len 0 else if 0≤n∧n<len then some {val:= .ptr l (off+n.toNat*sz)} else none
 | .pp cs,.int _ n=>if 0≤n∧n<len then (Yw sz n.toNat cs).bind fun ds=>some {val:= .pp ds} else none
 | .raw (.pointer (some ⟨b,o,none⟩)),.int _ n=>if 0≤n∧n<len then some {val:= .raw (.pointer (some ⟨b,o+n.toNat*sz,none⟩))} else none
 |_,_=>none
def Lb (P:Program) (σ:AState):Op→Option u7
 | .indexAddr t x i=>match nU P t with
   |some (_,sz,_)=>ixA σ sz (σ.ev x) (σ.ev i)
   |none=>match tarr P t with
    |some (len,sz)=>ixP len sz (σ.ev x) (σ.ev i)
    |none=>none
 | .index t x i=>if va P t=true then ixS (σ.ev x) (σ.ev i) else none
 | .binOp op t x y ty=>match op with
   | .eql=>lA P σ (.binOp .eql t x y ty)
   | .neq=>lA P σ (.binOp .neq t x y ty)
   |op=>(binAV op (σ.ev x) (σ.ev y)).bind fun v=>some {val:=v}
 | .load t x=>ldA P σ t (σ.ev x)
 | .store t x y=>stA P σ t (σ.ev x) (cellsOf (σ.ev y))
 |o=>lA P σ o
theorem C3 (H:List AObj): ∀cs:List AV,nbL 0 cs→Vv H cs=some (cs,[])
 |[],_=>rfl
 |c::cs,h=>by
  have ih:=C3 H cs h.2
  cases c with
  |acc l n=>exact absurd h.1 (fV _)
  |_=>simp only[Vv,ih]
theorem pq (P:Program) (σ:AState) (o:Op):lA P σ o=Lb P σ o:=by
 cases o with
 |indexAddr t x i=>
  simp only[Lb]
  cases ht:nU P t with
  |none=>
   simp only[lA,ht]
   cases hr:tarr P t with
   |none=>rfl
   |some q=>
    obtain ⟨len,sz⟩:=q
    simp only
    unfold ixP
    split
    ·rename_i l off k n hx hi
     simp only[hx,hi]
     by_cases h8:len≤8
     ·rw[if_pos h8,selI_eq];simp
     ·rw[if_neg h8]
    ·rename_i cs k n hx hi
     simp only[hx,hi]
    ·rename_i b o k n hx hi
     simp only[hx,hi]
    ·rename_i h1 h2 h3
     split
     ·rename_i l off k n hx hi;exact absurd hi (h1 l off k n hx)
     ·rename_i cs k n hx hi;exact absurd hi (h2 cs k n hx)
     ·rename_i b o k n hx hi;exact absurd hi (h3 b o k n hx)
     ·rfl
  |some q=>
   obtain ⟨e,sz,b⟩:=q
   simp only[lA,ht]
   cases hx:σ.ev x<;>cases hi:σ.ev i<;>simp only[ixA]
   ·rename_i tt sz' rows k n
    by_cases h1:sz'=sz
    ·by_cases h2:0≤n
     ·simp only[h1,h2,and_self,if_true,IX]
      cases rows[n.toNat]? <;>rfl
     ·simp only[h1,h2,and_false,if_false,if_true,IX];rfl
    ·simp only[h1,false_and,if_false]
   ·rename_i l m k n
    cases hl:σ.heap[l]? with
    |none=>rfl
    |some ob=>
     cases ob with
     |acc pY sz' rows=>
      cases pY with
      |false=>
       simp only
       by_cases h1:sz'=sz
       ·by_cases h3:rows.length=m
        ·by_cases h2:0≤n
         ·by_cases h4:n<m
          ·have h5:n.toNat<rows.length:=by omega
           simp only[h1,h2,h3,h4,and_self,if_true,IX,fm h5];rfl
          ·have h5:rows.length≤n.toNat:=by omega
           simp only[h1,h2,h3,h4,and_false,if_false,and_self,if_true,IX,fU h5];rfl
         ·simp only[h1,h2,h3,and_false,false_and,if_false,and_self,if_true,IX];rfl
        ·simp only[h3,and_false,false_and,if_false]
       ·simp only[h1,false_and,if_false]
      |true=>
       simp only
       by_cases h1:sz'=sz
       ·by_cases h3:rows.length=m
        ·by_cases h2:0≤n
         ·simp only[h1,h2,h3,and_self,if_true,IX]
          cases rows[n.toNat]? <;>rfl
         ·simp only[h1,h2,h3,and_false,false_and,if_false,and_self,if_true,IX];rfl
        ·simp only[h3,and_false,if_false]
       ·simp only[h1,false_and,if_false]
     |_=>rfl
 |index t x i=>
  simp only[Lb,lA]
  cases ht:va P t
  ·cases hx:σ.ev x<;>cases hi:σ.ev i<;>simp
  ·cases hx:σ.ev x<;>cases hi:σ.ev i<;>simp only[ixS,if_true]
   rename_i s k n
   by_cases h2:0≤n
   ·simp only[h2,if_true,idxB]
    cases s[n.toNat]? <;>rfl
   ·simp only[h2,if_false,idxB];rfl
 |binOp op t x y ty=>
  cases op with
  |eql=>rfl
  |neq=>rfl
  |_=>
   simp only[Lb,lA]
   generalize binAV _ (σ.ev x) (σ.ev y)=q
   cases q<;>rfl
 |load t x=>
  simp only[Lb,lA,ldA]
  cases ht:oQ P t with
  |none=>rfl
  |some q=>
   obtain ⟨g,n⟩:=q
   cases hx:σ.ev x with
   |ptr l off=>
    cases hl:σ.heap[l]? with
    |none=>simp only[hl]
    |some ob=>
     cases ob with
     |cells cs=>
      simp only[hl]
      cases mg g n (cs.drop off)<;>rfl
     |_=>simp only[hl]
   |pp cs=>
    simp only
    cases mg g n cs<;>rfl
   |own l i m o sz=>
    cases hl:σ.heap[l]? with
    |none=>simp only[hl]
    |some ob=>
     cases ob with
     |acc pY sz' rows=>
      cases pY with
      |true=>simp only[hl]
      |false=>
       simp only[hl]
       split
       ·cases rows[i]? with
        |none=>rfl
        |some r=>
         simp only[fI]
         cases mg g n (r.drop o)<;>rfl
       ·rfl
     |_=>simp only[hl]
   |raw v=>cases g<;>rfl
   |_=>rfl
 |store t x y=>
  simp only[Lb,lA,stA]
  cases ht:oQ P t with
  |none=>rfl
  |some q=>
   obtain ⟨g,n⟩:=q
   cases hx:σ.ev x with
   |ptr l off=>
    cases cellsOf (σ.ev y) with
    |none=>rfl
    |some ys=>
     cases hl:σ.heap[l]? with
     |none=>simp only[hl]
     |some ob=>cases ob<;>simp only[hl]
   |own l i m o sz=>
    cases cellsOf (σ.ev y) with
    |none=>rfl
    |some ys=>
     cases hl:σ.heap[l]? with
     |none=>simp only[hl]
     |some ob=>
      cases ob with
      |acc pY sz' rows=>
       cases pY with
       |true=>simp only[hl]
       |false=>
        simp only[hl]
        split
        ·cases rows[i]? <;>rfl
        ·rfl
      |_=>simp only[hl]
   |_=>rfl
 |_=>rfl
end Go.Abs
namespace Go.Abs
section freeze
variable {C:Ctx} {φ:Nat→Value} {σ:AState} {a:Act} {w:World}
def rp1 (l:Nat) (cs:List AV):AV→AV
 | .ptr k off=>if k=l then .pp (cs.drop off) else .ptr k off
 |x=>x
def rpV (l:Nat) (cs:List AV):AV→AV
 | .ptr k off=>if k=l then .pp (cs.drop off) else .ptr k off
 | .func fn f c=> .func fn (f.map (rp1 l cs)) (c.map (rp1 l cs))
 |x=>x
def rpO (l:Nat) (cs:List AV):AObj→AObj
 | .cells ds=> .cells (ds.map (rpV l cs))
 |x=>x
noncomputable def fzOne (l:Nat) (σ:AState):Option AState:=
 match σ.heap[l]? with
 |some (.cells cs)=>pcond (nbL 0 cs∧σ.low≤l) (some {slots:=σ.slots.map (rpV l cs),heap:=(σ.heap.map (rpO l cs)).set l .dead,low:=σ.low,df:=σ.df})
 |_=>none
theorem rpO_muts {l:Nat} {cs:List AV} {x:AObj} {h:Value} {b o:Nat}:(rpO l cs x).muts h b o→x.muts h b o:=by
 cases x with
 |cells ds=>exact Qm
 |_=>exact id
theorem Pe {l:Nat} {cs:List AV} {x:AObj} {h:Value} {b:Nat}:(rpO l cs x).block h b→x.block h b:=by
 cases x with
 |cells ds=>exact Kd
 |_=>exact id
theorem rpO_len {l:Nat} {cs:List AV} {x:AObj}:lN (some (rpO l cs x))=lN (some x):=by
 cases x<;>rfl
theorem fz_get {H:List AObj} {l k:Nat} {cs:List AV} {y:AObj} (h:((H.map (rpO l cs)).set l .dead)[k]? =some y):(k=l∧y= .dead)∨(k≠l∧ ∃x,H[k]? =some x∧y=rpO l cs x):=by
 by_cases e:k=l
 ·subst e
  by_cases hk:k<H.length
  ·rw[fq (by simpa using hk)] at h;cases h;exact .inl ⟨rfl,rfl⟩
  ·rw[fU (by simp;omega)] at h;cases h
 ·rw[fy (fun h=>e h.symm),fN] at h
  cases hx:H[k]? with
  |none=>rw[hx] at h;cases h
  |some x=>rw[hx] at h;cases h;exact .inr ⟨e,x,rfl,rfl⟩
theorem fzOne_ok {l:Nat} {σ σ':AState} (h:fzOne l σ=some σ'):Gk σ σ':=by
 unfold fzOne at h
 split at h
 case h_2=>cases h
 rename_i cs hl
 rw[lV] at h
 obtain ⟨⟨hnb,EF⟩,h⟩:=h
 cases h
 intro C φ a w S
 refine ⟨φ,?_⟩
 have hlt:l<σ.heap.length:=(fo.1 hl).1
 obtain ⟨b0,c0,t0,hφ,hh,rl,hone⟩:=S.objs l _ hl
 let H':List AObj:=(σ.heap.map (rpO l cs)).set l .dead
 have hlen:H'.length=σ.heap.length:=by simp [H']
 have mL: ∀ (k:Nat) (y:AObj),H'[k]? =some y→(k=l∧y= .dead)∨(k≠l∧ ∃x,σ.heap[k]? =some x∧y=rpO l cs x):=fun k y hy=>fz_get hy
 have EE: ∀b o,ET φ H' b o→ET φ σ.heap b o:=by
  rintro b o ⟨k,y,hy,hm⟩
  rcases mL k y hy with ⟨_,rfl⟩|⟨_,x,hx,rfl⟩
  ·simp [AObj.muts] at hm
  ·exact ⟨k,x,hx,rpO_muts hm⟩
 have Xs: ∀k:Nat,lN H'[k]? =lN σ.heap[k]? :=by
  intro k
  by_cases e:k=l
  ·subst e
   simp only[H']
   rw[fq (by simpa using hlt),hl];rfl
  ·simp only[H']
   rw[fy (fun h=>e h.symm),fN]
   cases σ.heap[k]? with
   |none=>rfl
   |some x=>exact rpO_len
 have le:(C.env φ σ.heap w).Le σ.heap.length (C.env φ H' w):=
  Ctx.Bi (by rw[hlen];exact fB _) (fun k _=>⟨rfl,Xs k⟩) (fun b o u hm hc=>⟨fun h=>hm (h.imp (EE b o) id),hc⟩)
 have hfree: ∀o,¬ (ET φ H' b0 o∨C.A b0 o):=by
  rintro o (⟨k,y,hy,hm⟩|hA)
  ·rcases mL k y hy with ⟨_,rfl⟩|⟨hne,x,hx,rfl⟩
   ·simp [AObj.muts] at hm
   ·exact hne (S.apart k l x _ b0 hx hl (Pe (AObj.nu hm)) (by rw[hφ];rfl))
  ·exact S.s6 l _ b0 o hl (by rw[hφ];rfl) hA
 have rl':k6 (C.env φ H' w) cs c0.toList:=k6.mono le _ _ (sM (fY _) _ hnb) rl
 have hpp: ∀ (off:Nat) (v:Value),nO (C.env φ σ.heap w) (.ptr l off) v→nO (C.env φ H' w) (.pp (cs.drop off)) v:=by
  rintro off v ⟨_,b,hb,rfl⟩
  have e:b0=b:=by
   have hb':φ l= .pointer (some ⟨b,0,none⟩):=hb
   rw[hφ] at hb';simpa using hb'
  subst e
  refine ⟨b0,off,rfl,?_⟩
  have hd:=rl'.drop off
  have h1: ∀u∈c0.toList.drop off,u.oneCell'=true:=fun u hu=>hone u (List.mem_of_mem_drop hu)
  have hl2:=hd.length
  exact F9 (E:=C.env φ H' w) (c:=c0) (t:=t0) (fr:=(0,0)) hh _ off (fun o _ _=>hfree o) (by rw[gr (by omega)];exact hd) (by rw[gr (by omega)];exact h1)
 have h1: ∀ (x:AV) (v:Value),nO (C.env φ σ.heap w) x v→nO (C.env φ H' w) (rp1 l cs x) v:=by
  intro x v r
  cases x with
  |ptr k off=>
   simp only[rp1]
   split
   ·rename_i e;subst e;exact hpp off v r
   ·exact nO.mono le _ _ (nO.nb _ _ r) r
  |_=>exact nO.mono le _ _ (nO.nb _ _ r) r
 have hL1: ∀ (xs:List AV) (vs:List Value),k6 (C.env φ σ.heap w) xs vs→k6 (C.env φ H' w) (xs.map (rp1 l cs)) vs:=by
  intro xs
  induction xs with
  |nil=>intro vs r;exact r
  |cons x xs ih=>rintro _ ⟨u,us,rfl,r1,r2⟩;exact ⟨u,us,rfl,h1 x u r1,ih us r2⟩
 have hV: ∀ (x:AV) (v:Value),nO (C.env φ σ.heap w) x v→nO (C.env φ H' w) (rpV l cs x) v:=by
  intro x v r
  cases x with
  |ptr k off=>
   simp only[rpV]
   split
   ·rename_i e;subst e;exact hpp off v r
   ·exact nO.mono le _ _ (nO.nb _ _ r) r
  |func fn f c=>
   obtain ⟨f',c',hv,r1,r2⟩:=r
   exact ⟨f',c',hv,hL1 _ _ r1,hL1 _ _ r2⟩
  |_=>exact nO.mono le _ _ (nO.nb _ _ r) r
 have hLV: ∀ (xs:List AV) (vs:List Value),k6 (C.env φ σ.heap w) xs vs→k6 (C.env φ H' w) (xs.map (rpV l cs)) vs:=by
  intro xs
  induction xs with
  |nil=>intro vs r;exact r
  |cons x xs ih=>rintro _ ⟨u,us,rfl,r1,r2⟩;exact ⟨u,us,rfl,hV x u r1,ih us r2⟩
 have Ch:rB C φ H' w σ.df a.defers:=S.defers.step le (fun _ _ _=>rfl) (fun k y b hy hb=>by
  rcases mL k y hy with ⟨_,rfl⟩|⟨_,x,hx,rfl⟩
  ·simp [AObj.block] at hb
  ·exact .inl ⟨k,x,hx,Pe hb⟩)
 refine {slots:=hLV _ _ S.slots,defers:=Ch,objs:= ?_,apart:= ?_,s6:= ?_,size:=S.size,old:=S.old,ni:=S.ni,C5:= ?_,vT:=S.vT,rest:=S.rest,low:=⟨S.low.1,by show σ.low≤H'.length;rw[hlen];exact S.low.2⟩,names:= ?_}
 ·intro k y hy
  rcases mL k y hy with ⟨_,rfl⟩|⟨_,x,hx,rfl⟩
  ·exact trivial
  ·have r:=S.objs k x hx
   cases x with
   |cells ds=>
    obtain ⟨b,c,t,h1,h2,h3,h4⟩:=r
    exact ⟨b,c,t,h1,h2,hLV _ _ h3,h4⟩
   |_=>exact nk.mono r le (fun _ _=>rfl)
 ·intro k k' y y' b hy hy' hb hb'
  rcases mL k y hy with ⟨_,rfl⟩|⟨_,x,hx,rfl⟩
  ·simp [AObj.block] at hb
  ·rcases mL k' y' hy' with ⟨_,rfl⟩|⟨_,x',hx',rfl⟩
   ·simp [AObj.block] at hb'
   ·exact S.apart k k' x x' b hx hx' (Pe hb) (Pe hb')
 ·intro k y b o hy hb
  rcases mL k y hy with ⟨_,rfl⟩|⟨_,x,hx,rfl⟩
  ·simp [AObj.block] at hb
  ·exact S.s6 k x b o hx (Pe hb)
 ·intro k y b o hy hm hb
  rcases mL k y hy with ⟨_,rfl⟩|⟨_,x,hx,rfl⟩
  ·simp [AObj.muts] at hm
  ·exact S.C5 k x b o hx (rpO_muts hm) hb
 ·intro k hk
  have:=S.names k hk
  show (φ k=_∧(lN H'[k]? =_∨lN H'[k]? =none))∨((∃q,_∧ ∀k',lN H'[k]? =some k'→q<k')∧_)
  rw[Xs k];exact this
theorem Zh {sz:Nat} {rows:List (List AV)} {h:Value} {b o:Nat}:(AObj.acc true sz rows).muts h b o→(AObj.acc false sz rows).muts h b o:=by
 intro hm
 cases h with
 |slice base n cap=>
  cases base with
  |none=>exact hm
  |some a=>exact ⟨hm.1,fun h=>by cases h⟩
 |_=>exact hm
theorem mA.pY {C:Ctx} {φ:Nat→Value} {a:Act} {w:World} {σ:AState} {l sz:Nat} {rows:List (List AV)} (hl:σ.heap[l]? =some (.acc false sz rows)) (S:mA C φ σ a w):mA C φ {σ with heap:=σ.heap.set l (.acc true sz rows)} a w:=by
 have hlt:l<σ.heap.length:=(fo.1 hl).1
 let H':List AObj:=σ.heap.set l (.acc true sz rows)
 have hlen:H'.length=σ.heap.length:=by simp [H']
 have mL: ∀ (k:Nat) (y:AObj),H'[k]? =some y→(k=l∧y= .acc true sz rows)∨σ.heap[k]? =some y:=by
  intro k y hy
  by_cases e:k=l
  ·subst e
   simp only[H'] at hy
   rw[fq hlt] at hy;cases hy;exact .inl ⟨rfl,rfl⟩
  ·simp only[H'] at hy
   rw[fy (fun h=>e h.symm)] at hy;exact .inr hy
 have EE: ∀b o,ET φ H' b o→ET φ σ.heap b o:=by
  rintro b o ⟨k,y,hy,hm⟩
  rcases mL k y hy with ⟨rfl,rfl⟩|hx
  ·exact ⟨k,_,hl,Zh hm⟩
  ·exact ⟨k,y,hx,hm⟩
 have Xs: ∀k:Nat,lN H'[k]? =lN σ.heap[k]? :=by
  intro k
  by_cases e:k=l
  ·subst e
   simp only[H']
   rw[fq hlt,hl];rfl
  ·simp only[H']
   rw[fy (fun h=>e h.symm)]
 have le:(C.env φ σ.heap w).Le σ.heap.length (C.env φ H' w):=
  Ctx.Bi (by rw[hlen];exact fB _) (fun k _=>⟨rfl,Xs k⟩) (fun b o u hm hc=>⟨fun h=>hm (h.imp (EE b o) id),hc⟩)
 have DS: ∀ {h:Value} {b:Nat},(AObj.acc true sz rows).block h b→(AObj.acc false sz rows).block h b:=by
  intro h b hb
  cases h with
  |slice base n cap=>cases base<;>exact hb
  |_=>exact hb
 have hblk2: ∀ (k:Nat) (y:AObj) (b:Nat),H'[k]? =some y→y.block (φ k) b→ ∃x,σ.heap[k]? =some x∧x.block (φ k) b:=by
  intro k y b hy hb
  rcases mL k y hy with ⟨rfl,rfl⟩|hx
  ·exact ⟨_,hl,DS hb⟩
  ·exact ⟨y,hx,hb⟩
 have Ch:rB C φ H' w σ.df a.defers:=S.defers.step le (fun _ _ _=>rfl) (fun k y b hy hb=>by
  obtain ⟨x,hx,hb'⟩:=hblk2 k y b hy hb
  exact .inl ⟨k,x,hx,hb'⟩)
 refine {slots:=k6.mono le _ _ (k6.nb _ _ S.slots) S.slots,defers:=Ch,objs:= ?_,apart:= ?_,s6:= ?_,size:=S.size,old:=S.old,ni:=S.ni,C5:= ?_,vT:=S.vT,rest:=S.rest,low:=⟨S.low.1,by show σ.low≤H'.length;rw[hlen];exact S.low.2⟩,names:= ?_}
 ·intro k y hy
  rcases mL k y hy with ⟨rfl,rfl⟩|hx
  ·have r:nk (C.env φ H' w) (.acc false sz rows) (φ k):=nk.mono (S.objs k _ hl) le (fun _ _=>rfl)
   exact r
  ·exact nk.mono (S.objs k y hx) le (fun _ _=>rfl)
 ·intro k k' y y' b hy hy' hb hb'
  obtain ⟨x,hx,VW⟩:=hblk2 k y b hy hb
  obtain ⟨x',hx',hb2⟩:=hblk2 k' y' b hy' hb'
  exact S.apart k k' x x' b hx hx' VW hb2
 ·intro k y b o hy hb
  obtain ⟨x,hx,VW⟩:=hblk2 k y b hy hb
  exact S.s6 k x b o hx VW
 ·intro k y b o hy hm hb
  rcases mL k y hy with ⟨rfl,rfl⟩|hx
  ·exact S.C5 k _ b o hl (Zh hm) hb
  ·exact S.C5 k y b o hx hm hb
 ·intro k hk
  have:=S.names k hk
  show (φ k=_∧(lN H'[k]? =_∨lN H'[k]? =none))∨((∃q,_∧ ∀k',lN H'[k]? =some k'→q<k')∧_)
  rw[Xs k];exact this
theorem imp_imm {σ:AState} {l sz:Nat} {rows:List (List AV)} (hl:σ.heap[l]? =some (.acc false sz rows)):Gk σ {σ with heap:=σ.heap.set l (.acc true sz rows)}:=fun _ φ _ _ S=>⟨φ,mA.pY hl S⟩
def immO (σ:AState) (l:Nat):Option AObj→AState
 |some (.acc false sz rows)=>{σ with heap:=σ.heap.set l (.acc true sz rows)}
 |_=>σ
theorem immO_ok {σ:AState} {l:Nat}:Gk σ (immO σ l σ.heap[l]?):=by
 unfold immO
 split
 ·rename_i h;exact imp_imm h
 ·exact Gk.refl _
def XT (σ:AState):Option AV→AState
 |some (.acc l _)=>immO σ l σ.heap[l]?
 |_=>σ
theorem immV_ok {σ:AState} {x:Option AV}:Gk σ (XT σ x):=by
 unfold XT
 split
 ·exact immO_ok
 ·exact Gk.refl _
theorem immV_low {σ:AState} {x:Option AV}:(XT σ x).low=σ.low:=by
 unfold XT immO
 split
 ·split<;>rfl
 ·rfl
theorem immV_df {σ:AState} {x:Option AV}:(XT σ x).df=σ.df:=by
 unfold XT immO
 split
 ·split<;>rfl
 ·rfl
theorem immV_f {σ:AState}:(∀l n,XT σ (some (.acc l n))=immO σ l σ.heap[l]?):=fun _ _=>rfl
theorem immO_f {σ:AState} {l:Nat}:(∀sz rows,immO σ l (some (.acc false sz rows))={σ with heap:=σ.heap.set l (.acc true sz rows)})∧(∀sz rows,immO σ l (some (.acc true sz rows))=σ):=⟨fun _ _=>rfl,fun _ _=>rfl⟩
end freeze
noncomputable def fzX (l:Nat) (σ:AState):Option AObj→Option AState
 |some (.acc _ _ _)=>some (immO σ l σ.heap[l]?)
 |_=>fzOne l σ
theorem fzX_ok {l:Nat} {σ σ':AState} {x:Option AObj} (h:fzX l σ x=some σ'):Gk σ σ':=by
 unfold fzX at h
 split at h
 ·simp only[fk] at h;subst h;exact immO_ok
 ·exact fzOne_ok h
noncomputable def fzAll:List Nat→AState→Option AState
 |[],σ=>some σ
 |l::ls,σ=>(fzX l σ σ.heap[l]?).bind (fzAll ls)
theorem fzX_f {l:Nat} {σ:AState}:(∀i s r,fzX l σ (some (.acc i s r))=some (immO σ l σ.heap[l]?))∧(∀cs,fzX l σ (some (.cells cs))=fzOne l σ):=⟨fun _ _ _=>rfl,fun _=>rfl⟩
theorem fzAll_ok: ∀ {ls:List Nat} {σ σ':AState},fzAll ls σ=some σ'→Gk σ σ'
 |[],σ,σ',h=>by simp only[fzAll,fk] at h;subst h;exact Gk.refl _
 |l::ls,σ,σ',h=>by
  simp only[fzAll,fj] at h
  obtain ⟨σ1,h1,h2⟩:=h
  exact (fzX_ok h1).trans (fzAll_ok h2)
noncomputable def UF:List (List Nat×List Nat)→List Nat→AState→Option AState
 |[],_,σ=>some σ
 |(q,ls)::t,p,σ=>if p=q then fzAll ls σ else UF t p σ
theorem rA: ∀ (t:List (List Nat×List Nat)) (p:List Nat) (σ σ':AState),UF t p σ=some σ'→Gk σ σ'
 |[],_,σ,σ',h=>by simp only[UF,fk] at h;subst h;exact Gk.refl _
 |(q,ls)::t,p,σ,σ',h=>by
  simp only[UF] at h
  split at h
  ·exact fzAll_ok h
  ·exact rA t p σ σ' h
section cels
def cI (k:IntKind):R0 Int where
 enc n:=[.int k n]
 dec _ cs:=dI1 k cs
 ok H n cs x h:=by
  unfold dI1 at h
  split at h
  ·exact oN.cons (EU h) oN.nil
  ·cases h
 nb _ _:=⟨trivial,trivial⟩
def cB:R0 Bool where
 enc b:=[.bool b]
 dec _ cs:=dB1 cs
 ok H n cs x h:=by
  unfold dB1 at h
  split at h
  ·exact oN.cons (dB_ok h) oN.nil
  ·cases h
 nb _ _:=⟨trivial,trivial⟩
def cS:R0 Str where
 enc s:=[.str (sb s)]
 dec _ cs:=dS1 cs
 ok H n cs x h:=by
  unfold dS1 at h
  split at h
  ·exact oN.cons (Wg h) oN.nil
  ·cases h
 nb _ _:=⟨trivial,trivial⟩
variable {α β γ:Type}
def dL1 (r:Row α) (H:List AObj):List AV→Option (List α)
 |[c]=>dL r H c
 |_=>none
def cL (r:Row α):R0 (List α) where
 enc xs:=[.l5 false r.sz (mp r.enc xs)]
 dec:=dL1 r
 ok H n cs x h:=by
  unfold dL1 at h
  split at h
  ·exact oN.cons (Pc h) oN.nil
  ·cases h
 nb n xs:=⟨wj xs,trivial⟩
def dF1 (f:FuncId):List AV→Option Unit
 |[c]=>dF f c
 |_=>none
def cF (f:FuncId):R0 Unit where
 enc _:=[.func (.func f) [] []]
 dec _ cs:=dF1 f cs
 ok H n cs x h:=by
  unfold dF1 at h
  split at h
  ·unfold dF at h
   split at h
   ·split at h
    ·rename_i e;subst e;exact oN.cons (Co1.sub (Sub.refl _) ⟨trivial,trivial⟩) oN.nil
    ·cases h
   ·cases h
  ·cases h
 nb _ _:=⟨⟨trivial,trivial⟩,trivial⟩
theorem cI_f {k:IntKind}:(∀n,(cI k).enc n=[.int k n])∧ ∀H cs,(cI k).dec H cs=dI1 k cs:=⟨fun _=>rfl,fun _ _=>rfl⟩
theorem cB_f:(∀n,cB.enc n=[.bool n])∧ ∀H cs,cB.dec H cs=dB1 cs:=⟨fun _=>rfl,fun _ _=>rfl⟩
theorem cS_f:(∀n,cS.enc n=[.str (sb n)])∧ ∀H cs,cS.dec H cs=dS1 cs:=⟨fun _=>rfl,fun _ _=>rfl⟩
theorem cL_f {r:Row α}:(∀n,(cL r).enc n=[.l5 false r.sz (mp r.enc n)])∧ ∀H cs,(cL r).dec H cs=dL1 r H cs:=⟨fun _=>rfl,fun _ _=>rfl⟩
theorem cF_f {f:FuncId}:(∀n,(cF f).enc n=[.func (.func f) [] []])∧ ∀H cs,(cF f).dec H cs=dF1 f cs:=⟨fun _=>rfl,fun _ _=>rfl⟩
def dP (c:R0 α):AV→Option α
 | .pp cs=>c.dec [] cs
 |_=>none
theorem dP_ok {c:R0 α} {v:AV} {x:α} (h:dP c v=some x):Sub v (.pp (c.enc x)):=by
 unfold dP at h
 split at h
 ·exact Sub.pp (c.ok [] 0 _ _ h).toSub.subM
 ·cases h
def zZ (c:R0 α):Ty α where
 enc x:= .pp (c.enc x)
 dec _:=dP c
 ok H n v x h:=Co.sub (dP_ok h) (c.nb n x)
 nb n x:=c.nb n x
theorem tyP_enc {c:R0 α} {x:α}:(zZ c).enc x= .pp (c.enc x):=rfl
theorem tyP_dec {c:R0 α} {H:List AObj} {v:AV}:(zZ c).dec H v=dP c v:=rfl
def dK1 (f:FuncId) (a:Ty α):AV→Option α
 | .func (.func g) [] [x]=>if g=f then a.dec [] x else none
 |_=>none
def dK2 (f:FuncId) (a:Ty α) (b:Ty β):AV→Option (α×β)
 | .func (.func g) [] [x,y]=>if g=f then (a.dec [] x).bind fun u=>(b.dec [] y).bind fun v=>some (u,v) else none
 |_=>none
def dK3 (f:FuncId) (a:Ty α) (b:Ty β) (c:Ty γ):AV→Option (α×β×γ)
 | .func (.func g) [] [x,y,z]=>if g=f then (a.dec [] x).bind fun u=>(b.dec [] y).bind fun v=>(c.dec [] z).bind fun w=>some (u,v,w) else none
 |_=>none
def tyK1 (f:FuncId) (a:Ty α):Ty α where
 enc x:= .func (.func f) [] [a.enc x]
 dec _:=dK1 f a
 ok H n v x h:=by
  unfold dK1 at h
  split at h
  ·split at h
   ·rename_i e;subst e
    exact Co.sub (Sub.func qJ.nil (qJ.cons (a.ok [] 0 _ _ h).toSub qJ.nil)) ⟨trivial,a.nb n x,trivial⟩
   ·cases h
  ·cases h
 nb n x:=⟨trivial,a.nb n x,trivial⟩
def tyK2 (f:FuncId) (a:Ty α) (b:Ty β):Ty (α×β) where
 enc x:= .func (.func f) [] [a.enc x.1,b.enc x.2]
 dec _:=dK2 f a b
 ok H n v x h:=by
  unfold dK2 at h
  split at h
  ·split at h
   ·rename_i e;subst e
    simp only[fj,fk] at h
    obtain ⟨u,hu,w,hw,rfl⟩:=h
    exact Co.sub (Sub.func qJ.nil (qJ.cons (a.ok [] 0 _ _ hu).toSub (qJ.cons (b.ok [] 0 _ _ hw).toSub qJ.nil))) ⟨trivial,a.nb n u,b.nb n w,trivial⟩
   ·cases h
  ·cases h
 nb n x:=⟨trivial,a.nb n _,b.nb n _,trivial⟩
def tyK3 (f:FuncId) (a:Ty α) (b:Ty β) (c:Ty γ):Ty (α×β×γ) where
 enc x:= .func (.func f) [] [a.enc x.1,b.enc x.2.1,c.enc x.2.2]
 dec _:=dK3 f a b c
 ok H n v x h:=by
  unfold dK3 at h
  split at h
  ·split at h
   ·rename_i e;subst e
    simp only[fj,fk] at h
    obtain ⟨u,hu,w,hw,p,hp,rfl⟩:=h
    exact Co.sub (Sub.func qJ.nil (qJ.cons (a.ok [] 0 _ _ hu).toSub (qJ.cons (b.ok [] 0 _ _ hw).toSub (qJ.cons (c.ok [] 0 _ _ hp).toSub qJ.nil)))) ⟨trivial,a.nb n u,b.nb n w,c.nb n p,trivial⟩
   ·cases h
  ·cases h
 nb n x:=⟨trivial,a.nb n _,b.nb n _,c.nb n _,trivial⟩
theorem tyK1_f {f:FuncId} {a:Ty α}:(∀x,(tyK1 f a).enc x= .func (.func f) [] [a.enc x])∧ ∀H v,(tyK1 f a).dec H v=dK1 f a v:=⟨fun _=>rfl,fun _ _=>rfl⟩
theorem tyK2_f {f:FuncId} {a:Ty α} {b:Ty β}:(∀x,(tyK2 f a b).enc x= .func (.func f) [] [a.enc x.1,b.enc x.2])∧ ∀H v,(tyK2 f a b).dec H v=dK2 f a b v:=⟨fun _=>rfl,fun _ _=>rfl⟩
theorem tyK3_f {f:FuncId} {a:Ty α} {b:Ty β} {c:Ty γ}:(∀x,(tyK3 f a b c).enc x= .func (.func f) [] [a.enc x.1,b.enc x.2.1,c.enc x.2.2])∧ ∀H v,(tyK3 f a b c).dec H v=dK3 f a b c v:=⟨fun _=>rfl,fun _ _=>rfl⟩
end cels
end Go.Abs
namespace Go.Abs
section objs
variable {α β γ:Type}
structure OTy (α:Type) where
 enc:α→AObj
 dec:List AObj→AObj→Option α
 ok: ∀H n x y,dec H x=some y→Mk H n x (enc y)
 ren: ∀τ y,(enc y).ren τ=enc y
 nb: ∀n y,objNb n (enc y)
def daT (pY:Bool) (r:Row α):AObj→Option (List α)
 | .acc imm' sz rows=>if imm'=pY∧sz=r.sz then mapO r.dec rows else none
 |_=>none
def Zi (pY:Bool) (r:Row α):OTy (List α) where
 enc xs:= .acc pY r.sz (mp r.enc xs)
 dec _:=daT pY r
 ok H n x y h:=by
  unfold daT at h
  split at h
  ·split at h
   ·rename_i hc
    obtain ⟨rfl,rfl⟩:=hc
    exact .inr (.inr (.inr (.inl ⟨_,_,_,_,rfl,rfl,(JG h).2,wj y⟩)))
   ·cases h
  ·cases h
 ren τ y:=by simp only[AObj.ren];rw[sw τ _ (wj y)]
 nb n y:=wj y
def dcT (c:R0 α) (H:List AObj):AObj→Option α
 | .cells cs=>c.dec H cs
 |_=>none
def Ay (c:R0 α):OTy α where
 enc x:= .cells (c.enc x)
 dec:=dcT c
 ok H n x y h:=by
  unfold dcT at h
  split at h
  ·exact .inr (.inr (.inl ⟨_,_,rfl,rfl,(c.ok H n _ _ h).toCoL⟩))
  ·cases h
 ren τ y:=by simp only[AObj.ren];rw[pg τ _ (c.nb 0 y)]
 nb n y:=c.nb n y
theorem oaT_f {pY:Bool} {r:Row α}:(∀x,(Zi pY r).enc x= .acc pY r.sz (mp r.enc x))∧ ∀H x,(Zi pY r).dec H x=daT pY r x:=⟨fun _=>rfl,fun _ _=>rfl⟩
theorem ocT_f {c:R0 α}:(∀x,(Ay c).enc x= .cells (c.enc x))∧ ∀H x,(Ay c).dec H x=dcT c H x:=⟨fun _=>rfl,fun _ _=>rfl⟩
structure Pf (β:Type) where
 enc:β→List AObj
 dec:List AObj→List AObj→Option β
 ok: ∀H n xs b,dec H xs=some b→Sb H n xs (enc b)∧(enc b).length=xs.length
 ren: ∀τ b,∀y∈enc b,y.ren τ=y
 nb: ∀n b,∀y∈enc b,objNb n y
def vc:Pf Unit where
 enc _:=[]
 dec _
  |[]=>some ()
  |_=>none
 ok H n xs b h:=by
  split at h
  ·exact ⟨Sb.nil,rfl⟩
  ·cases h
 ren _ _:=by simp
 nb _ _:=by simp
def dosC (o:OTy γ) (s:Pf β) (H:List AObj):List AObj→Option (γ×β)
 |x::xs=>(o.dec H x).bind fun y=>(s.dec H xs).bind fun b=>some (y,b)
 |[]=>none
def wP (o:OTy γ) (s:Pf β):Pf (γ×β) where
 enc b:=o.enc b.1::s.enc b.2
 dec:=dosC o s
 ok H n xs b h:=by
  unfold dosC at h
  split at h
  ·simp only[fj,fk] at h
   obtain ⟨y,hy,b,hb,rfl⟩:=h
   obtain ⟨h1,h2⟩:=s.ok H n _ _ hb
   exact ⟨⟨o.ok H n _ _ hy,h1⟩,by simp [h2]⟩
  ·cases h
 ren τ b y hy:=by
  simp only[fJ] at hy
  rcases hy with rfl|hy
  ·exact o.ren τ _
  ·exact s.ren τ _ y hy
 nb n b y hy:=by
  simp only[fJ] at hy
  rcases hy with rfl|hy
  ·exact o.nb n _
  ·exact s.nb n _ y hy
theorem osN_f:(∀b,vc.enc b=[])∧ ∀H,vc.dec H []=some ():=⟨fun _=>rfl,fun _=>rfl⟩
theorem osC_f {o:OTy γ} {s:Pf β}:(∀b,(wP o s).enc b=o.enc b.1::s.enc b.2)∧ ∀H xs,(wP o s).dec H xs=dosC o s H xs:=⟨fun _=>rfl,fun _ _=>rfl⟩
structure EV (β α:Type) where
 enc:β→α→List AV
 dec:β→List AObj→List AV→Option α
 need:Nat
 ok: ∀b H n xs a,need≤n→dec b H xs=some a→B8 H n xs (enc b a)
def Ke:EV β Unit where
 enc _ _:=[]
 dec _ _
  |[]=>some ()
  |_=>none
 need:=0
 ok b H n xs a _ h:=by
  split at h
  ·exact B8.nil
  ·cases h
def drsT (t:Ty γ) (s:EV β α) (b:β) (H:List AObj):List AV→Option (γ×α)
 |x::xs=>(t.dec H x).bind fun y=>(s.dec b H xs).bind fun a=>some (y,a)
 |[]=>none
def NI (t:Ty γ) (s:EV β α):EV β (γ×α) where
 enc b a:=t.enc a.1::s.enc b a.2
 dec:=drsT t s
 need:=s.need
 ok b H n xs a hn h:=by
  unfold drsT at h
  split at h
  ·simp only[fj,fk] at h
   obtain ⟨y,hy,a,ha,rfl⟩:=h
   exact B8.cons (t.ok H n _ _ hy) (s.ok b H n _ _ hn ha)
  ·cases h
def drsA (k:Nat) (len:β→Nat) (s:EV β α) (b:β) (H:List AObj):List AV→Option α
 | .acc l m::xs=>if l=k∧m=len b then s.dec b H xs else none
 |_=>none
def rsA (k:Nat) (len:β→Nat) (s:EV β α):EV β α where
 enc b a:= .acc k (len b)::s.enc b a
 dec:=drsA k len s
 need:=max (k+1) s.need
 ok b H n xs a hn h:=by
  unfold drsA at h
  split at h
  ·split at h
   ·rename_i hc
    obtain ⟨rfl,rfl⟩:=hc
    exact B8.cons (Co.same (show _<n by omega)) (s.ok b H n _ _ (by omega) h)
   ·cases h
  ·cases h
theorem rsN_f:(∀ (b:β) a,Ke.enc b a=[])∧(∀ (b:β) H,Ke.dec b H []=some ())∧(Ke:EV β Unit).need=0:=⟨fun _ _=>rfl,fun _ _=>rfl,rfl⟩
theorem rsT_f {t:Ty γ} {s:EV β α}:(∀b a,(NI t s).enc b a=t.enc a.1::s.enc b a.2)∧(∀b H xs,(NI t s).dec b H xs=drsT t s b H xs)∧(NI t s).need=s.need:=⟨fun _ _=>rfl,fun _ _ _=>rfl,rfl⟩
theorem rsA_f {k:Nat} {len:β→Nat} {s:EV β α}:(∀b a,(rsA k len s).enc b a= .acc k (len b)::s.enc b a)∧(∀b H xs,(rsA k len s).dec b H xs=drsA k len s b H xs)∧(rsA k len s).need=max (k+1) s.need:=⟨fun _ _=>rfl,fun _ _ _=>rfl,rfl⟩
end objs
def s9:List AV→AV
 |[y]=>y
 |ys=> .tup ys
theorem Sb.take {H:List AObj} {n:Nat}: ∀ {xs ys:List AObj} (k:Nat),Sb H n (xs.take k) ys→Sb H n xs ys
 |_,[],_,_=>Sb.nil
 |[],_::_,k,h=>by cases k<;>exact h.elim
 |x::xs,y::ys,0,h=>h.elim
 |x::xs,y::ys,k+1,h=>⟨h.1,Sb.take k h.2⟩
section runG
variable {R:Type} {M:lF R}
def VD (σ σ':AState):Prop:= ∀ (C:Ctx) (φ:Nat→Value) (tmps:Array Value) (w:World),mA C φ σ {tmps,defers:=[]} w→ ∃φ',mA C φ' σ' {tmps,defers:=[]} w
theorem Gk.e {σ σ':AState} (h:Gk σ σ'):VD σ σ':=fun C φ tmps w S=>h C φ _ w S
theorem VD.trans {σ σ' σ'':AState} (h:VD σ σ') (h':VD σ' σ''):VD σ σ'':=fun C φ tmps w S=>
 let ⟨φ',S'⟩:=h C φ tmps w S
 h' C φ' tmps w S'
theorem Kf {P:Program} {rs:List ResultVar} {σ':AState} {xs ys:List AV} {H':List AObj} (hx:Ac P σ' rs=some xs) (himp:VD ⟨xs,σ'.heap,σ'.low,[]⟩ ⟨ys,H',σ'.low,[]⟩):W0 P rs (fun o C6=>o= .ret (s9 ys)∧C6=H') none σ':=by
 have key: ∃x,Lx P σ' rs=some x∧ ∃r C6,N9 σ' x r C6∧((ud.ret r)= .ret (s9 ys)∧C6=H'):=by
  have exp: ∀ (x:AV),(∀C φ a w,mA C φ σ' a w→ ∀v,nO (C.env φ σ'.heap w) x v→ ∃vs:List Value,k6 (C.env φ σ'.heap w) xs vs∧ ∀E,k6 E ys vs→nO E (s9 ys) v)→N9 σ' x (s9 ys) H':=by
   intro x Mg C φ a w S v hv
   obtain ⟨vs,hvs,Sa⟩:=Mg C φ a w S v hv
   have S0:mA C φ ⟨xs,σ'.heap,σ'.low,[]⟩ {tmps:=vs.toArray,defers:=[]} w:={S with slots:=by simpa using hvs,defers:=rB.nil}
   obtain ⟨φ',S1⟩:=himp C φ vs.toArray w S0
   exact ⟨φ',{S1 with slots:=rfl,defers:=rB.nil},Sa _ (by simpa using S1.slots)⟩
  unfold Lx
  rw[hx]
  match xs,hx,exp with
  |[x],hx,exp=>
   refine ⟨x,rfl,_,_,exp x ?_,rfl,rfl⟩
   intro C φ a w S v hv
   refine ⟨[v],⟨v,[],rfl,hv,rfl⟩,fun E hr=> ?_⟩
   have:=hr.length
   match ys,this,hr with
   |[y],_,⟨u,us,he,h1,h2⟩=>
    simp only[fM] at he
    obtain ⟨rfl,_⟩:=he
    exact h1
  |[],hx,exp=>
   refine ⟨.tup [],rfl,_,_,exp _ ?_,rfl,rfl⟩
   rintro C φ a w S v ⟨vs,rfl,hvs⟩
   refine ⟨vs.toList,hvs,fun E hr=> ?_⟩
   have h1:=hr.length
   have h2:=hvs.length
   match ys,hr,h1 with
   |[],hr,_=>exact ⟨vs,rfl,hr⟩
   |[_],hr,h1=>rw[h1] at h2;simp at h2
   |_::_::_,hr,h1=>rw[h1] at h2;simp at h2
  |x::x'::xs,hx,exp=>
   refine ⟨.tup (x::x'::xs),rfl,_,_,exp _ ?_,rfl,rfl⟩
   rintro C φ a w S v ⟨vs,rfl,hvs⟩
   refine ⟨vs.toList,hvs,fun E hr=> ?_⟩
   have h1:=hr.length
   have h2:=hvs.length
   match ys,hr,h1 with
   |[],hr,h1=>rw[h1] at h2;simp at h2
   |[_],hr,h1=>rw[h1] at h2;simp at h2
   |_::_::_,hr,_=>exact ⟨vs,rfl,hr⟩
 exact key
theorem gEnd_pan {P:Program} {rs:List ResultVar} {σ':AState} {x y:AV} {H':List AObj} (himp:VD ⟨[x],σ'.heap,σ'.low,[]⟩ ⟨[y],H',σ'.low,[]⟩):W0 P rs (fun o C6=>o= .panic y∧C6=H') (some x) σ':=by
 refine ⟨y,H',?_,rfl,rfl⟩
 intro C φ a w S v hv
 have S0:mA C φ ⟨[x],σ'.heap,σ'.low,[]⟩ {tmps:=[v].toArray,defers:=[]} w:={S with slots:=⟨v,[],rfl,hv,rfl⟩,defers:=rB.nil}
 obtain ⟨φ',S1⟩:=himp C φ _ w S0
 obtain ⟨u,us,he,h1,_⟩:=S1.slots
 simp only[fM] at he
 obtain ⟨rfl,_⟩:=he
 exact ⟨φ',{S1 with slots:=rfl,defers:=rB.nil},h1⟩
theorem Wk {f:FuncId} {fn:Func} {args:List AV} {H:List AObj} {V:ud→List AObj→Prop} {r:R} {n:Nat} {rs:List ResultVar} (G:Good M) (hf:M.P.funcs[f]? =some fn) (hb:fn.body=some M.body) (hne:(fn.name != "runtime.NumGoroutine")=true)
 (hnb:nbL H.length args) (Fc: ∀x∈H,objNb H.length x) (hn:fn.ntmps=n) (Oa:fn.results=rs.toArray)
 (hout: ∀σ,M.out σ=some r→Wf M.P (W0 M.P rs V) σ.df none σ) (houtP: ∀x σ,M.pJ x σ=some r→Wf M.P (W0 M.P rs V) σ.df (some x) σ)
 (h:run M [.at []] {slots:=args++fA (n-args.length) .any,heap:=H,low:=H.length}=some r):ZW M.P f args H V:=by
 refine fnG_of_body hf hb hne hnb Fc hn Oa ?_
 exact Qj G h (fun σ' hs=>⟨hout σ' hs,hout σ' hs⟩) houtP
theorem Dx {f:FuncId} {fn:Func} {args:List AV} {H:List AObj} {ys:List AV} {H':List AObj} {r:R} {n:Nat} {rs:List ResultVar} (G:Good M) (hf:M.P.funcs[f]? =some fn) (hb:fn.body=some M.body) (hne:(fn.name != "runtime.NumGoroutine")=true)
 (hnb:nbL H.length args) (Fc: ∀x∈H,objNb H.length x) (hn:fn.ntmps=n) (Oa:fn.results=rs.toArray)
 (hout: ∀σ,M.out σ=some r→σ.df=[]∧ ∃xs,Ac M.P σ rs=some xs∧VD ⟨xs,σ.heap,σ.low,[]⟩ ⟨ys,H',σ.low,[]⟩)
 (h:run M [.at []] {slots:=args++fA (n-args.length) .any,heap:=H,low:=H.length}=some r) (hP: ∀x σ',M.pJ x σ'=none:=by intros;rfl):ZW M.P f args H (fun o C6=>o= .ret (s9 ys)∧C6=H'):=by
 refine Wk G hf hb hne hnb Fc hn Oa (fun σ' hs=> ?_) (fun x σ' hx=>by rw[hP x σ'] at hx;cases hx) h
 obtain ⟨hd,xs,hx,himp⟩:=hout σ' hs
 rw[hd]
 exact Kf hx himp
end runG
section outG
variable {α β γ:Type}
def outG (P:Program) (rs:List ResultVar) (os:Pf β) (s:EV β α) (low:Nat) (σ:AState):Option (β×α):=
 (Ac P σ rs).bind fun xs=>(os.dec σ.heap (σ.heap.take low)).bind fun b=>(s.dec b σ.heap xs).bind fun a=>bif (σ.low==low)&&decide (s.need≤low)&&decide (low≤σ.heap.length)&&σ.df.isEmpty then some (b,a) else none
theorem Yp {P:Program} {rs:List ResultVar} {os:Pf β} {s:EV β α} {low:Nat} {σ:AState} {r:β×α} (h:outG P rs os s low σ=some r):
 σ.df=[]∧ ∃xs,Ac P σ rs=some xs∧VD ⟨xs,σ.heap,σ.low,[]⟩ ⟨s.enc r.1 r.2,os.enc r.1,σ.low,[]⟩:=by
 unfold outG at h
 simp only[fj] at h
 obtain ⟨xs,hx,b,hb,a,ha,h⟩:=h
 cases hc:((σ.low==low)&&decide (s.need≤low)&&decide (low≤σ.heap.length)&&σ.df.isEmpty) with
 |false=>simp [hc] at h
 |true=>
  simp only[hc,cond_true,fk] at h
  subst h
  simp only[fH,beq_iff_eq,decide_eq_true_eq] at hc
  obtain ⟨⟨⟨h1,h2⟩,h3⟩,h4⟩:=hc
  refine ⟨by simpa using h4,xs,hx,Gk.e (YO.imp (σ:=⟨xs,σ.heap,σ.low,[]⟩) (σ':=⟨s.enc b a,os.enc b,σ.low,[]⟩) ⟨⟨⟨rfl,?_⟩,rfl,Sc⟩,?_,?_⟩)⟩
  ·obtain ⟨_,h5⟩:=os.ok σ.heap 0 _ _ hb
   show σ.low≤(os.enc b).length
   rw[h5,gf];omega
  ·show B8 σ.heap (os.enc b).length xs (s.enc b a)
   obtain ⟨_,h5⟩:=os.ok σ.heap 0 _ _ hb
   exact s.ok b σ.heap _ xs a (by rw[h5,gf];omega) ha
  ·show Sb σ.heap (os.enc b).length σ.heap (os.enc b)
   exact Sb.take low (os.ok σ.heap _ _ _ hb).1
end outG
section callG
theorem Zj: ∀ (ls:List Nat) (G:List AObj) (ys:List AObj) (l:Nat) (z:AObj),l ∉ ls→(qb G ls ys).set l z=qb (G.set l z) ls ys
 |[],_,_,_,_,_=>by simp [qb]
 |_::_,_,[],_,_,_=>by simp [qb]
 |k::ls,G,y::ys,l,z,h=>by
  simp only[fJ,not_or] at h
  rw[qb,qb,Zj ls _ ys l z h.2,List.set_comm _ _ (fun e=>h.1 e.symm)]
theorem Oc: ∀ (ls:List Nat) (G:List AObj) (ys ys':List AObj),ls.Nodup→ls.length≤ys'.length→qb (qb G ls ys) ls ys'=qb G ls ys'
 |[],_,_,_,_,_=>by simp [qb]
 |_::_,_,_,[],_,h=>by simp at h
 |l::ls,G,[],y'::ys',hnd,h=>by simp [qb]
 |l::ls,G,y::ys,y'::ys',hnd,h=>by
  rw[fQ] at hnd
  simp only[fG,Nat.add_le_add_iff_right] at h
  simp only[qb]
  rw[Zj ls _ ys l y' hnd.1,List.set_set,Oc ls _ ys ys' hnd.2 h]
theorem Qo {H:List AObj} {n:Nat}: ∀ {xs ys:List AObj},(∀ (k:Nat) (y:AObj),ys[k]? =some y→ ∃x,xs[k]? =some x∧Mk H n x y)→Sb H n xs ys
 |_,[],_=>Sb.nil
 |[],y::ys,h=>by obtain ⟨x,hx,_⟩:=h 0 y (by simp);simp at hx
 |x::xs,y::ys,h=>by
  obtain ⟨x',hx,hc⟩:=h 0 y (by simp)
  simp at hx;subst hx
  exact ⟨hc,Qo fun k z hz=>by have:=h (k+1) z (by simpa using hz);simpa using this⟩
theorem B8.append {H:List AObj} {n:Nat}: ∀ {xs ys us vs:List AV},B8 H n xs ys→B8 H n us vs→B8 H n (xs++us) (ys++vs)
 |[],_,_,_,rfl,h=>h
 |_::_,_,_,_,⟨y,zs,rfl,h,hs⟩,h2=>⟨y,zs++_,rfl,h,B8.append hs h2⟩
theorem callG {P:Program} {f:FuncId} {σ:AState} {Kb args:List AV} {Ys Ys':List AObj} {r:AV} {ρ:List Nat} (hG:ZW P f args Ys (fun o H'=>o= .ret r∧H'=Ys')) (hnd:ρ.Nodup) (hlen:ρ.length=Ys.length) (hlen':ρ.length≤Ys'.length)
 (Hp: ∀ (i k:Nat),ρ[i]? =some k→ ∃x y,σ.heap[k]? =some x∧Ys[i]? =some y∧Mk σ.heap σ.heap.length x y) (hargs:B8 σ.heap σ.heap.length Kb (renL (mO ρ σ.heap.length) args))
 (hren: ∀y∈Ys++Ys',∀τ,y.ren τ=y):yO P f Kb σ (fun o H'=>o= .ret (r.ren (mO ρ σ.heap.length))∧H'=qb σ.heap ρ Ys'++Ys'.drop ρ.length):=by
 refine ⟨hG.1,fun C φ a w hP S vs hr=> ?_⟩
 let H1:=qb σ.heap ρ Ys
 have hl1:H1.length=σ.heap.length:=vU _ _ _
 have S0:mA C φ ⟨σ.slots++Kb,σ.heap,σ.low,σ.df⟩ {tmps:=a.tmps++vs,defers:=a.defers} w:={S with slots:=by simpa using S.slots.append hr,defers:=S.defers}
 have hat: ∀ (i k:Nat),ρ[i]? =some k→ ∃x y,σ.heap[k]? =some x∧Ys[i]? =some y∧Mk σ.heap σ.heap.length x y∧H1[k]? =some y:=by
  intro i k hi
  obtain ⟨x,y,hx,hy,hc⟩:=Hp i k hi
  exact ⟨x,y,hx,hy,hc,Pa ρ σ.heap Ys i k y hnd hi hy (fo.1 hx).1⟩
 have hw:YO ⟨σ.slots++Kb,σ.heap,σ.low,σ.df⟩ ⟨σ.slots++renL (mO ρ σ.heap.length) args,H1,σ.low,σ.df⟩:=by
  refine ⟨⟨⟨rfl,by show σ.low≤H1.length;rw[hl1];exact S.low.2⟩,rfl,by show dfNb H1.length σ.df;rw[hl1];exact J6.nb S.defers.2.2⟩,?_,?_⟩
  ·show B8 σ.heap H1.length _ _
   rw[hl1]
   exact B8.append (B8.same (k6.nb _ _ S.slots)) hargs
  ·show Sb σ.heap H1.length σ.heap H1
   rw[hl1]
   refine Qo fun k y hy=> ?_
   by_cases hk:k∈ρ
   ·obtain ⟨i,hi⟩:=gw hk
    obtain ⟨x,y',hx,_,hc,hy'⟩:=hat i k hi
    rw[hy'] at hy;cases hy
    exact ⟨x,hx,hc⟩
   ·have hy2:σ.heap[k]? =some y:=by rw[←hy];exact (EG ρ σ.heap Ys k hk).symm
    exact ⟨y,hy2,.inr (.inl ⟨rfl,O8 (S.objs k y hy2)⟩)⟩
 obtain ⟨φ',S1⟩:=hw.imp C φ _ w S0
 have UD:=S1.slots
 simp only[fO] at UD
 have hsz:a.tmps.toList.length=σ.slots.length:=S.slots.length
 have h1:=UD.take σ.slots.length
 have h2:=UD.drop σ.slots.length
 rw[fK rfl,fK hsz] at h1
 rw[fL rfl,fL hsz] at h2
 have S2:mA C φ' {σ with heap:=H1} a w:={S1 with slots:=h1,defers:=S1.defers}
 have ya:yO P f (renL (mO ρ H1.length) args) {σ with heap:=H1} (fun o H'=>o= .ret (r.ren (mO ρ H1.length))∧H'=qb σ.heap ρ Ys'++Ys'.drop ρ.length):=by
  refine callA_of_fnG (σ:={σ with heap:=H1}) hG ρ hlen hnd (qJ.refl _) ?_ ?_
  ·intro i k x hi hx
   obtain ⟨x',y,_,hy,_,hy'⟩:=hat i k hi
   rw[hy] at hx;cases hx
   show H1[k]? =some (x.ren _)
   rw[hy',hren x (gp.2 (.inl (fC hy)))]
  ·rintro o H' ⟨rfl,rfl⟩
   refine ⟨rfl,?_⟩
   have hid: ∀τ,H'.map (AObj.ren τ)=H':=by
    intro τ
    have:H'.map (AObj.ren τ)=H'.map id:=gA fun y hy=>hren y (gp.2 (.inr hy)) τ
    rw[this,List.map_id]
   have hid2: ∀τ,(H'.drop ρ.length).map (AObj.ren τ)=H'.drop ρ.length:=by
    intro τ;rw[List.map_drop,hid]
   show tw ρ H1 H'=_
   unfold tw
   rw[hid,hid2]
   simp only[H1]
   rw[Oc ρ σ.heap Ys H' hnd hlen']
 rw[hl1] at ya
 exact ya.2 C φ' a w hP S2 vs h2
end callG
end Go.Abs
namespace Go.Abs
section args
variable {α β γ:Type}
structure GJ (β α:Type) where
 enc:β→α→List AV
 dec:List Nat→β→List AObj→List AV→Option α
 ok: ∀ρ b H xs a,dec ρ b H xs=some a→B8 H H.length xs (renL (mO ρ H.length) (enc b a))
def L3:GJ β Unit where
 enc _ _:=[]
 dec _ _ _
  |[]=>some ()
  |_=>none
 ok ρ b H xs a h:=by
  split at h
  ·exact B8.nil
  ·cases h
def dasT (t:Ty γ) (s:GJ β α) (ρ:List Nat) (b:β) (H:List AObj):List AV→Option (γ×α)
 |x::xs=>(t.dec H x).bind fun y=>(s.dec ρ b H xs).bind fun a=>some (y,a)
 |[]=>none
def XB (t:Ty γ) (s:GJ β α):GJ β (γ×α) where
 enc b a:=t.enc a.1::s.enc b a.2
 dec:=dasT t s
 ok ρ b H xs a h:=by
  unfold dasT at h
  split at h
  ·simp only[fj,fk] at h
   obtain ⟨y,hy,a,ha,rfl⟩:=h
   refine B8.cons ?_ (s.ok ρ b H _ _ ha)
   rw[GF _ _ (t.nb 0 y)]
   exact t.ok H _ _ _ hy
  ·cases h
def dasP (k:Nat) (s:GJ β α) (ρ:List Nat) (b:β) (H:List AObj):List AV→Option α
 | .ptr l off::xs=>if off=0∧ρ[k]? =some l∧l<H.length then s.dec ρ b H xs else none
 |_=>none
theorem backTo_at {ρ:List Nat} {n k l:Nat} (h:ρ[k]? =some l):mO ρ n k=l:=by
 have hk:k<ρ.length:=(fo.1 h).1
 unfold mO
 rw[if_pos hk,gB,h];rfl
def Od (k:Nat) (s:GJ β α):GJ β α where
 enc b a:= .ptr k 0::s.enc b a
 dec:=dasP k s
 ok ρ b H xs a h:=by
  unfold dasP at h
  split at h
  ·split at h
   ·rename_i hc
    obtain ⟨rfl,hc,hl⟩:=hc
    refine B8.cons ?_ (s.ok ρ b H _ _ h)
    show Co H H.length _ (.ptr (mO ρ H.length k) 0)
    rw[backTo_at hc]
    exact Co.same hl
   ·cases h
  ·cases h
def dasA (k:Nat) (len:β→Nat) (s:GJ β α) (ρ:List Nat) (b:β) (H:List AObj):List AV→Option α
 | .acc l m::xs=>if m=len b∧ρ[k]? =some l∧l<H.length then s.dec ρ b H xs else none
 |_=>none
def asA (k:Nat) (len:β→Nat) (s:GJ β α):GJ β α where
 enc b a:= .acc k (len b)::s.enc b a
 dec:=dasA k len s
 ok ρ b H xs a h:=by
  unfold dasA at h
  split at h
  ·split at h
   ·rename_i hc
    obtain ⟨rfl,hc,hl⟩:=hc
    refine B8.cons ?_ (s.ok ρ b H _ _ h)
    show Co H H.length _ (.acc (mO ρ H.length k) _)
    rw[backTo_at hc]
    exact Co.same hl
   ·cases h
  ·cases h
theorem asN_f:(∀ (b:β) a,L3.enc b a=[])∧(∀ρ (b:β) H,L3.dec ρ b H []=some ()):=⟨fun _ _=>rfl,fun _ _ _=>rfl⟩
theorem asT_f {t:Ty γ} {s:GJ β α}:(∀b a,(XB t s).enc b a=t.enc a.1::s.enc b a.2)∧(∀ρ b H xs,(XB t s).dec ρ b H xs=dasT t s ρ b H xs):=⟨fun _ _=>rfl,fun _ _ _ _=>rfl⟩
theorem asP_f {k:Nat} {s:GJ β α}:(∀b a,(Od k s).enc b a= .ptr k 0::s.enc b a)∧(∀ρ b H xs,(Od k s).dec ρ b H xs=dasP k s ρ b H xs):=⟨fun _ _=>rfl,fun _ _ _ _=>rfl⟩
theorem asA_f {k:Nat} {len:β→Nat} {s:GJ β α}:(∀b a,(asA k len s).enc b a= .acc k (len b)::s.enc b a)∧(∀ρ b H xs,(asA k len s).dec ρ b H xs=dasA k len s ρ b H xs):=⟨fun _ _=>rfl,fun _ _ _ _=>rfl⟩
end args
def nameOf:AV→Option Nat
 | .ptr l _=>some l
 | .acc l _=>some l
 |_=>none
def nameAt (args:List AV) (i:Nat):Option Nat:=(args[i]?).bind nameOf
def nodupB:List Nat→Bool
 |[]=>true
 |x::xs=> !xs.contains x&&nodupB xs
theorem Mf: ∀ {xs:List Nat},nodupB xs=true→xs.Nodup
 |[],_=>List.nodup_nil
 |x::xs,h=>by
  simp only[nodupB,fH,Bool.not_eq_true',List.contains_eq_mem,decide_eq_false_iff_not] at h
  exact fQ.2 ⟨h.1,Mf h.2⟩
def XC (H:List AObj) (k:Nat):Option AObj:=H[k]?
section entG
variable {α β α' β':Type}
def entG (pos:List Nat) (os:Pf β) (as:GJ β α) (os':Pf β') (rs:EV β' α') (F:β→α→Option (β'×α')):Ent:=fun args H=>
 (mapO (nameAt args) pos).bind fun ρ=>bif nodupB ρ then (mapO (XC H) ρ).bind fun xs=>(os.dec H xs).bind fun b=>(as.dec ρ b H args).bind fun a=>(F b a).bind fun r=>
   bif decide (ρ.length≤(os'.enc r.1).length) then some ((s9 (rs.enc r.1 r.2)).ren (mO ρ H.length),qb H ρ (os'.enc r.1)++(os'.enc r.1).drop ρ.length) else none else none
theorem Pg {H:List AObj}: ∀ {ρ:List Nat} {xs:List AObj},mapO (XC H) ρ=some xs→ρ.length=xs.length∧ ∀ (i k:Nat),ρ[i]? =some k→ ∃x,xs[i]? =some x∧H[k]? =some x
 |[],xs,h=>by simp only[mapO,fk] at h;subst h;simp
 |k::ρ,xs,h=>by
  simp only[mapO,fj,fk] at h
  obtain ⟨x,hx,ys,hys,rfl⟩:=h
  obtain ⟨h1,h2⟩:=Pg hys
  refine ⟨by simp [h1],fun i q hi=> ?_⟩
  cases i with
  |zero=>simp at hi;subst hi;exact ⟨x,by simp,hx⟩
  |succ i=>simp at hi;obtain ⟨y,hy,hy'⟩:=h2 i q hi;exact ⟨y,by simpa using hy,hy'⟩
theorem oI {P:Program} {f:FuncId} {pos:List Nat} {os:Pf β} {as:GJ β α} {os':Pf β'} {rs:EV β' α'} {F:β→α→Option (β'×α')}
 (h: ∀b a r,F b a=some r→ZW P f (as.enc b a) (os.enc b) (fun o H'=>o= .ret (s9 (rs.enc r.1 r.2))∧H'=os'.enc r.1)):NH P f (entG pos os as os' rs F):=by
 intro args σ r H' he
 unfold entG at he
 simp only[fj] at he
 obtain ⟨ρ,_,he⟩:=he
 cases hnd:nodupB ρ with
 |false=>simp [hnd] at he
 |true=>
  simp only[hnd,cond_true,fj] at he
  obtain ⟨xs,hxs,b,hb,a,ha,q,hq,he⟩:=he
  cases hl:decide (ρ.length≤(os'.enc q.1).length) with
  |false=>simp [hl] at he
  |true=>
   simp only[hl,cond_true,fk,fz] at he
   obtain ⟨rfl,rfl⟩:=he
   obtain ⟨h1,h2⟩:=Pg hxs
   obtain ⟨h3,h4⟩:=os.ok σ.heap σ.heap.length _ _ hb
   refine callG (h b a q hq) (Mf hnd) (by rw[h1,h4]) (of_decide_eq_true hl) ?_ (as.ok ρ b σ.heap _ _ ha) ?_
   ·intro i k hi
    obtain ⟨x,hx,hx'⟩:=h2 i k hi
    have hlt:i<(os.enc b).length:=by rw[h4,←h1];exact (fo.1 hi).1
    obtain ⟨x2,Mg,hc⟩:=h3.get (fm hlt)
    rw[hx] at Mg;cases Mg
    exact ⟨x,_,hx',fm hlt,hc⟩
   ·intro y hy τ
    rcases gp.1 hy with hy|hy
    ·exact os.ren τ _ y hy
    ·exact os'.ren τ _ y hy
end entG
abbrev EntE:=List AV→List AObj→Option u7
section entE
variable {α α' β':Type}
theorem Co1L.toSub {n:Nat}: ∀ {xs ys:List AV},B8 [] n xs ys→qJ xs ys
 |[],_,rfl=>qJ.nil
 |_::_,_,⟨y,zs,rfl,h,hs⟩=>qJ.cons h.toSub (Co1L.toSub hs)
noncomputable def entE (as:GJ Unit α) (os':Pf β') (rs:EV β' α') (F:α→Option (β'×α')):EntE:=fun args H=>
 pcond (nbL 0 args) ((as.dec [] () [] args).bind fun a=>(F a).bind fun r=>bif (os'.enc r.1).isEmpty then none else some {val:=(s9 (rs.enc r.1 r.2)).ren (mO [] H.length),nw:=os'.enc r.1})
theorem entE_ok {P:Program} {f:FuncId} {as:GJ Unit α} {os':Pf β'} {rs:EV β' α'} {F:α→Option (β'×α')} (hnb: ∀a,nbL 0 (as.enc () a))
 (h: ∀a r,F a=some r→ZW P f (as.enc () a) [] (fun o H'=>o= .ret (s9 (rs.enc r.1 r.2))∧H'=os'.enc r.1)):
 ∀args σ e,entE as os' rs F args σ.heap=some e→DU P f args σ e:=by
 intro args σ e he
 unfold entE at he
 rw[lV] at he
 obtain ⟨hb,he⟩:=he
 simp only[fj] at he
 obtain ⟨a,ha,r,hr,he⟩:=he
 cases hemp:(os'.enc r.1).isEmpty with
 |true=>rw[hemp] at he;cases he
 |false=>
  rw[hemp,cond_false,fk] at he
  subst he
  have hne:os'.enc r.1≠[]:=by intro hn;rw[hn] at hemp;cases hemp
  refine ⟨⟨by simp,by simp⟩,fun σ' _ hlen _=> ?_⟩
  have hlen:=hlen hne
  have hsub:qJ args (as.enc () a):=by
   have:=Co1L.toSub (as.ok [] () [] args a ha)
   rw[pg _ _ (hnb a)] at this
   exact this
  have hG:=h a r hr
  have hG':ZW P f args [] (fun o H'=>o= .ret (s9 (rs.enc r.1 r.2))∧H'=os'.enc r.1):=
   ⟨hG.1,hb,hG.2.2.1,fun C φ w hP h0 hN hφ hM HS vs hr=>hG.2.2.2 C φ w hP h0 hN hφ hM HS vs (hsub _ _ hr)⟩
  have:=callG (σ:=σ') (Kb:=args) (ρ:=[]) hG' List.nodup_nil rfl (fY _) (by simp) (by rw[pg _ _ hb];exact B8.same (sM (fY _) _ hb)) (by
   intro y hy τ
   simp only[fW] at hy
   exact os'.ren τ _ y hy)
  rw[hlen] at this
  refine yO.mono this ?_
  rintro o H ⟨rfl,rfl⟩
  refine ⟨rfl,?_⟩
  show qb σ'.heap [] (os'.enc r.1)++_=σ'.heap++os'.enc r.1
  cases os'.enc r.1<;>rfl
noncomputable def entR (e:EntD):EntE:=fun args H=>(Vv H args).bind fun p=>(e p.1).bind fun r=>some {val:=r,rd:=p.2}
theorem entR_ok {P:Program} {f:FuncId} {e:EntD} (h:JH P f e): ∀ (args:List AV) (σ:AState) (ef:u7),entR e args σ.heap=some ef→DU P f args σ ef:=by
 intro args σ ef he
 simp only[entR,fj] at he
 obtain ⟨⟨ds,ns⟩,hv,r,hr,he⟩:=he
 cases he
 refine ⟨⟨fun l hl=>vwL_lt hv l hl,by simp⟩,fun σ' hrd _ _=> ?_⟩
 have hv':=Uw hv hrd
 obtain ⟨hen,hc⟩:=L2 (σ:=σ') (K:=fun o H'=>o= .ret r∧H'=σ'.heap) (h ds r hr) (by rintro _ rfl;exact ⟨rfl,rfl⟩)
 refine ⟨hen,fun C φ a w hP S vs rR=>(hc C φ a w hP S vs (JC S hv' rR)).mono ?_⟩
 rintro e' w' ⟨o,φ',H',⟨rfl,rfl⟩,h1,h2⟩
 exact ⟨_,φ',_,⟨rfl,by simp [l7]⟩,h1,h2⟩
def tabE:List (Nat×EntE)→FuncId→List AV→List AObj→Option u7
 |[],_,_,_=>none
 |(g,e)::t,f,args,H=>if f=g then e args H else tabE t f args H
def mU:List Nat→FuncId→Bool
 |[],_=>false
 |g::t,f=>f==g||mU t f
theorem wk {P:Program}: ∀ (f:FuncId) (args:List AV) (σ:AState) (e:u7),(fun _ _ _=>none:FuncId→List AV→List AObj→Option u7) f args σ.heap=some e→DU P f args σ e:=by
 intro f args σ e h;cases h
theorem tabE_cons_ok {P:Program} {g:Nat} {e:EntE} {t:List (Nat×EntE)} (h1: ∀args σ ef,e args σ.heap=some ef→DU P g args σ ef)
 (h2: ∀ (f:FuncId) (args:List AV) (σ:AState) (ef:u7),tabE t f args σ.heap=some ef→DU P f args σ ef): ∀ (f:FuncId) (args:List AV) (σ:AState) (ef:u7),tabE ((g,e)::t) f args σ.heap=some ef→DU P f args σ ef:=by
 intro f args σ ef h
 simp only[tabE] at h
 split at h
 ·rename_i hg;subst hg;exact h1 _ _ _ h
 ·exact h2 _ _ _ _ h
end entE
section handout
variable {C:Ctx} {φ:Nat→Value} {σ:AState} {a:Act} {w:World}
theorem Sn {xs:List AV} {H:List AObj} {low l:Nat} {y:AObj} (hl:H[l]? =some y) (EF:low≤l) (hnb: ∀z∈H.take low,objNb low z) (hy:objNb low y) (hr:nbL (low+1) (renL (outX low l) xs)):
 VD ⟨xs,H,low,[]⟩ ⟨renL (outX low l) xs,H.take low++[y],low,[]⟩:=by
 intro C φ tmps w S
 obtain ⟨φ',S',rR⟩:=export_one (σ:=⟨xs,H,low,[]⟩) (x:= .tup xs) hl EF hnb hy hr C φ _ w S (.tuple tmps) ⟨tmps,rfl,S.slots⟩
 obtain ⟨vs,hv,rl⟩:=rR
 simp only[Value.tuple.injEq] at hv
 subst hv
 exact ⟨φ',{S' with slots:=rl,defers:=rB.nil}⟩
variable {α γ:Type}
noncomputable def outH (P:Program) (rs:List ResultVar) (j:Nat) (r:Row γ) (s:EV (List γ×Unit) α) (σ:AState):Option ((List γ×Unit)×α):=
 bif σ.df.isEmpty then (Ac P σ rs).bind fun xs=>outH1 (XT (DZ j r.sz true ⟨xs,σ.heap,0,[]⟩) (DZ j r.sz true ⟨xs,σ.heap,0,[]⟩).slots[j]?) j r s σ.low else none
where
 outH1 (τ:AState) (j:Nat) (r:Row γ) (s:EV (List γ×Unit) α) (low:Nat):Option ((List γ×Unit)×α):=
  match τ.slots[j]? with
  |some (.acc l _)=>match τ.heap[l]? with
   |some y=>pcond (low=0∧objNb 0 y∧nbL 1 (renL (outX 0 l) τ.slots)) (((wP (Zi true r) vc).dec [y] [y]).bind fun b=>(s.dec b [y] (renL (outX 0 l) τ.slots)).bind fun a=>bif decide (s.need≤1) then some (b,a) else none)
   |none=>none
  |_=>none
theorem outH_ok {P:Program} {rs:List ResultVar} {j:Nat} {r:Row γ} {s:EV (List γ×Unit) α} {σ:AState} {q:(List γ×Unit)×α} (h:outH P rs j r s σ=some q):
 σ.df=[]∧ ∃xs,Ac P σ rs=some xs∧VD ⟨xs,σ.heap,σ.low,[]⟩ ⟨s.enc q.1 q.2,(wP (Zi true r) vc).enc q.1,σ.low,[]⟩:=by
 unfold outH at h
 cases hd0:σ.df with
 |cons p q=>rw[hd0] at h;cases h
 |nil=>
 rw[hd0] at h
 simp only[fT,cond_true] at h
 simp only[fj] at h
 obtain ⟨xs,hx,h⟩:=h
 refine ⟨rfl,xs,hx,?_⟩
 unfold outH.outH1 at h
 split at h
 case h_2=>cases h
 rename_i l m hs
 split at h
 case h_2=>cases h
 rename_i y hl
 rw[lV] at h
 obtain ⟨⟨EF,h1,h2⟩,h⟩:=h
 simp only[fj] at h
 obtain ⟨b,hb,a,ha,h⟩:=h
 cases hd:decide (s.need≤1) with
 |false=>simp [hd] at h
 |true=>
  simp only[hd,cond_true,fk] at h
  subst h
  rw[EF]
  have i1:Gk ⟨xs,σ.heap,0,[]⟩ (XT (DZ j r.sz true ⟨xs,σ.heap,0,[]⟩) (DZ j r.sz true ⟨xs,σ.heap,0,[]⟩).slots[j]?):=Zf.trans immV_ok
  have hlow0:(XT (DZ j r.sz true ⟨xs,σ.heap,0,[]⟩) (DZ j r.sz true ⟨xs,σ.heap,0,[]⟩).slots[j]?).low=0:=by rw[immV_low];unfold DZ;split<;>rfl
  have hdf0:(XT (DZ j r.sz true ⟨xs,σ.heap,0,[]⟩) (DZ j r.sz true ⟨xs,σ.heap,0,[]⟩).slots[j]?).df=[]:=by rw[immV_df];unfold DZ;split<;>rfl
  generalize hτ:XT (DZ j r.sz true ⟨xs,σ.heap,0,[]⟩) (DZ j r.sz true ⟨xs,σ.heap,0,[]⟩).slots[j]? =τ at*
  have i2:VD ⟨τ.slots,τ.heap,0,[]⟩ ⟨renL (outX 0 l) τ.slots,τ.heap.take 0++[y],0,[]⟩:=Sn hl (fY _) (by simp) h1 h2
  have e:τ=⟨τ.slots,τ.heap,0,[]⟩:=by cases τ;simp only at hlow0 hdf0;subst hlow0 hdf0;rfl
  rw[e] at i1
  refine (i1.e.trans i2).trans ?_
  simp only[gv,fW]
  obtain ⟨h5,h6⟩:=(wP (Zi true r) vc).ok [y] 1 _ _ hb
  refine Gk.e (YO.imp (σ:=⟨renL (outX 0 l) τ.slots,[y],0,[]⟩) (σ':=⟨s.enc b a,(wP (Zi true r) vc).enc b,0,[]⟩) ⟨⟨⟨rfl,fY _⟩,rfl,Sc⟩,?_,?_⟩)
  ·show B8 [y] ((wP (Zi true r) vc).enc b).length _ _
   rw[h6]
   exact s.ok b [y] 1 _ a (of_decide_eq_true hd) ha
  ·show Sb [y] ((wP (Zi true r) vc).enc b).length [y] _
   rw[h6]
   exact h5
end handout
end Go.Abs
namespace Go.Abs
def entGh (i:Nat) (pY:Bool) (sz:Nat) (e:Ent):Ent:=fun args H=>
 match args[i]? with
 |some (.l5 true _ [])=>e (args.set i (.acc H.length 0)) (H++[.acc pY sz []])
 |_=>e args H
theorem entGh_ok {P:Program} {f:FuncId} {i:Nat} {pY:Bool} {sz:Nat} {e:Ent} (h:NH P f e):NH P f (entGh i pY sz e):=by
 intro args σ r H' he
 unfold entGh at he
 split at he
 ·rename_i s hi
  have hc:=h (args.set i (.acc σ.heap.length 0)) {σ with heap:=σ.heap++[.acc pY sz []]} r H' he
  refine ⟨hc.1,fun C φ a w hP S vs hr=> ?_⟩
  have S0:mA C φ ⟨σ.slots++args,σ.heap,σ.low,σ.df⟩ {tmps:=a.tmps++vs,defers:=a.defers} w:={S with slots:=by simpa using S.slots.append hr,defers:=S.defers}
  have mL:(σ.slots++args)[σ.slots.length+i]? =some (.l5 true s []):=by
   rw[fE (by omega),gh];exact hi
  obtain ⟨φ',S1⟩:=ghostAcc (σ:=⟨σ.slots++args,σ.heap,σ.low,σ.df⟩) (sz:=sz) (pY:=pY) mL C φ _ w S0
  have Vy:(σ.slots++args).set (σ.slots.length+i) (.acc σ.heap.length 0)=σ.slots++args.set i (.acc σ.heap.length 0):=by
   rw[List.set_append_right _ _ (by omega),gh]
  have UD:=S1.slots
  simp only[Vy,fO] at UD
  have hsz:a.tmps.toList.length=σ.slots.length:=S.slots.length
  have h1:=UD.take σ.slots.length
  have h2:=UD.drop σ.slots.length
  rw[fK rfl,fK hsz] at h1
  rw[fL rfl,fL hsz] at h2
  have S2:mA C φ' {σ with heap:=σ.heap++[.acc pY sz []]} a w:={S1 with slots:=h1,defers:=S1.defers}
  exact hc.2 C φ' a w hP S2 vs h2
 ·exact h args σ r H' he
def W7 (e e':Ent):Ent:=fun args H=>(e args H).or (e' args H)
theorem entAlt_ok {P:Program} {f:FuncId} {e e':Ent} (h:NH P f e) (h':NH P f e'):NH P f (W7 e e'):=by
 intro args σ r H' he
 unfold W7 at he
 rw[Option.or_eq_some_iff] at he
 rcases he with he|⟨_,he⟩
 ·exact h args σ r H' he
 ·exact h' args σ r H' he
end Go.Abs
namespace Go.Abs
section
variable {R:Type} {M:lF R} {k:List Kt} {σ:AState}
theorem stepZ_move {ops:Array Oper} {dst:Option Tmp} {rest:List Oper} {x}:qQ M ops dst rest k σ (.move x)=pe M ops dst rest k σ (Lb M.P σ (.move x)):=by rw[←pq];rfl
theorem stepZ_assign {ops:Array Oper} {dst:Option Tmp} {rest:List Oper} {x}:qQ M ops dst rest k σ (.assign x)=pe M ops dst rest k σ (Lb M.P σ (.assign x)):=by rw[←pq];rfl
theorem stepZ_pick {ops:Array Oper} {dst:Option Tmp} {rest:List Oper} {c} {a} {b}:qQ M ops dst rest k σ (.pick c a b)=pe M ops dst rest k σ (Lb M.P σ (.pick c a b)):=by rw[←pq];rfl
theorem stepZ_alloc {ops:Array Oper} {dst:Option Tmp} {rest:List Oper} {t}:qQ M ops dst rest k σ (.alloc t)=pe M ops dst rest k σ (Lb M.P σ (.alloc t)):=by rw[←pq];rfl
theorem stepZ_box {ops:Array Oper} {dst:Option Tmp} {rest:List Oper} {t} {v}:qQ M ops dst rest k σ (.box t v)=pe M ops dst rest k σ (Lb M.P σ (.box t v)):=by rw[←pq];rfl
theorem stepZ_build {ops:Array Oper} {dst:Option Tmp} {rest:List Oper} {t} {ps}:qQ M ops dst rest k σ (.build t ps)=pe M ops dst rest k σ (Lb M.P σ (.build t ps)):=by rw[←pq];rfl
theorem W8 {ops:Array Oper} {dst:Option Tmp} {rest:List Oper} {t} {n} {ps}:qQ M ops dst rest k σ (.buildSlice t n ps)=pe M ops dst rest k σ (Lb M.P σ (.buildSlice t n ps)):=by rw[←pq];rfl
theorem stepZ_insert {ops:Array Oper} {dst:Option Tmp} {rest:List Oper} {m} {a} {b} {c}:qQ M ops dst rest k σ (.insert m a b c)=pe M ops dst rest k σ (Lb M.P σ (.insert m a b c)):=by rw[←pq];rfl
theorem stepZ_load {ops:Array Oper} {dst:Option Tmp} {rest:List Oper} {t} {a}:qQ M ops dst rest k σ (.load t a)=pe M ops dst rest k σ (Lb M.P σ (.load t a)):=by rw[←pq];rfl
theorem stepZ_store {ops:Array Oper} {dst:Option Tmp} {rest:List Oper} {t} {a} {v}:qQ M ops dst rest k σ (.store t a v)=pe M ops dst rest k σ (Lb M.P σ (.store t a v)):=by rw[←pq];rfl
theorem stepZ_ready {ops:Array Oper} {dst:Option Tmp} {rest:List Oper} {g}:qQ M ops dst rest k σ (.ready g)=pe M ops dst rest k σ (Lb M.P σ (.ready g)):=by rw[←pq];rfl
theorem stepZ_waits {ops:Array Oper} {dst:Option Tmp} {rest:List Oper} {g}:qQ M ops dst rest k σ (.waits g)=pe M ops dst rest k σ (Lb M.P σ (.waits g)):=by rw[←pq];rfl
theorem Zk {ops:Array Oper} {dst:Option Tmp} {rest:List Oper} {x}:qQ M ops dst rest k σ (.nilCheck x)=pe M ops dst rest k σ (Lb M.P σ (.nilCheck x)):=by rw[←pq];rfl
theorem stepZ_binOp {ops:Array Oper} {dst:Option Tmp} {rest:List Oper} {o} {t} {x} {y} {u}:qQ M ops dst rest k σ (.binOp o t x y u)=pe M ops dst rest k σ (Lb M.P σ (.binOp o t x y u)):=by rw[←pq];rfl
theorem stepZ_unOp {ops:Array Oper} {dst:Option Tmp} {rest:List Oper} {o} {t} {x}:qQ M ops dst rest k σ (.unOp o t x)=pe M ops dst rest k σ (Lb M.P σ (.unOp o t x)):=by rw[←pq];rfl
theorem stepZ_convert {ops:Array Oper} {dst:Option Tmp} {rest:List Oper} {s} {d} {x}:qQ M ops dst rest k σ (.convert s d x)=pe M ops dst rest k σ (Lb M.P σ (.convert s d x)):=by rw[←pq];rfl
theorem M9 {ops:Array Oper} {dst:Option Tmp} {rest:List Oper} {d} {x}:qQ M ops dst rest k σ (.sliceToArrayPointer d x)=pe M ops dst rest k σ (Lb M.P σ (.sliceToArrayPointer d x)):=by rw[←pq];rfl
theorem UG {ops:Array Oper} {dst:Option Tmp} {rest:List Oper} {t} {x}:qQ M ops dst rest k σ (.makeInterface t x)=pe M ops dst rest k σ (Lb M.P σ (.makeInterface t x)):=by rw[←pq];rfl
theorem Zl {ops:Array Oper} {dst:Option Tmp} {rest:List Oper} {f} {a} {b}:qQ M ops dst rest k σ (.makeFunc f a b)=pe M ops dst rest k σ (Lb M.P σ (.makeFunc f a b)):=by rw[←pq];rfl
theorem stepZ_makeMap {ops:Array Oper} {dst:Option Tmp} {rest:List Oper} {t} {r}:qQ M ops dst rest k σ (.makeMap t r)=pe M ops dst rest k σ (Lb M.P σ (.makeMap t r)):=by rw[←pq];rfl
theorem Zm {ops:Array Oper} {dst:Option Tmp} {rest:List Oper} {t} {x}:qQ M ops dst rest k σ (.makeChan t x)=pe M ops dst rest k σ (Lb M.P σ (.makeChan t x)):=by rw[←pq];rfl
theorem XU {ops:Array Oper} {dst:Option Tmp} {rest:List Oper} {t} {l} {c}:qQ M ops dst rest k σ (.makeSlice t l c)=pe M ops dst rest k σ (Lb M.P σ (.makeSlice t l c)):=by rw[←pq];rfl
theorem stepZ_slice {ops:Array Oper} {dst:Option Tmp} {rest:List Oper} {t} {x} {l} {h} {m}:qQ M ops dst rest k σ (.slice t x l h m)=pe M ops dst rest k σ (Lb M.P σ (.slice t x l h m)):=by rw[←pq];rfl
theorem XV {ops:Array Oper} {dst:Option Tmp} {rest:List Oper} {t} {x} {f}:qQ M ops dst rest k σ (.fieldAddr t x f)=pe M ops dst rest k σ (Lb M.P σ (.fieldAddr t x f)):=by rw[←pq];rfl
theorem stepZ_field {ops:Array Oper} {dst:Option Tmp} {rest:List Oper} {t} {x} {f}:qQ M ops dst rest k σ (.field t x f)=pe M ops dst rest k σ (Lb M.P σ (.field t x f)):=by rw[←pq];rfl
theorem XW {ops:Array Oper} {dst:Option Tmp} {rest:List Oper} {t} {x} {i}:qQ M ops dst rest k σ (.indexAddr t x i)=pe M ops dst rest k σ (Lb M.P σ (.indexAddr t x i)):=by rw[←pq];rfl
theorem stepZ_index {ops:Array Oper} {dst:Option Tmp} {rest:List Oper} {t} {x} {i}:qQ M ops dst rest k σ (.index t x i)=pe M ops dst rest k σ (Lb M.P σ (.index t x i)):=by rw[←pq];rfl
theorem stepZ_lookup {ops:Array Oper} {dst:Option Tmp} {rest:List Oper} {t} {x} {i} {b}:qQ M ops dst rest k σ (.lookup t x i b)=pe M ops dst rest k σ (Lb M.P σ (.lookup t x i b)):=by rw[←pq];rfl
theorem XX {ops:Array Oper} {dst:Option Tmp} {rest:List Oper} {t} {m} {kk} {v}:qQ M ops dst rest k σ (.mapUpdate t m kk v)=pe M ops dst rest k σ (Lb M.P σ (.mapUpdate t m kk v)):=by rw[←pq];rfl
theorem Zn {ops:Array Oper} {dst:Option Tmp} {rest:List Oper} {t} {m} {kk}:qQ M ops dst rest k σ (.mapEntry t m kk)=pe M ops dst rest k σ (Lb M.P σ (.mapEntry t m kk)):=by rw[←pq];rfl
theorem W9 {ops:Array Oper} {dst:Option Tmp} {rest:List Oper} {t} {m} {s} {v}:qQ M ops dst rest k σ (.entryStore t m s v)=pe M ops dst rest k σ (Lb M.P σ (.entryStore t m s v)):=by rw[←pq];rfl
theorem stepZ_range {ops:Array Oper} {dst:Option Tmp} {rest:List Oper} {t} {x}:qQ M ops dst rest k σ (.range t x)=pe M ops dst rest k σ (Lb M.P σ (.range t x)):=by rw[←pq];rfl
theorem stepZ_next {ops:Array Oper} {dst:Option Tmp} {rest:List Oper} {i} {b}:qQ M ops dst rest k σ (.next i b)=pe M ops dst rest k σ (Lb M.P σ (.next i b)):=by rw[←pq];rfl
theorem stepZ_entry {ops:Array Oper} {dst:Option Tmp} {rest:List Oper} {i}:qQ M ops dst rest k σ (.entry i)=pe M ops dst rest k σ (Lb M.P σ (.entry i)):=by rw[←pq];rfl
theorem Xa {ops:Array Oper} {dst:Option Tmp} {rest:List Oper} {x} {t} {u} {b}:qQ M ops dst rest k σ (.typeAssert x t u b)=pe M ops dst rest k σ (Lb M.P σ (.typeAssert x t u b)):=by rw[←pq];rfl
theorem stepZ_extract {ops:Array Oper} {dst:Option Tmp} {rest:List Oper} {t} {i}:qQ M ops dst rest k σ (.extract t i)=pe M ops dst rest k σ (Lb M.P σ (.extract t i)):=by rw[←pq];rfl
theorem stepZ_call {ops:Array Oper} {dst:Option Tmp} {rest:List Oper} {c}:qQ M ops dst rest k σ (.call c)=pe M ops dst rest k σ (Lb M.P σ (.call c)):=by rw[←pq];rfl
theorem stepZ_go {ops:Array Oper} {dst:Option Tmp} {rest:List Oper} {c}:qQ M ops dst rest k σ (.go c)=pe M ops dst rest k σ (Lb M.P σ (.go c)):=by rw[←pq];rfl
theorem stepZ_send {ops:Array Oper} {dst:Option Tmp} {rest:List Oper} {c} {x}:qQ M ops dst rest k σ (.send c x)=pe M ops dst rest k σ (Lb M.P σ (.send c x)):=by rw[←pq];rfl
theorem stepZ_recv {ops:Array Oper} {dst:Option Tmp} {rest:List Oper} {t} {c} {b}:qQ M ops dst rest k σ (.recv t c b)=pe M ops dst rest k σ (Lb M.P σ (.recv t c b)):=by rw[←pq];rfl
theorem stepZ_select {ops:Array Oper} {dst:Option Tmp} {rest:List Oper} {c} {b}:qQ M ops dst rest k σ (.select c b)=pe M ops dst rest k σ (Lb M.P σ (.select c b)):=by rw[←pq];rfl
theorem stepZ_defer {ops:Array Oper} {dst:Option Tmp} {rest:List Oper} {c:Call}:qQ M ops dst rest k σ (.defer c)=stepF M ops dst rest k σ (Ck σ (.defer c)):=rfl
theorem stepZ_panic {ops:Array Oper} {dst:Option Tmp} {rest:List Oper} {x:Operand}:qQ M ops dst rest k σ (.panic x)=stepQ M k σ (Lw σ (.panic x)):=rfl
theorem VE {α:Type} {a:α} {x:Option R}:pcond (a=a) x=x:=by simp [pcond]
theorem stepDC_opX {p:List Nat} {o:Oper} {rest:List Oper} {j:Nat} {tr:List Tr}:VC M p o rest j tr k σ none=vQ M p o.dst rest j tr k σ (Lb M.P σ o.op):=by rw[←pq];rfl
end
section
variable {R:Type} {M:lF R} {k:List Kt} {σ:AState}
theorem stepE_cond {ops:Array Oper} {dst:Option Tmp} {rest:List Oper} {b:Bool} {x y:Option u7}:pe M ops dst rest k σ (bif b then x else y)=bif b then pe M ops dst rest k σ x else pe M ops dst rest k σ y:=by cases b<;>rfl
theorem stepA_cond {ops:Array Oper} {dst:Option Tmp} {rest:List Oper} {b:Bool} {x y:Option (AV×List AObj)}:Kc M ops dst rest k σ (bif b then x else y)=bif b then Kc M ops dst rest k σ x else Kc M ops dst rest k σ y:=by cases b<;>rfl
theorem stepDE_cond {p:List Nat} {dst:Option Tmp} {rest:List Oper} {j:Nat} {tr:List Tr} {b:Bool} {x y:Option u7}:vQ M p dst rest j tr k σ (bif b then x else y)=bif b then vQ M p dst rest j tr k σ x else vQ M p dst rest j tr k σ y:=by cases b<;>rfl
theorem stepDA_cond {p:List Nat} {dst:Option Tmp} {rest:List Oper} {j:Nat} {tr:List Tr} {b:Bool} {x y:Option AV}:Mo M p dst rest j tr k σ (bif b then x else y)=bif b then Mo M p dst rest j tr k σ x else Mo M p dst rest j tr k σ y:=by cases b<;>rfl
end
theorem undef_eq:undef= .tuple #[]:=rfl
theorem not_true':(¬ True)=False:=by simp
theorem not_false':(¬ False)=True:=by simp
theorem int_nonneg (n:Nat):(0≤(n:Int))=True:=by simp
theorem int_nonneg0:((0:Int)≤0)=True:=by simp
theorem cond_not' {α:Type} {b:Bool} {x y:α}:(bif !b then x else y)=bif b then y else x:=by cases b<;>rfl
theorem cond_same {α:Type} {b:Bool} {x:α}:(bif b then x else x)=x:=by cases b<;>rfl
theorem cond_tf {b:Bool}:(bif b then true else false)=b:=by cases b<;>rfl
theorem cond_ft {b:Bool}:(bif b then false else true)= !b:=by cases b<;>rfl
theorem beq_tt {b:Bool}:(b==true)=b:=by cases b<;>rfl
theorem beq_ff {b:Bool}:(b==false)= !b:=by cases b<;>rfl
theorem beq_tt' {b:Bool}:(true==b)=b:=by cases b<;>rfl
theorem beq_ff' {b:Bool}:(false==b)= !b:=by cases b<;>rfl
theorem bind_ite' {α β:Type} {p:Prop} [Decidable p] {a b:Option α} {f:α→Option β}:(if p then a else b).bind f=bif decide p then a.bind f else b.bind f:=by
 by_cases h:p<;>simp [h]
theorem mp_get {α β:Type} (f:α→β) (xs:List α) (i:Nat):(mp f xs)[i]? =gD f xs[i]? :=by rw[qe,fN]
theorem mp_set {α β:Type} (f:α→β) (xs:List α) (i:Nat) (x:α):(mp f xs).set i (f x)=mp f (xs.set i x):=by rw[qe,qe,List.map_set]
theorem pcond_room {R:Type} {a b:Nat} {x:Option R}:pcond (room a b) x=bif decide (a*b≤17592186044416) then x else none:=by
 unfold room
 exact WX
theorem pcond_ror {R:Type} {a b:Nat} {x:Option R}:pcond (a=0∨0<b) x=bif decide (a=0∨0<b) then x else none:=WX
theorem pcond_ilt {R:Type} {a b:Int} {x:Option R}:pcond (a<b) x=bif decide (a<b) then x else none:=WX
theorem Qp (s:Str):(sb s).size=s.length:=by simp [sb,ByteArray.size]
theorem sb_get (s:Str) (i:Nat):(sb s)[i]? =s[i]? :=by
 by_cases h:i<s.length
 ·have h':i<(sb s).size:=by rw[Qp];exact h
  rw[fm h,getElem?_pos (sb s) i h']
  rfl
 ·have h': ¬ i<(sb s).size:=by rw[Qp];exact h
  rw[fU (by omega),getElem?_neg (sb s) i h']
theorem sb_idx (s:Str) (n:Int):idxB (sb s) n=IX s n:=by
 simp only[idxB,sb_get];rfl
theorem JI (s:Str):(sb s).toList=s:=by
 rw[ByteArray.toList_eq];rfl
theorem sb_extract (s:Str) (a b:Nat):(sb s).extract a b=sb ((s.take b).drop a):=by
 apply ByteArray.ext
 simp only[sb,ByteArray.data_extract]
 apply Array.ext'
 simp [Array.toList_extract,List.extract]
 rw[List.drop_take]
theorem sb_append (s t:Str):sb s++sb t=sb (s++t):=by
 apply ByteArray.ext
 simp [sb]
theorem sb_empty:ByteArray.empty=sb []:=rfl
theorem sb_emptyL:(⟨#[]⟩:ByteArray)=sb []:=rfl
theorem sb_lit (l:List UInt8):(⟨l.toArray⟩:ByteArray)=sb l:=rfl
attribute [go_sem] run_nil run_blk run_ops_nil run_dops_nil behind exitK_some exitK_none stepIf_true stepIf_false run_at stepN_skip stepN_region stepN_draw stepN_seq stepN_cond stepN_block stepN_loop stepN_exit stepN_scope stepN_label stepN_ret stepN_range stepR_func stepR1_some stepR1_none stepR1_bind stepR1_cond stepJ_none stepJ_ret stepJ_exit stepJ_cond retK rdIn isRd run_rb run_rd W1 beginO stP Pb VE
 run_cut run_lp run_ops run_dops stepW_true stepW_false stepC_some stepC_none stepY_some stepY_none stepZ_move stepZ_assign stepZ_pick stepZ_alloc stepZ_box stepZ_build W8 stepZ_insert stepZ_load stepZ_store stepZ_ready stepZ_waits Zk stepZ_binOp stepZ_unOp stepZ_convert M9 UG Zl stepZ_makeMap Zm XU stepZ_slice XV stepZ_field XW stepZ_index stepZ_lookup XX Zn W9 stepZ_range stepZ_next stepZ_entry Xa stepZ_extract stepZ_call stepZ_go stepZ_send stepZ_recv stepZ_select stepZ_defer stepZ_panic stepP_ret stepP_pan stepP_none stepP_bind stepP_cond stepF_some stepQ_some panK Ck Lw AState.dfr dfNb_nil_eq dfNb_cons_eq stepDP_ret stepDP_pan Xz stepDP_bind La restP_nil yieldOf stepE_none stepE_some stepE_bind stepE_ite stepA_some Y7 stepA_bind stepDW_true stepDW_false stepDC_some stepDC_opX stepDE_none stepDE_idle stepDE_some stepDE_bind stepDE_ite stepDA_some stepDA_none stepDA_bind stepE_cond stepA_cond stepDE_cond stepDA_cond
 sub child YW rC pcond_true O9 pcond_room pcond_ror pcond_ilt
attribute [go_sem low] stepIf_sym stepW_sym stepDW_sym
attribute [go_sem] mapO_nil mapO_cons XA bind_map' bind_bind' bind_cond bind_none' x8 idxA_mp Me mp_take mp_drop mp_get mp_set bind_ite' Zd idxA_zero idxA_one idxA_two Ht dL tyL_enc tyL_dec Sk Mp Hu dS_empty dS_emptyL tyI_enc tyI_dec tyB_enc tyB_dec tyS_enc tyS_dec dF_lit tyF_enc tyF_dec
 dI1 dB1 dS1 rowI_f rowU_f rowB_f W5 GI dC tyC_enc tyC_dec tyU_enc tyU_dec d2 d3 d4 d5 ty2_enc ty2_dec ty3_enc ty3_dec ty4_enc ty4_dec ty5_enc ty5_dec qT ent0 qR yR Sm ent4 ent5 ent6 rS oS Pd zA_f zK_f zT_f zL_f dLt XS oD_f oK_f oC_f oT_f oA_f zipO nrmZ DZ gCell gSlots Zg nrmN vR selO isLstS selM isMapS
 ixA ixS ldA ldV Vv stA Lb cond_not' cond_same cond_tf cond_ft beq_tt beq_ff beq_tt' beq_ff' Qp sb_idx sb_get JI sb_append sb_extract sb_empty sb_emptyL sb_lit
attribute [go_sem] Yx ixP selI ktab kcell Ut
attribute [go_sem] immV_f immO_f fzX_f entE entR tabE mU fzOne fzAll UF rp1 rpV rpO cI_f cB_f cS_f cL_f cF_f dL1 dF1 dP tyP_enc tyP_dec dK1 dK2 dK3 tyK1_f tyK2_f tyK3_f daT dcT oaT_f ocT_f osN_f osC_f dosC rsN_f rsT_f drsT rsA_f drsA s9 outG
 asN_f asT_f dasT asP_f dasP asA_f dasA nameOf nameAt nodupB XC entG entGh W7 Option.or_none Option.none_or outH outH.outH1 qb mO AV.ren renL CU outX
attribute [go_sem] oR mN lA AState.ev AState.put l7 AV.scalar Qa Qb rowsOf binAV Vu eqEff WL eqB eq1 bound Ur VY Qc O3 lenAV Jz
 Lx Ac YV U6 Sd chunks undef_eq
attribute [go_sem] gy List.all_nil Bool.and_true gx Bool.and_false Bool.false_and if_true if_false List.getD_cons_zero List.getD_cons_succ fG List.length_nil fA List.cons_append fW
 List.set_cons_zero List.set_cons_succ reduceCtorEq and_true true_and List.append_nil Nat.zero_add fS gi List.getElem?_nil fI List.drop_zero List.drop_succ_cons List.drop_nil
 List.take_succ_cons gv List.take_nil ne_eq not_true' not_false' ga Option.isSome_none Option.isNone_some Option.isNone_none gz List.map_nil List.getElem?_toArray Bool.not_true gu cond_true cond_false
 Int.toNat_natCast int_nonneg int_nonneg0 true_or or_true and_self false_or or_false gj List.set_nil decide_true decide_false Bool.not_not and_false false_and
 fZ fP List.length_replicate beq_self_eq_true
attribute [go_sem] compatP_eq pP regOps u7.idle Gn Bj GB List.contains_cons List.contains_nil fT List.isEmpty_cons Bool.or_false Bool.false_or Bool.or_true Bool.true_or fB Bool.false_eq_true Int.cast_ofNat_Int Int.toNat_zero Int.toNat_one List.flatten_cons List.flatten_nil
 fM gk Option.map_none
theorem Zo {n:Nat}: ∀ {a b:List (List AV)},Lu n (a++b)=(Lu n a∧Lu n b)
 |[],_=>by simp [Lu]
 |x::a,b=>by simp [Lu,Zo (a:=a),and_assoc]
theorem loadAV_lit0 {n:Nat} {c:AV} {cs:List AV}:mg false n (c::cs)=some c:=rfl
theorem loadAV_lit1 {n:Nat} {c:AV} {cs:List AV}:mg true n (c::cs)=if n≤(c::cs).length then some (.agg ((c::cs).take n)) else none:=rfl
theorem cellsOf_lit {c:AV} {cs:List AV}:cellsOf (.agg (c::cs))=if (c::cs).all AV.scalar then some (c::cs) else none:=rfl
theorem cellsOf_one:(∀b,cellsOf (.bool b)=some [.bool b])∧(∀k n,cellsOf (.int k n)=some [.int k n])∧(∀s,cellsOf (.str s)=some [.str s])∧(∀t sz r,cellsOf (.l5 t sz r)=some [.l5 t sz r])∧
 (∀l n,cellsOf (.acc l n)=some [.acc l n])∧(∀a b c d e,cellsOf (.own a b c d e)=some [.own a b c d e])∧(∀a b,cellsOf (.ptr a b)=some [.ptr a b])∧(∀a,cellsOf (.map a)=some [.map a])∧
 (∀cs,cellsOf (.pp cs)=some [.pp cs])∧(∀fn f c,cellsOf (.func fn f c)=some [.func fn f c])∧(∀t x,cellsOf (.iface t x)=some [.iface t x])∧cellsOf (.raw .nilFunc)=some [.raw .nilFunc]∧cellsOf (.raw .nilIface)=some [.raw .nilIface]∧
 (∀a,cellsOf (.raw (.pointer a))=some [.raw (.pointer a)])∧(∀a,cellsOf (.raw (.map a))=some [.raw (.map a)]):=
 ⟨fun _=>rfl,fun _ _=>rfl,fun _=>rfl,fun _ _ _=>rfl,fun _ _=>rfl,fun _ _ _ _ _=>rfl,fun _ _=>rfl,fun _=>rfl,fun _=>rfl,fun _ _ _=>rfl,fun _ _=>rfl,rfl,rfl,fun _=>rfl,fun _=>rfl⟩
theorem splice_lit {c:AV} {cs:List AV} {o:Nat} {xs:List AV}:splice (c::cs) o xs=(c::cs).take o++xs++(c::cs).drop (o+xs.length):=rfl
theorem splice_all {cs xs:List AV} (h:xs.length=cs.length):splice cs 0 xs=xs:=by
 simp only[splice,gv,fW,Nat.zero_add,h,List.drop_length,List.append_nil]
attribute [go_sem] loadAV_lit0 loadAV_lit1 cellsOf_lit cellsOf_one splice_all
attribute [go_sem low] splice_lit
attribute [go_sem] AV.nb nbL Lu objNb Zo
theorem nb_if {n:Nat} {c:Prop} [Decidable c] {a:AV}:AV.nb n (if c then a else .any)=(¬ c∨AV.nb n a):=by
 by_cases h:c<;>simp [h,AV.nb]
theorem dL_if {α:Type} {r:Row α} {H:List AObj} {c:Prop} [Decidable c] {a:AV}:dL r H (if c then a else .any)=bif decide c then dL r H a else none:=by
 by_cases h:c<;>simp [h,dL]
attribute [go_sem high] nb_if dL_if
attribute [go_sem] or_true
theorem rp1_of_nb {l:Nat} {cs:List AV}: ∀x:AV,x.nb 0→rp1 l cs x=x
 | .ptr _ _,h=>absurd h (fV _)
 | .any,_| .bool _,_| .int _ _,_| .str _,_| .raw _,_| .agg _,_| .tup _,_| .l5 _ _ _,_| .acc _ _,_| .own _ _ _ _ _,_| .map _,_| .pp _,_| .func _ _ _,_| .iface _ _,_=>rfl
theorem VF {l:Nat} {cs:List AV}: ∀xs:List AV,nbL 0 xs→xs.map (rp1 l cs)=xs
 |[],_=>rfl
 |x::xs,h=>by rw[gz,rp1_of_nb x h.1,VF xs h.2]
theorem rpV_of_nb {l:Nat} {cs:List AV}: ∀x:AV,x.nb 0→rpV l cs x=x
 | .ptr _ _,h=>absurd h (fV _)
 | .func _ f c,h=>by simp only[rpV];rw[VF f h.1,VF c h.2]
 | .any,_| .bool _,_| .int _ _,_| .str _,_| .raw _,_| .agg _,_| .tup _,_| .l5 _ _ _,_| .acc _ _,_| .own _ _ _ _ _,_| .map _,_| .pp _,_| .iface _ _,_=>rfl
theorem AB {l:Nat} {cs:List AV}: ∀xs:List AV,nbL 0 xs→xs.map (rpV l cs)=xs
 |[],_=>rfl
 |x::xs,h=>by rw[gz,rpV_of_nb x h.1,AB xs h.2]
end Go.Abs
namespace Go.Abs
def Zp (P:Program):Nat→List Field→List AV→List AV→Prop
 |_,[],[],[]=>True
 |o,f::fs,c::cs,d::ds=>(f.name≠ "_" ∧f.offset=o∧P.plainKey f.type=true∧(match c,d with
  | .int k _,.int k' _=>k=k'∧ ∃q,P.underlying f.type=some (.int q)
  | .bool _,.bool _=>P.underlying f.type=some .bool
  | .str _,.str _=>P.underlying f.type=some .string
  |_,_=>False))∧Zp P (o+1) fs cs ds
 |_,_,_,_=>False
theorem U8 {P:Program} {E:Env} {vs us:Array Value} {w:World} {d:Nat}: ∀ (fs:List Field) (o:Nat) (cs ds:List AV),Zp P o fs cs ds→k6 E cs (vs.toList.drop o)→k6 E ds (us.toList.drop o)→
 (Op.eqFields (d+1) vs us fs).run P w= .ok (eqB cs ds) w
 |[],_,[],[],_,_,_=>by simp [Op.eqFields,eqB]
 |[],_,_::_,_,h,_,_=>h.elim
 |[],_,[],_::_,h,_,_=>h.elim
 |_::_,_,[],_,h,_,_=>h.elim
 |_::_,_,_::_,[],h,_,_=>h.elim
 |f::fs,o,c::cs,e::ds,⟨⟨h1,h2,h3,h4⟩,h5⟩,r1,r2=>by
  obtain ⟨u,us',e1,r1,r1'⟩:=r1
  obtain ⟨v,vs',e2,r2,r2'⟩:=r2
  have g1:vs[f.offset]? =some u:=by
   have:=congrArg (fun l:List Value=>l[0]?) e1
   rw[h2];simpa using this
  have g2:us[f.offset]? =some v:=by
   have:=congrArg (fun l:List Value=>l[0]?) e2
   rw[h2];simpa using this
  have t1:vs.toList.drop (o+1)=us':=by
   have:=congrArg List.tail e1
   simpa using this
  have t2:us.toList.drop (o+1)=vs':=by
   have:=congrArg List.tail e2
   simpa using this
  have ih:=U8 (d:=d) (w:=w) fs (o+1) cs ds h5 (by rw[t1];exact r1') (by rw[t2];exact r2')
  have hone:(Op.equalIn (d+1) f.type u v).run P w= .ok (eq1 c e) w:=by
   cases c<;>cases e<;>try exact h4.elim
   ·cases r1;cases r2;exact run_equalIn_bool _ d f.type _ _ h4
   ·obtain ⟨rfl,q,hq⟩:=h4
    cases r1;cases r2;exact run_equalIn_int _ d f.type _ q _ _ hq
   ·cases r1;cases r2;exact run_equalIn_string _ d f.type _ _ h4
  simp only[Op.eqFields,h1,ne_eq,not_false_eq_true,if_true,Sem.run_bind,run_part_plain w h3 g1,run_part_plain w h3 g2,hone,Result.andThen_ok,eqB]
  cases eq1 c e
  ·simp
  ·simpa using ih
theorem aggEq_flat {P:Program} {t:TypeId} {cs ds:List AV} (ht:P.underlying t=some (.struct (P.fieldsOf t))) (hp:P.stoodInHeld t=false) (hg:P.eqGuardType P.depth t=false)
 (hf:Zp P 0 (P.fieldsOf t).toList cs ds):Yu P t cs ds:=by
 intro E vs us w x y h1 h2
 have hq:(Op.equal t (.agg vs) (.agg us)).run P w= .ok (eqB cs ds) w:=by
  show (Op.equalIn (9999+1) t _ _).run P w=_
  rw[run_equalIn_struct w 9999 t vs us ht hp]
  exact U8 (d:=9998) _ 0 cs ds hf (by simpa using h1) (by simpa using h2)
 constructor
 ·simp [eqGuard,binOp,hg,hq]
 ·simp [eqGuard,binOp,hg,hq]
end Go.Abs
namespace Go.Abs
mutual
theorem Uy {τ τ':Nat→Nat} {n:Nat} (h: ∀l,l<n→τ l=τ' l): ∀x:AV,x.nb n→x.ren τ=x.ren τ'
 | .agg cs,k| .tup cs,k| .pp cs,k=>by simp only[AV.ren];rw[Cn h cs k]
 | .l5 _ _ rows,k=>by simp only[AV.ren];rw[VG h rows k]
 | .acc l _,k| .own l _ _ _ _,k| .ptr l _,k| .map l,k=>by simp only[AV.ren];rw[h l k]
 | .func _ f c,k=>by simp only[AV.ren];rw[Cn h f k.1,Cn h c k.2]
 | .iface _ x,k=>by simp only[AV.ren];rw[Uy h x k]
 | .any,_| .bool _,_| .int _ _,_| .str _,_| .raw _,_=>rfl
theorem Cn {τ τ':Nat→Nat} {n:Nat} (h: ∀l,l<n→τ l=τ' l): ∀xs:List AV,nbL n xs→renL τ xs=renL τ' xs
 |[],_=>rfl
 |x::xs,k=>by simp only[renL];rw[Uy h x k.1,Cn h xs k.2]
theorem VG {τ τ':Nat→Nat} {n:Nat} (h: ∀l,l<n→τ l=τ' l): ∀xs:List (List AV),Lu n xs→CU τ xs=CU τ' xs
 |[],_=>rfl
 |x::xs,k=>by simp only[CU];rw[Cn h x k.1,VG h xs k.2]
end
mutual
theorem nb_ren {τ:Nat→Nat} {n m:Nat} (h: ∀l,l<n→τ l<m): ∀x:AV,x.nb n→(x.ren τ).nb m
 | .agg cs,k| .tup cs,k| .pp cs,k=>Uz h cs k
 | .l5 _ _ rows,k=>nbR_ren h rows k
 | .acc l _,k| .own l _ _ _ _,k| .ptr l _,k| .map l,k=>h l k
 | .func _ f c,k=>⟨Uz h f k.1,Uz h c k.2⟩
 | .iface _ x,k=>nb_ren h x k
 | .any,_| .bool _,_| .int _ _,_| .str _,_| .raw _,_=>trivial
theorem Uz {τ:Nat→Nat} {n m:Nat} (h: ∀l,l<n→τ l<m): ∀xs:List AV,nbL n xs→nbL m (renL τ xs)
 |[],_=>trivial
 |x::xs,k=>⟨nb_ren h x k.1,Uz h xs k.2⟩
theorem nbR_ren {τ:Nat→Nat} {n m:Nat} (h: ∀l,l<n→τ l<m): ∀xs:List (List AV),Lu n xs→Lu m (CU τ xs)
 |[],_=>trivial
 |x::xs,k=>⟨Uz h x k.1,nbR_ren h xs k.2⟩
end
theorem objRen_congr {τ τ':Nat→Nat} {n:Nat} (h: ∀l,l<n→τ l=τ' l) (x:AObj) (k:objNb n x):x.ren τ=x.ren τ':=by
 cases x with
 |cells cs=>simp only[AObj.ren];rw[Cn h cs k]
 |acc pY sz rows=>simp only[AObj.ren];rw[VG h rows k]
 |map es=>
  simp only[AObj.ren]
  congr 1
  refine gA fun p hp=> ?_
  rw[Uy h _ (k p hp).1,Uy h _ (k p hp).2]
 |loop lk slots st sk=>simp only[AObj.ren];rw[Cn h slots k]
 |iter s p=>rfl
 |dead=>rfl
theorem Co1.Qq {n:Nat} {x y:AV} (h:Co1 [] n x y):Sub x y:=by
 rcases h with h|⟨l,m,sz,rows,_,h,_⟩
 ·exact h.1
 ·simp at h
theorem oN.Qq {n:Nat}: ∀ {xs ys:List AV},oN [] n xs ys→qJ xs ys
 |[],_,rfl=>qJ.nil
 |_::_,_,⟨_,_,rfl,h,hs⟩=>qJ.cons h.Qq hs.Qq
theorem Co.Qq {n:Nat} {x y:AV} (h:Co [] n x y):Sub x y:=by
 rcases h with h|⟨cs,ds,rfl,rfl,h⟩
 ·exact h.Qq
 ·rintro E v ⟨vs,rfl,hv⟩
  exact ⟨vs,rfl,h.Qq E _ hv⟩
theorem qJ.func {f:Fn} {xs ys:List AV} (h:qJ xs ys):Sub (.func f [] xs) (.func f [] ys):=by
 rintro E v ⟨a,b,rfl,h1,h2⟩
 exact ⟨a,b,rfl,h1,h E _ h2⟩
abbrev DP:=Nat→Nat
def Wl (ρ:List Nat) (k:Nat):Nat:=ρ.getD k 0
def Cov (ρ:List Nat) (need n:Nat):Prop:= ∀k,k<need→ ∃l,ρ[k]? =some l∧l<n
theorem Cov.mono {ρ:List Nat} {a b n:Nat} (h:Cov ρ b n) (k:a≤b):Cov ρ a n:=fun i hi=>h i (by omega)
theorem Cov.lt {ρ:List Nat} {a n:Nat} (h:Cov ρ a n): ∀l,l<a→Wl ρ l<n:=by
 intro l hl
 obtain ⟨k,hk,hn⟩:=h l hl
 unfold Wl;rw[gB,hk];exact hn
theorem VH {ρ:List Nat} {k l:Nat} (h:ρ[k]? =some l):Wl ρ k=l:=by unfold Wl;rw[gB,h];rfl
section specs
variable {α β γ δ:Type}
structure VL (γ:Type) where
 enc:DP→γ→List AV
 dec:List Nat→DP→List AV→Option γ
 need:Nat
 nb: ∀L g,nbL need (enc L g)
 ok: ∀ρ L vs g,dec ρ L vs=some g→qJ vs (renL (Wl ρ) (enc L g))
def dvlN:List AV→Option Unit
 |[]=>some ()
 |_=>none
def vlN:VL Unit where
 enc _ _:=[]
 dec _ _:=dvlN
 need:=0
 nb _ _:=trivial
 ok ρ L vs g h:=by
  unfold dvlN at h
  split at h
  ·exact qJ.nil
  ·cases h
def dvlT (t:Ty γ) (s:VL δ) (ρ:List Nat) (L:DP):List AV→Option (γ×δ)
 |x::xs=>(t.dec [] x).bind fun y=>(s.dec ρ L xs).bind fun a=>some (y,a)
 |[]=>none
def vlT (t:Ty γ) (s:VL δ):VL (γ×δ) where
 enc L g:=t.enc g.1::s.enc L g.2
 dec:=dvlT t s
 need:=s.need
 nb L g:=⟨t.nb _ _,s.nb L g.2⟩
 ok ρ L vs g h:=by
  unfold dvlT at h
  split at h
  ·simp only[fj,fk] at h
   obtain ⟨y,hy,a,ha,rfl⟩:=h
   refine qJ.cons ?_ (s.ok ρ L _ _ ha)
   rw[GF _ _ (t.nb 0 y)]
   exact (t.ok [] 0 _ _ hy).Qq
  ·cases h
def dvlP (k:Nat) (s:VL δ) (ρ:List Nat) (L:DP):List AV→Option δ
 | .ptr l off::xs=>bif decide (off=0∧ρ[k]? =some l) then s.dec ρ L xs else none
 |_=>none
def vlP (k:Nat) (s:VL δ):VL δ where
 enc L g:= .ptr k 0::s.enc L g
 dec:=dvlP k s
 need:=max (k+1) s.need
 nb L g:=⟨show k<_ by omega,sM (by omega) _ (s.nb L g)⟩
 ok ρ L vs g h:=by
  unfold dvlP at h
  split at h
  ·rename_i l off xs
   cases hc:decide (off=0∧ρ[k]? =some l) with
   |false=>simp [hc] at h
   |true=>
    simp only[hc,cond_true] at h
    obtain ⟨rfl,ZV⟩:=of_decide_eq_true hc
    refine qJ.cons ?_ (s.ok ρ L _ _ h)
    simp only[AV.ren,VH ZV]
    exact Sub.refl _
  ·cases h
def dvlM (k:Nat) (s:VL δ) (ρ:List Nat) (L:DP):List AV→Option δ
 | .map l::xs=>bif decide (ρ[k]? =some l) then s.dec ρ L xs else none
 |_=>none
def vlM (k:Nat) (s:VL δ):VL δ where
 enc L g:= .map k::s.enc L g
 dec:=dvlM k s
 need:=max (k+1) s.need
 nb L g:=⟨show k<_ by omega,sM (by omega) _ (s.nb L g)⟩
 ok ρ L vs g h:=by
  unfold dvlM at h
  split at h
  ·rename_i l xs
   cases hc:decide (ρ[k]? =some l) with
   |false=>simp [hc] at h
   |true=>
    simp only[hc,cond_true] at h
    have hc:=of_decide_eq_true hc
    refine qJ.cons ?_ (s.ok ρ L _ _ h)
    simp only[AV.ren,VH hc]
    exact Sub.refl _
  ·cases h
def dvlF (f:FuncId) (c:VL γ) (s:VL δ) (ρ:List Nat) (L:DP):List AV→Option (γ×δ)
 | .func (.func f') [] cs::xs=>bif decide (f'=f) then (c.dec ρ L cs).bind fun y=>(s.dec ρ L xs).bind fun a=>some (y,a) else none
 |_=>none
def vlF (f:FuncId) (c:VL γ) (s:VL δ):VL (γ×δ) where
 enc L g:= .func (.func f) [] (c.enc L g.1)::s.enc L g.2
 dec:=dvlF f c s
 need:=max c.need s.need
 nb L g:=⟨⟨trivial,sM (by omega) _ (c.nb L g.1)⟩,sM (by omega) _ (s.nb L g.2)⟩
 ok ρ L vs g h:=by
  unfold dvlF at h
  split at h
  ·rename_i f' cs xs
   cases hc:decide (f'=f) with
   |false=>simp [hc] at h
   |true=>
    simp only[hc,cond_true,fj,fk] at h
    obtain ⟨y,hy,a,ha,rfl⟩:=h
    obtain rfl:=of_decide_eq_true hc
    refine qJ.cons ?_ (s.ok ρ L _ _ ha)
    simp only[AV.ren,renL]
    exact (c.ok ρ L _ _ hy).func
  ·cases h
theorem vlN_f:(∀L g,vlN.enc L g=[])∧ ∀ρ L xs,vlN.dec ρ L xs=dvlN xs:=⟨fun _ _=>rfl,fun _ _ _=>rfl⟩
theorem vlT_f {t:Ty γ} {s:VL δ}:(∀L g,(vlT t s).enc L g=t.enc g.1::s.enc L g.2)∧ ∀ρ L xs,(vlT t s).dec ρ L xs=dvlT t s ρ L xs:=⟨fun _ _=>rfl,fun _ _ _=>rfl⟩
theorem vlP_f {k:Nat} {s:VL δ}:(∀L g,(vlP k s).enc L g= .ptr k 0::s.enc L g)∧ ∀ρ L xs,(vlP k s).dec ρ L xs=dvlP k s ρ L xs:=⟨fun _ _=>rfl,fun _ _ _=>rfl⟩
theorem vlM_f {k:Nat} {s:VL δ}:(∀L g,(vlM k s).enc L g= .map k::s.enc L g)∧ ∀ρ L xs,(vlM k s).dec ρ L xs=dvlM k s ρ L xs:=⟨fun _ _=>rfl,fun _ _ _=>rfl⟩
theorem vlF_f {f:FuncId} {c:VL γ} {s:VL δ}:(∀L g,(vlF f c s).enc L g= .func (.func f) [] (c.enc L g.1)::s.enc L g.2)∧ ∀ρ L xs,(vlF f c s).dec ρ L xs=dvlF f c s ρ L xs:=⟨fun _ _=>rfl,fun _ _ _=>rfl⟩
structure AL (γ:Type) where
 enc:DP→γ→List AV
 dec:List Nat→DP→List AObj→List AV→Option γ
 need:Nat
 nb: ∀L g,nbL need (enc L g)
 ok: ∀ρ L H n vs g,Cov ρ need n→dec ρ L H vs=some g→B8 H n vs (renL (Wl ρ) (enc L g))
def kZ:AL Unit where
 enc _ _:=[]
 dec _ _ _:=dvlN
 need:=0
 nb _ _:=trivial
 ok ρ L H n vs g _ h:=by
  unfold dvlN at h
  split at h
  ·exact B8.nil
  ·cases h
def dalT (t:Ty γ) (s:AL δ) (ρ:List Nat) (L:DP) (H:List AObj):List AV→Option (γ×δ)
 |x::xs=>(t.dec H x).bind fun y=>(s.dec ρ L H xs).bind fun a=>some (y,a)
 |[]=>none
def lM (t:Ty γ) (s:AL δ):AL (γ×δ) where
 enc L g:=t.enc g.1::s.enc L g.2
 dec:=dalT t s
 need:=s.need
 nb L g:=⟨t.nb _ _,s.nb L g.2⟩
 ok ρ L H n vs g hc h:=by
  unfold dalT at h
  split at h
  ·simp only[fj,fk] at h
   obtain ⟨y,hy,a,ha,rfl⟩:=h
   refine B8.cons ?_ (s.ok ρ L H n _ _ hc ha)
   rw[GF _ _ (t.nb 0 y)]
   exact t.ok H n _ _ hy
  ·cases h
def dalC (c:R0 γ) (k:Nat) (s:AL δ) (ρ:List Nat) (L:DP) (H:List AObj) (xs:List AV):Option (γ×δ):=
 (c.dec H (xs.take k)).bind fun y=>(s.dec ρ L H (xs.drop k)).bind fun a=>some (y,a)
theorem oN.append' {H:List AObj} {n:Nat}: ∀ {xs ys us vs:List AV},oN H n xs ys→B8 H n us vs→B8 H n (xs++us) (ys++vs)
 |[],_,_,_,rfl,h=>h
 |_::_,_,_,_,⟨y,zs,rfl,h,hs⟩,h2=>⟨y,zs++_,rfl,.inl h,oN.append' hs h2⟩
def ql (c:R0 γ) (k:Nat) (s:AL δ):AL (γ×δ) where
 enc L g:=c.enc g.1++s.enc L g.2
 dec:=dalC c k s
 need:=s.need
 nb L g:=JE (c.nb _ _) (s.nb L g.2)
 ok ρ L H n vs g hc h:=by
  unfold dalC at h
  simp only[fj,fk] at h
  obtain ⟨y,hy,a,ha,rfl⟩:=h
  rw[Se,pg _ _ (c.nb 0 y),←List.take_append_drop k vs]
  exact oN.append' (c.ok H n _ _ hy) (s.ok ρ L H n _ _ hc ha)
def dalP (k:Nat) (s:AL δ) (ρ:List Nat) (L:DP) (H:List AObj):List AV→Option δ
 | .ptr l off::xs=>bif decide (off=0∧ρ[k]? =some l) then s.dec ρ L H xs else none
 |_=>none
def lT (k:Nat) (s:AL δ):AL δ where
 enc L g:= .ptr k 0::s.enc L g
 dec:=dalP k s
 need:=max (k+1) s.need
 nb L g:=⟨show k<_ by omega,sM (by omega) _ (s.nb L g)⟩
 ok ρ L H n vs g hv h:=by
  unfold dalP at h
  split at h
  ·rename_i l off xs
   cases hc:decide (off=0∧ρ[k]? =some l) with
   |false=>simp [hc] at h
   |true=>
    simp only[hc,cond_true] at h
    obtain ⟨rfl,ZV⟩:=of_decide_eq_true hc
    refine B8.cons ?_ (s.ok ρ L H n _ _ (hv.mono (by omega)) h)
    have hl:=hv.lt k (by omega)
    simp only[AV.ren]
    rw[VH ZV] at hl ⊢
    exact Co.same hl
  ·cases h
def dalM (k:Nat) (s:AL δ) (ρ:List Nat) (L:DP) (H:List AObj):List AV→Option δ
 | .map l::xs=>bif decide (ρ[k]? =some l) then s.dec ρ L H xs else none
 |_=>none
def u9 (k:Nat) (s:AL δ):AL δ where
 enc L g:= .map k::s.enc L g
 dec:=dalM k s
 need:=max (k+1) s.need
 nb L g:=⟨show k<_ by omega,sM (by omega) _ (s.nb L g)⟩
 ok ρ L H n vs g hv h:=by
  unfold dalM at h
  split at h
  ·rename_i l xs
   cases hc:decide (ρ[k]? =some l) with
   |false=>simp [hc] at h
   |true=>
    simp only[hc,cond_true] at h
    have ZV:=of_decide_eq_true hc
    refine B8.cons ?_ (s.ok ρ L H n _ _ (hv.mono (by omega)) h)
    have hl:=hv.lt k (by omega)
    simp only[AV.ren]
    rw[VH ZV] at hl ⊢
    exact Co.same hl
  ·cases h
def dalA (k:Nat) (s:AL δ) (ρ:List Nat) (L:DP) (H:List AObj):List AV→Option δ
 | .acc l m::xs=>bif decide (m=L k∧ρ[k]? =some l) then s.dec ρ L H xs else none
 |_=>none
def alA (k:Nat) (s:AL δ):AL δ where
 enc L g:= .acc k (L k)::s.enc L g
 dec:=dalA k s
 need:=max (k+1) s.need
 nb L g:=⟨show k<_ by omega,sM (by omega) _ (s.nb L g)⟩
 ok ρ L H n vs g hv h:=by
  unfold dalA at h
  split at h
  ·rename_i l m xs
   cases hc:decide (m=L k∧ρ[k]? =some l) with
   |false=>simp [hc] at h
   |true=>
    simp only[hc,cond_true] at h
    obtain ⟨rfl,ZV⟩:=of_decide_eq_true hc
    refine B8.cons ?_ (s.ok ρ L H n _ _ (hv.mono (by omega)) h)
    have hl:=hv.lt k (by omega)
    simp only[AV.ren]
    rw[VH ZV] at hl ⊢
    exact Co.same hl
  ·cases h
def dalF (f:FuncId) (c:VL γ) (s:AL δ) (ρ:List Nat) (L:DP) (H:List AObj):List AV→Option (γ×δ)
 | .func (.func f') [] cs::xs=>bif decide (f'=f) then (c.dec ρ L cs).bind fun y=>(s.dec ρ L H xs).bind fun a=>some (y,a) else none
 |_=>none
def alF (f:FuncId) (c:VL γ) (s:AL δ):AL (γ×δ) where
 enc L g:= .func (.func f) [] (c.enc L g.1)::s.enc L g.2
 dec:=dalF f c s
 need:=max c.need s.need
 nb L g:=⟨⟨trivial,sM (by omega) _ (c.nb L g.1)⟩,sM (by omega) _ (s.nb L g.2)⟩
 ok ρ L H n vs g hv h:=by
  unfold dalF at h
  split at h
  ·rename_i f' cs xs
   cases hc:decide (f'=f) with
   |false=>simp [hc] at h
   |true=>
    simp only[hc,cond_true,fj,fk] at h
    obtain ⟨y,hy,a,ha,rfl⟩:=h
    obtain rfl:=of_decide_eq_true hc
    refine B8.cons ?_ (s.ok ρ L H n _ _ (hv.mono (by omega)) ha)
    simp only[AV.ren,renL]
    exact Co.sub (c.ok ρ L _ _ hy).func ⟨trivial,Uz (hv.mono (a:=c.need) (by omega)).lt _ (c.nb L y)⟩
  ·cases h
def dalZ (s:AL δ) (ρ:List Nat) (L:DP) (H:List AObj):List AV→Option δ
 |_::xs=>s.dec ρ L H xs
 |_=>none
def alZ (s:AL δ):AL δ where
 enc L g:= .any::s.enc L g
 dec:=dalZ s
 need:=s.need
 nb L g:=⟨trivial,s.nb L g⟩
 ok ρ L H n vs g hv h:=by
  unfold dalZ at h
  split at h
  ·exact B8.cons Co.any (s.ok ρ L H n _ _ hv h)
  ·cases h
def Ph:Nat→AL δ→AL δ
 |0,s=>s
 |n+1,s=>alZ (Ph n s)
theorem alN_f:(∀L g,kZ.enc L g=[])∧(∀ρ L H xs,kZ.dec ρ L H xs=dvlN xs)∧kZ.need=0:=⟨fun _ _=>rfl,fun _ _ _ _=>rfl,rfl⟩
theorem alT_f {t:Ty γ} {s:AL δ}:(∀L g,(lM t s).enc L g=t.enc g.1::s.enc L g.2)∧(∀ρ L H xs,(lM t s).dec ρ L H xs=dalT t s ρ L H xs)∧(lM t s).need=s.need:=⟨fun _ _=>rfl,fun _ _ _ _=>rfl,rfl⟩
theorem alC_f {c:R0 γ} {k:Nat} {s:AL δ}:(∀L g,(ql c k s).enc L g=c.enc g.1++s.enc L g.2)∧(∀ρ L H xs,(ql c k s).dec ρ L H xs=dalC c k s ρ L H xs)∧(ql c k s).need=s.need:=⟨fun _ _=>rfl,fun _ _ _ _=>rfl,rfl⟩
theorem alP_f {k:Nat} {s:AL δ}:(∀L g,(lT k s).enc L g= .ptr k 0::s.enc L g)∧(∀ρ L H xs,(lT k s).dec ρ L H xs=dalP k s ρ L H xs)∧(lT k s).need=max (k+1) s.need:=⟨fun _ _=>rfl,fun _ _ _ _=>rfl,rfl⟩
theorem alM_f {k:Nat} {s:AL δ}:(∀L g,(u9 k s).enc L g= .map k::s.enc L g)∧(∀ρ L H xs,(u9 k s).dec ρ L H xs=dalM k s ρ L H xs)∧(u9 k s).need=max (k+1) s.need:=⟨fun _ _=>rfl,fun _ _ _ _=>rfl,rfl⟩
theorem alA_f {k:Nat} {s:AL δ}:(∀L g,(alA k s).enc L g= .acc k (L k)::s.enc L g)∧(∀ρ L H xs,(alA k s).dec ρ L H xs=dalA k s ρ L H xs)∧(alA k s).need=max (k+1) s.need:=⟨fun _ _=>rfl,fun _ _ _ _=>rfl,rfl⟩
theorem alF_f {f:FuncId} {c:VL γ} {s:AL δ}:(∀L g,(alF f c s).enc L g= .func (.func f) [] (c.enc L g.1)::s.enc L g.2)∧(∀ρ L H xs,(alF f c s).dec ρ L H xs=dalF f c s ρ L H xs)∧(alF f c s).need=max c.need s.need:=⟨fun _ _=>rfl,fun _ _ _ _=>rfl,rfl⟩
theorem alZ_f {s:AL δ}:(∀L g,(alZ s).enc L g= .any::s.enc L g)∧(∀ρ L H xs,(alZ s).dec ρ L H xs=dalZ s ρ L H xs)∧(alZ s).need=s.need:=⟨fun _ _=>rfl,fun _ _ _ _=>rfl,rfl⟩
end specs
end Go.Abs
namespace Go.Abs
theorem Bn {n m:Nat} (h:n≤m) (x:AObj) (k:objNb n x):objNb m x:=by
 cases x with
 |cells cs=>exact sM h _ k
 |acc pY sz rows=>exact nbR_le h _ k
 |map es=>exact fun p hp=>⟨AV.Xm h _ (k p hp).1,AV.Xm h _ (k p hp).2⟩
 |loop lk slots st sk=>exact sM h _ k
 |iter s p=>trivial
 |dead=>trivial
theorem imp_select {ys:List AV} {H Ys:List AObj} {ρ:List Nat} {low:Nat} (hlen:ρ.length=Ys.length) (hnd:ρ.Nodup) (hid: ∀k,k<low→ρ[k]? =some k)
 (hl:low≤Ys.length) (hnb:nbL Ys.length ys) (Fc: ∀y∈Ys,objNb Ys.length y)
 (Hp: ∀ (i k:Nat) (y:AObj),ρ[i]? =some k→Ys[i]? =some y→H[k]? =some (y.ren (Wl ρ))):
 Gk ⟨renL (Wl ρ) ys,H,low,[]⟩ ⟨ys,Ys,low,[]⟩:=by
 intro C φ a w S
 let φ':Nat→Value:=fun k=>φ (Wl ρ k)
 have hρ: ∀k,k<Ys.length→ρ[k]? =some (Wl ρ k):=by
  intro k hk
  have hk':k<ρ.length:=by omega
  rw[VH (fm hk')]
  exact fm hk'
 have mL: ∀ (k:Nat) (y:AObj),Ys[k]? =some y→k<Ys.length∧H[Wl ρ k]? =some (y.ren (Wl ρ)):=by
  intro k y hy
  have hk:=(fo.1 hy).1
  exact ⟨hk,Hp k _ y (hρ k hk) hy⟩
 have hfix: ∀k,k<low→Wl ρ k=k:=fun k hk=>VH (hid k hk)
 have hinj: ∀k k',k<Ys.length→k'<Ys.length→Wl ρ k=Wl ρ k'→k=k':=by
  intro k k' hk hk' he
  have h1:=hρ k hk
  have h2:=hρ k' hk'
  rw[←he] at h2
  have e1:=Wd ρ k _ hnd h1
  have e2:=Wd ρ k' _ hnd h2
  rw[e1] at e2;exact gC e2
 have EE: ∀b o,ET φ' Ys b o→ET φ H b o:=by
  rintro b o ⟨k,z,hz,hm⟩
  exact ⟨_,_,(mL k z hz).2,O7.2 hm⟩
 have un:UnLe Ys.length (Wl ρ) (C.env φ H w) (C.env φ' Ys w):=by
  refine ⟨fB _,fun k hk=>⟨rfl,?_⟩,fun b o u hm hc=>⟨fun h=>hm (h.imp (EE b o) id),hc⟩⟩
  show lN Ys[k]? =lN H[Wl ρ k]?
  have hy:=fm hk
  rw[(mL k _ hy).2,hy,DW]
 have Ch:rB C φ' Ys w [] a.defers:=S.defers.step' (fun xs vs ⟨f,hf⟩ _=>(by cases hf)) (fun _ _ _=>rfl) (fun k z b hz hb=> .inl ⟨_,_,(mL k z hz).2,Bk.2 hb⟩)
 refine ⟨φ',{slots:=k6.Cb un _ _ hnb S.slots,defers:=Ch,objs:= ?_,apart:= ?_,s6:= ?_,size:=S.size,old:=S.old,ni:=S.ni,C5:= ?_,vT:=S.vT,rest:=S.rest,low:=⟨S.low.1,hl⟩,names:= ?_}⟩
 ·intro k z hz
  exact nk.Cb un (Fc z (fC hz)) (fun _ _=>rfl) (S.objs _ _ (mL k z hz).2)
 ·intro k k' z z' b hz hz' hb hb'
  refine hinj k k' (mL k z hz).1 (mL k' z' hz').1 (S.apart _ _ _ _ b (mL k z hz).2 (mL k' z' hz').2 (Bk.2 hb) (Bk.2 hb'))
 ·intro k z b o hz hb
  exact S.s6 _ _ b o (mL k z hz).2 (Bk.2 hb)
 ·intro k z b o hz hm hb
  exact S.C5 _ _ b o (mL k z hz).2 (O7.2 hm) hb
 ·intro k hk
  have hk':k<low:=by have:=S.low.1;simp only at this;omega
  have hn:=S.names k hk
  have e1:φ' k=φ k:=by show φ (Wl ρ k)=φ k;rw[hfix k hk']
  have e2:lN Ys[k]? =lN H[k]? :=by
   have hy:=fm (show k<Ys.length by omega)
   have:=(mL k _ hy).2
   rw[hfix k hk'] at this
   rw[this,hy,DW]
  show (φ' k=_∧(lN Ys[k]? =_∨lN Ys[k]? =none))∨((∃m,_∧ ∀m',lN Ys[k]? =some m'→_)∧_)
  rw[e1,e2]
  exact hn
section objs
variable {α β γ δ:Type}
structure OG (γ:Type) where
 enc:DP→γ→AObj
 dec:List Nat→DP→List AObj→AObj→Option γ
 len:γ→Nat
 need:Nat
 nb: ∀L g,objNb need (enc L g)
 ok: ∀ρ L H n x g,Cov ρ need n→dec ρ L H x=some g→Mk H n x ((enc L g).ren (Wl ρ))
 Zq: ∀ρ L H x g,dec ρ L H x=some g→len g=(lN (some x)).getD 0
theorem XD {α β:Type} {f:α→Option β}: ∀ {xs:List α} {ys:List β},mapO f xs=some ys→ys.length=xs.length
 |[],ys,h=>by simp only[mapO,fk] at h;subst h;rfl
 |x::xs,ys,h=>by
  simp only[mapO,fj,fk] at h
  obtain ⟨y,hy,zs,hz,rfl⟩:=h
  simp [XD hz]
def VI (pY:Bool) (r:Row α):OG (List α) where
 enc _ xs:= .acc pY r.sz (mp r.enc xs)
 dec _ _ _:=daT pY r
 len xs:=xs.length
 need:=0
 nb L g:=wj g
 ok ρ L H n x g _ h:=by
  have:=(Zi pY r).ok H n x g h
  rw[show (AObj.acc pY r.sz (mp r.enc g)).ren (Wl ρ)= .acc pY r.sz (mp r.enc g) from (Zi pY r).ren _ g]
  exact this
 Zq ρ L H x g h:=by
  unfold daT at h
  split at h
  ·split at h
   ·exact XD h
   ·cases h
  ·cases h
def docC (c:AL γ) (ρ:List Nat) (L:DP) (H:List AObj):AObj→Option γ
 | .cells cs=>c.dec ρ L H cs
 |_=>none
def mT (c:AL γ):OG γ where
 enc L g:= .cells (c.enc L g)
 dec:=docC c
 len _:=0
 need:=c.need
 nb L g:=c.nb L g
 ok ρ L H n x g hv h:=by
  unfold docC at h
  split at h
  ·exact .inr (.inr (.inl ⟨_,_,rfl,rfl,c.ok ρ L H n _ _ hv h⟩))
  ·cases h
 Zq ρ L H x g h:=by
  unfold docC at h
  split at h
  ·rfl
  ·cases h
theorem ogA_f {pY:Bool} {r:Row α}:(∀L g,(VI pY r).enc L g= .acc pY r.sz (mp r.enc g))∧(∀ρ L H x,(VI pY r).dec ρ L H x=daT pY r x)∧(∀g,(VI pY r).len g=g.length)∧(VI pY r).need=0:=⟨fun _ _=>rfl,fun _ _ _ _=>rfl,fun _=>rfl,rfl⟩
theorem ogC_f {c:AL γ}:(∀L g,(mT c).enc L g= .cells (c.enc L g))∧(∀ρ L H x,(mT c).dec ρ L H x=docC c ρ L H x)∧(∀g,(mT c).len g=0)∧(mT c).need=c.need:=⟨fun _ _=>rfl,fun _ _ _ _=>rfl,fun _=>rfl,rfl⟩
structure OL (β:Type) where
 enc:DP→β→List AObj
 dec:List Nat→DP→List AObj→List AObj→Option β
 lens:β→DP
 size:Nat
 need:Nat
 sz: ∀L b,(enc L b).length=size
 nb: ∀L b,∀y∈enc L b,objNb need y
 ok: ∀ρ L H n xs b,Cov ρ need n→dec ρ L H xs=some b→xs.length=size∧ ∀ (i:Nat) (y:AObj),(enc L b)[i]? =some y→ ∃x,xs[i]? =some x∧Mk H n x (y.ren (Wl ρ))
 Ht: ∀ρ L H xs b,dec ρ L H xs=some b→xs.length=size
 Xb: ∀ρ L H xs b,dec ρ L H xs=some b→ ∀k,lens b k=(lN xs[k]?).getD 0
def dolN:List AObj→Option Unit
 |[]=>some ()
 |_=>none
def nM:OL Unit where
 enc _ _:=[]
 dec _ _ _:=dolN
 lens _ _:=0
 size:=0
 need:=0
 sz _ _:=rfl
 nb _ _:=by simp
 ok ρ L H n xs b _ h:=by
  unfold dolN at h
  split at h
  ·exact ⟨rfl,by simp⟩
  ·cases h
 Ht ρ L H xs b h:=by
  unfold dolN at h
  split at h
  ·rfl
  ·cases h
 Xb ρ L H xs b h k:=by
  unfold dolN at h
  split at h
  ·rfl
  ·cases h
def dolC (o:OG γ) (s:OL β) (ρ:List Nat) (L:DP) (H:List AObj):List AObj→Option (γ×β)
 |x::xs=>(o.dec ρ L H x).bind fun y=>(s.dec ρ L H xs).bind fun b=>some (y,b)
 |[]=>none
def XY (a:Nat) (f:DP):DP
 |0=>a
 |k+1=>f k
def lG (o:OG γ) (s:OL β):OL (γ×β) where
 enc L b:=o.enc L b.1::s.enc L b.2
 dec:=dolC o s
 lens b:=XY (o.len b.1) (s.lens b.2)
 size:=s.size+1
 need:=max o.need s.need
 sz L b:=by rw[fG,s.sz]
 nb L b y hy:=by
  simp only[fJ] at hy
  rcases hy with rfl|hy
  ·exact Bn (by omega) _ (o.nb L _)
  ·exact Bn (by omega) _ (s.nb L _ y hy)
 ok ρ L H n xs b hv h:=by
  unfold dolC at h
  split at h
  ·rename_i x xs
   simp only[fj,fk] at h
   obtain ⟨y,hy,b,hb,rfl⟩:=h
   obtain ⟨h1,h2⟩:=s.ok ρ L H n _ _ (hv.mono (by omega)) hb
   refine ⟨by rw[fG,h1],fun i z hz=> ?_⟩
   cases i with
   |zero=>simp at hz;subst hz;exact ⟨x,by simp,o.ok ρ L H n _ _ (hv.mono (by omega)) hy⟩
   |succ i=>simp at hz;obtain ⟨q,hq,hc⟩:=h2 i z hz;exact ⟨q,by simpa using hq,hc⟩
  ·cases h
 Ht ρ L H xs b h:=by
  unfold dolC at h
  split at h
  ·simp only[fj,fk] at h
   obtain ⟨y,hy,b,hb,rfl⟩:=h
   rw[fG,s.Ht _ _ _ _ _ hb]
  ·cases h
 Xb ρ L H xs b h k:=by
  unfold dolC at h
  split at h
  ·simp only[fj,fk] at h
   obtain ⟨y,hy,b,hb,rfl⟩:=h
   cases k with
   |zero=>simp only[XY,fS];exact o.Zq ρ L H _ _ hy
   |succ k=>simp only[XY,gi];exact s.Xb ρ L H _ _ hb k
  ·cases h
theorem olN_f:(∀L b,nM.enc L b=[])∧(∀ρ L H xs,nM.dec ρ L H xs=dolN xs)∧(∀b k,nM.lens b k=0)∧nM.size=0∧nM.need=0:=⟨fun _ _=>rfl,fun _ _ _ _=>rfl,fun _ _=>rfl,rfl,rfl⟩
theorem olC_f {o:OG γ} {s:OL β}:(∀L b,(lG o s).enc L b=o.enc L b.1::s.enc L b.2)∧(∀ρ L H xs,(lG o s).dec ρ L H xs=dolC o s ρ L H xs)∧(∀b,(lG o s).lens b=XY (o.len b.1) (s.lens b.2))∧(lG o s).size=s.size+1∧(lG o s).need=max o.need s.need:=⟨fun _ _=>rfl,fun _ _ _ _=>rfl,fun _=>rfl,rfl,rfl⟩
end objs
end Go.Abs
