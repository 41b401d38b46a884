/- A part of the proof: abstract states and the rules for them. -/
import Derived.Test.YtfilfimjoeapgaaDoorCoreB
import Derived.Attr
import Derived.Laws.StructEq
import Derived.ChangeKeysEq
set_option linter.all false
open Option renaming bind_eq_some_iff → fc,bind_some → fG,isSome_some → fY,map_some → gh,map → gz
open Option.some renaming injEq → ff,inj → gy
open List renaming getElem?_eq_getElem → fj,getElem?_eq_some_iff → fk,getElem?_set_self → fm,getElem?_set_ne → fo,replicate → fy,mem_of_getElem? → fA,getElem?_append_right → fC,getElem?_append_left → fD,length_cons → fE,mem_cons → fH,take_left' → fI,drop_left' → fJ,getElem?_map → fL,length_set → fN,nodup_cons → fO,getElem?_cons_zero → fQ,isEmpty_nil → fR,getElem?_eq_none → fS,nil_append → fU,eq_nil_of_length_eq_zero → fV,length_append → fX,length_take → ga,getElem?_cons_succ → gd,length_map → gf,mem_append → gi,take_of_length_le → gk,take_zero → gp,getElem?_of_mem → gq,all_cons → gu,map_cons → gv,map_congr_left → gw,getD → gx
open Prod.mk renaming injEq → fq
open Nat renaming le_refl → fz,lt_of_lt_of_le → fB,not_lt_zero → fT,zero_le → fW,add_sub_cancel_left → gb
open Bool renaming and_eq_true → fF,not_false → gm,true_and → gr
open List.cons renaming injEq → fK
open Array renaming toList_append → fM,toList_push → fZ,toList_replicate → gj
open Go.Fence renaming wide → fP
namespace Go.Abs
def HSim (C:Ctx) (φ:Nat→Value) (H:List AObj) (w:World):Prop:=qq C φ {slots:=[],heap:=H,low:=H.length} {tmps:= #[],defers:=[]} w
def Ob (P:Program) (f:FuncId) (args:List AV) (H:List AObj) (V:wo→List AObj→Prop):Prop:=
 enters P f=true∧nbL H.length args∧(∀x∈H,objNb H.length x)∧ ∀ (C:Ctx) (φ:Nat→Value) (w:World),C.P=P→C.w0=w→C.N0=H.length→(∀l,l<H.length→C.φ0 l=φ l∧C.ln0 l=oR H[l]?)→(∀b o,C.M0 b o↔Ck φ H b o)→
  HSim C φ H w→ ∀vs:Array Value,m7 (C.env φ H w) args vs.toList→
  Calls P f vs w fun e w'=> ∃o φ' H',V o H'∧qq C φ' {slots:=[],heap:=H',low:=H.length} {tmps:= #[],defers:=[]} w'∧o.rep (C.env φ' H' w') e
def tG:List AObj→List Nat→List AObj→List AObj
 |H,l::ls,x::xs=>tG (H.set l x) ls xs
 |H,_,_=>H
def qz (ρ:List Nat) (n:Nat) (l:Nat):Nat:=if l<ρ.length then ρ.getD l 0 else n+(l-ρ.length)
def vo (ρ:List Nat) (H H':List AObj):List AObj:=
 tG H ρ (H'.map (AObj.ren (qz ρ H.length)))++(H'.drop ρ.length).map (AObj.ren (qz ρ H.length))
theorem wH: ∀ (H:List AObj) (ls:List Nat) (xs:List AObj),(tG H ls xs).length=H.length
 |_,[],_=>by simp [tG]
 |_,_::_,[]=>by simp [tG]
 |H,l::ls,x::xs=>by rw[tG,wH,fN]
theorem B7: ∀ (ls:List Nat) (H:List AObj) (xs:List AObj) (k:Nat),k ∉ ls→(tG H ls xs)[k]? =H[k]?
 |[],_,_,_,_=>by simp [tG]
 |_::_,_,[],_,_=>by simp [tG]
 |l::ls,H,x::xs,k,h=>by
  simp only[fH,not_or] at h
  rw[tG,B7 ls _ xs k h.2,fo (fun e=>h.1 e.symm)]
theorem Jr: ∀ (ls:List Nat) (H:List AObj) (xs:List AObj) (i k:Nat) (x:AObj),ls.Nodup→ls[i]? =some k→xs[i]? =some x→k<H.length→(tG H ls xs)[k]? =some x
 |[],_,_,_,_,_,_,h,_,_=>by simp at h
 |_::_,_,[],_,_,_,_,_,h,_=>by simp at h
 |l::ls,H,y::ys,0,k,x,hnd,h,hx,hk=>by
  simp at h hx;subst h hx
  rw[fO] at hnd
  rw[tG,B7 ls _ ys l hnd.1,fm hk]
 |l::ls,H,y::ys,i+1,k,x,hnd,h,hx,hk=>by
  simp at h hx
  rw[fO] at hnd
  rw[tG]
  exact Jr ls _ ys i k x hnd.2 h hx (by rw[fN];exact hk)
def R3:List Nat→Nat→Option Nat
 |[],_=>none
 |x::xs,k=>if x=k then some 0 else (R3 xs k).map (· +1)
theorem Oc: ∀ (ρ:List Nat) (l k:Nat),ρ.Nodup→ρ[l]? =some k→R3 ρ k=some l
 |[],_,_,_,h=>by simp at h
 |x::xs,0,k,_,h=>by simp at h;subst h;simp [R3]
 |x::xs,l+1,k,hnd,h=>by
  simp at h
  rw[fO] at hnd
  have hne:x≠k:=fun e=>hnd.1 (e ▸ fA h)
  simp [R3,hne,Oc xs l k hnd.2 h]
theorem R4: ∀ (ρ:List Nat) (k:Nat),k ∉ ρ→R3 ρ k=none
 |[],_,_=>rfl
 |x::xs,k,h=>by
  simp only[fH,not_or] at h
  have hne:x≠k:=fun e=>h.1 e.symm
  simp [R3,hne,R4 xs k h.2]
section call
variable {C:Ctx} {φ:Nat→Value} {σ:AState} {a:Act} {w:World}
structure MT (T:Value→World→Array Value→(Ending→World→Prop)→Prop):Prop where
 mono: ∀h w vs R R',(∀e w',R e w'→R' e w')→T h w vs R→T h w vs R'
def XY (P:Program) (T:Value→World→Array Value→(Ending→World→Prop)→Prop) (args:List AV) (H:List AObj) (V:wo→List AObj→Prop):Prop:=
 nbL H.length args∧(∀x∈H,objNb H.length x)∧ ∀ (C:Ctx) (φ:Nat→Value) (w:World),C.P=P→C.w0=w→C.N0=H.length→(∀l,l<H.length→C.φ0 l=φ l∧C.ln0 l=oR H[l]?)→(∀b o,C.M0 b o↔Ck φ H b o)→
  HSim C φ H w→ ∀vs:Array Value,m7 (C.env φ H w) args vs.toList→
  T (φ 0) w vs fun e w'=> ∃o φ' H',V o H'∧qq C φ' {slots:=[],heap:=H',low:=H.length} {tmps:= #[],defers:=[]} w'∧o.rep (C.env φ' H' w') e
def Js (P:Program) (T:Value→World→Array Value→(Ending→World→Prop)→Prop) (l:Nat) (args:List AV) (σ:AState) (K:wo→List AObj→Prop):Prop:=
 ∀ (C:Ctx) (φ:Nat→Value) (a:Act) (w:World),C.P=P→qq C φ σ a w→ ∀vs:Array Value,m7 (C.env φ σ.heap w) args vs.toList→
   T (φ l) w vs fun e w'=> ∃o φ' H',K o H'∧qq C φ' {σ with heap:=H'} a w'∧o.rep (C.env φ' H' w') e
theorem Od {P:Program} {T:Value→World→Array Value→(Ending→World→Prop)→Prop} (hT:MT T) {l0:Nat} {Gt args:List AV} {H:List AObj} {V:wo→List AObj→Prop} {K:wo→List AObj→Prop} (h:XY P T args H V) (ρ:List Nat) (hlen:ρ.length=H.length) (hnd:ρ.Nodup)
 (hz: ∀φ:Nat→Value,T (φ (qz ρ σ.heap.length 0))=T (φ l0))
 (hargs:tQ Gt (renL (qz ρ σ.heap.length) args)) (DF: ∀ (i:Nat) (k:Nat) (x:AObj),ρ[i]? =some k→H[i]? =some x→σ.heap[k]? =some (x.ren (qz ρ σ.heap.length)))
 (hK: ∀o H',V o H'→K (o.ren (qz ρ σ.heap.length)) (vo ρ σ.heap H')):Js P T l0 Gt σ K:=by
 obtain ⟨hnbA,DK,hc⟩:=h
 intro C φ a w hP S vs hr
 let ρf:Nat→Nat:=qz ρ σ.heap.length
 have hρ: ∀l,l<H.length→ρ[l]? =some (ρf l):=by
  intro l hl
  have hl':l<ρ.length:=by omega
  simp only[ρf,qz,hl',if_true,gx,fj hl',Option.getD_some]
 let φc:Nat→Value:=fun l=>φ (ρf l)
 have Qk: ∀ (l:Nat) (x:AObj),H[l]? =some x→σ.heap[ρf l]? =some (x.ren ρf):=fun l x hx=>DF l _ x (hρ l (fk.1 hx).1) hx
 have hρlt: ∀l,l<H.length→ρf l<σ.heap.length:=by
  intro l hl
  have:=Qk l H[l] (fj hl)
  exact (fk.1 this).1
 have hinj: ∀l l',l<H.length→l'<H.length→ρf l=ρf l'→l=l':=by
  intro l l' hl hl' he
  have h1:=hρ l hl
  have h2:=hρ l' hl'
  rw[he] at h1
  obtain ⟨i1,e1⟩:=fk.1 h1
  obtain ⟨i2,e2⟩:=fk.1 h2
  exact (List.getElem_inj hnd).1 (by rw[e1,e2])
 have Vo: ∀b o,Ck φc H b o→Ck φ σ.heap b o:=by
  rintro b o ⟨l,x,hx,hm⟩
  exact ⟨ρf l,_,Qk l x hx,Jo.2 hm⟩
 have hA0: ∀b o,((Ck φ σ.heap b o∨C.A b o)∧ ¬ Ck φc H b o)→b<w.heap.size:=by
  rintro b o ⟨⟨l,x,hx,hm⟩|hA,_⟩
  ·exact (S.objs l x hx).th (AObj.qX hm)
  ·exact fB (C.hA b o hA) S.size
 let C':Ctx:=Ctx.mk C.P w (Ck φc H) (fun b o=>(Ck φ σ.heap b o∨C.A b o)∧ ¬ Ck φc H b o) hA0 (fun b o h=>let ⟨v,h1,h2,h3⟩:=S.know b o h;⟨v,h1,h2,fun hm=>h3 (Vo b o hm)⟩) H.length φc (fun l=>oR H[l]?)
 have hmuEq: ∀b o,(Ck φc H b o∨C'.A b o)↔(Ck φ σ.heap b o∨C.A b o):=by
  intro b o
  constructor
  ·rintro (h|h)
   ·exact .inl (Vo b o h)
   ·exact h.1
  ·intro h
   by_cases hm:Ck φc H b o
   ·exact .inl hm
   ·exact .inr ⟨h,hm⟩
 have un:UnLe H.length ρf (C.env φ σ.heap w) (C'.env φc H w):=by
  refine ⟨fz _,fun l hl=>⟨rfl,?_⟩,fun b o u hm hcell=>⟨fun hh=>hm ((hmuEq b o).1 hh),hcell⟩⟩
  simp only[Ctx.env]
  rw[Qk l H[l] (fj hl),BA,fj hl]
 have By: ∀ (l:Nat) (x:AObj) (b:Nat),H[l]? =some x→x.block (φc l) b→ ∃y:AObj,σ.heap[ρf l]? =some y∧y.block (φ (ρf l)) b:=fun l x b hx hb=>⟨_,Qk l x hx,zR.2 hb⟩
 have hown: ∀ (l:Nat) (x:AObj) (b:Nat),H[l]? =some x→x.block (φc l) b→ ∀o,Ck φ σ.heap b o→Ck φc H b o:=by
  rintro l x b hx hb o ⟨k,y,hy,hm⟩
  obtain ⟨z,hz,Wq⟩:=By l x b hx hb
  have hk:=S.apart k (ρf l) y z b hy hz (AObj.qX hm) Wq
  subst hk
  have hf:=Qk l x hx
  rw[hy] at hf
  cases hf
  exact ⟨l,x,hx,Jo.1 hm⟩
 have hS':HSim C' φc H w:=by
  refine {slots:=rfl,defers:=uG.nil,objs:= ?_,apart:= ?_,vk:= ?_,size:=fz _,old:=fun _ _ _ _=>rfl,qQ:=fun _ _ _=>rfl,A9:= ?_,wG:=fun _ _=>rfl,rest:=⟨rfl,rfl⟩,low:=⟨rfl,fz _⟩,names:=fun l hl=> .inl ⟨rfl,.inl rfl⟩}
  ·intro l x hx
   exact qV.Aq un (DK x (fA hx)) (fun _ _=>rfl) (S.objs (ρf l) _ (Qk l x hx))
  ·intro l l' x x' b hx hx' hb hb'
   obtain ⟨z,hz,Wq⟩:=By l x b hx hb
   obtain ⟨z',XB,hzb'⟩:=By l' x' b hx' hb'
   exact hinj l l' (fk.1 hx).1 (fk.1 hx').1 (S.apart _ _ z z' b hz XB Wq hzb')
  ·rintro l x b o hx hb ⟨hA|hA,hn⟩
   ·exact hn (hown l x b hx hb o hA)
   ·obtain ⟨z,hz,Wq⟩:=By l x b hx hb
    exact S.vk _ z b o hz Wq hA
  ·intro l x b o hx hm _
   exact ⟨l,x,hx,hm⟩
 have hr':m7 (C'.env φc H w) args vs.toList:=m7.Aq un _ _ hnbA (hargs _ _ hr)
 have xX:=hc C' φc w hP rfl rfl (fun l _=>⟨rfl,rfl⟩) (fun _ _=>Iff.rfl) hS' vs hr'
 rw[show φc 0=φ (qz ρ σ.heap.length 0) from rfl,hz φ] at xX
 refine hT.mono _ _ _ _ _ ?_ xX
 rintro e w' ⟨o,φ',H',hV,S',uM⟩
 have hHle:H.length≤H'.length:=S'.low.2
 let n:=σ.heap.length
 have XM: ∀k,k<n→(∃l,l<H.length∧ρf l=k)∨k ∉ ρ:=by
  intro k _
  by_cases hm:k∈ρ
  ·obtain ⟨i,hi⟩:=gq hm
   have Uc:=(fk.1 hi).1
   left
   refine ⟨i,by omega,?_⟩
   have:=hρ i (by omega)
   rw[hi] at this;cases this;rfl
  ·exact .inr hm
 let ix:Nat→Option Nat:=R3 ρ
 have hix: ∀l,l<H.length→ix (ρf l)=some l:=by
  intro l hl
  exact Oc ρ l _ hnd (hρ l hl)
 have hix0: ∀k,k ∉ ρ→ix k=none:=by
  intro k hk
  exact R4 ρ k hk
 let φ2:Nat→Value:=fun k=>if k<n then (match ix k with|some l=>φ' l|none=>φ k) else φ' (H.length+(k-n))
 have QO: ∀l,l<H'.length→φ2 (ρf l)=φ' l:=by
  intro l hl
  by_cases h1:l<H.length
  ·simp only[φ2]
   rw[if_pos (hρlt l h1),hix l h1]
  ·have h2:ρf l=n+(l-H.length):=by
    have: ¬ l<ρ.length:=by omega
    show qz ρ σ.heap.length l=_
    unfold qz
    rw[if_neg this,hlen]
   simp only[φ2]
   rw[if_neg (by omega),h2]
   congr 1;omega
 have R5: ∀k,k<n→k ∉ ρ→φ2 k=φ k:=by
  intro k hk hm
  simp only[φ2]
  rw[if_pos hk,hix0 k hm]
 let H2:List AObj:=vo ρ σ.heap H'
 have hH2f: ∀ (l:Nat) (hl:l<H'.length),H2[ρf l]? =some ((H'[l]).ren ρf):=by
  intro l hl
  simp only[H2,vo]
  by_cases h1:l<H.length
  ·have hlt:=hρlt l h1
   rw[fD (by rw[wH];exact hlt)]
   exact Jr ρ σ.heap _ l (ρf l) _ hnd (hρ l h1) (by rw[fL,fj hl];rfl) hlt
  ·have h2:ρf l=n+(l-H.length):=by
    have: ¬ l<ρ.length:=by omega
    show qz ρ σ.heap.length l=_
    unfold qz
    rw[if_neg this,hlen]
   rw[h2,fC (by rw[wH];omega),wH]
   rw[fL,List.getElem?_drop,hlen]
   have e:H.length+(n+(l-H.length)-σ.heap.length)=l:=by simp only[n];omega
   rw[e,fj hl];rfl
 have hH2o: ∀k,k<n→k ∉ ρ→H2[k]? =σ.heap[k]? :=by
  intro k hk hm
  simp only[H2,vo]
  rw[fD (by rw[wH];exact hk)]
  exact B7 ρ _ _ k hm
 have hH2len:H2.length=n+(H'.length-H.length):=by
  simp only[H2,vo,fX,wH,gf,List.length_drop,hlen];rfl
 have hH2: ∀ (k:Nat) (y:AObj),H2[k]? =some y→(∃l,∃hl:l<H'.length,k=ρf l∧y=(H'[l]).ren ρf)∨(k<n∧k ∉ ρ∧σ.heap[k]? =some y):=by
  intro k y hy
  have hk:k<H2.length:=(fk.1 hy).1
  by_cases h1:k<n
  ·rcases XM k h1 with ⟨l,hl,rfl⟩|hm
   ·left
    have:=hH2f l (by omega)
    rw[hy] at this;cases this
    exact ⟨l,by omega,rfl,rfl⟩
   ·right
    rw[hH2o k h1 hm] at hy
    exact ⟨h1,hm,hy⟩
  ·left
   have hl:H.length+(k-n)<H'.length:=by omega
   have hk2:ρf (H.length+(k-n))=k:=by
    have: ¬ H.length+(k-n)<ρ.length:=by omega
    show qz ρ σ.heap.length _=_
    unfold qz
    rw[if_neg this,hlen]
    simp only[n] at h1 ⊢;omega
   have:=hH2f _ hl
   rw[hk2,hy] at this;cases this
   exact ⟨_,hl,hk2.symm,rfl⟩
 have hMut2: ∀b o,Ck φ2 H2 b o→Ck φ' H' b o∨ ∃ (k:Nat) (y:AObj),k<n∧k ∉ ρ∧σ.heap[k]? =some y∧y.muts (φ k) b o:=by
  rintro b o ⟨k,y,hy,hm⟩
  rcases hH2 k y hy with ⟨l,hl,rfl,rfl⟩|⟨h1,h2,h3⟩
  ·left
   rw[QO l hl] at hm
   exact ⟨l,_,fj hl,Jo.1 hm⟩
  ·right
   rw[R5 k h1 h2] at hm
   exact ⟨k,y,h1,h2,h3,hm⟩
 have hsep: ∀ (k:Nat) (y:AObj) (b:Nat),k<n→k ∉ ρ→σ.heap[k]? =some y→y.block (φ k) b→ ∀o,¬ Ck φc H b o:=by
  rintro k y b hk hm hy hb o ⟨l,x,hx,MB⟩
  obtain ⟨z,hz,Wq⟩:=By l x b hx (AObj.qX MB)
  have e:=S.apart k (ρf l) y z b hy hz hb Wq
  apply hm
  rw[e]
  exact fA (hρ l (fk.1 hx).1)
 have Rl: ∀ (l:Nat) (hl:l<H'.length) (b:Nat),(H'[l]).block (φ' l) b→b<w.heap.size→ ∃ (k:Nat) (x:AObj),H[k]? =some x∧x.block (φc k) b:=by
  intro l hl b hb hlt
  obtain ⟨o,MB⟩:=IA hb
  obtain ⟨k,x,hx,hmx⟩:=S'.A9 l _ b o (fj hl) MB hlt
  exact ⟨k,x,hx,AObj.qX hmx⟩
 have le:(C.env φ σ.heap w).Le n (C.env φ2 H2 w'):=by
  refine ⟨by simp only[Ctx.env];omega,fun k hk=> ?_,fun b o' u hm hcell=> ?_⟩
  ·rcases XM k hk with ⟨l,hl,rfl⟩|hm
   ·have hn:=S'.names l hl
    simp only[Ctx.env]
    rw[QO l (by omega),hH2f l (by omega),BA,Qk l H[l] (fj hl),BA]
    have h1:oR H'[l]? =oR (some H'[l]):=by rw[fj (by omega)]
    have h2:C'.ln0 l=oR (some H[l]):=by show oR H[l]? =_;rw[fj hl]
    rw[h1,h2] at hn
    exact hn
   ·left
    simp only[Ctx.env]
    rw[R5 k hk hm,hH2o k hk hm]
    exact ⟨rfl,.inl rfl⟩
  ·have hb:=CT hcell
   simp only[Ctx.env] at hb hm ⊢
   have hnc: ¬ Ck φc H b o':=fun hh=>hm (.inl (Vo b o' hh))
   refine ⟨?_,by rw[S'.old b o' hb hnc];exact hcell⟩
   rintro (hh|hh)
   ·rcases hMut2 b o' hh with ⟨l,x,hx,MB⟩|⟨k,y,_,_,hy,MB⟩
    ·exact hnc (S'.A9 l x b o' hx MB hb)
    ·exact hm (.inl ⟨k,y,hy,MB⟩)
   ·exact hm (.inr hh)
 have ren:N6 H'.length ρf (C'.env φ' H' w') (C.env φ2 H2 w'):=by
  refine ⟨fun l hl=> ?_,fun l hl=> ?_,fun b o' u hm hcell=>⟨?_,hcell⟩⟩
  ·have:=hH2f l hl
   exact (fk.1 this).1
  ·simp only[Ctx.env]
   rw[QO l hl,hH2f l hl,BA,fj hl]
   exact ⟨rfl,.inl rfl⟩
  ·simp only[Ctx.env] at hm ⊢
   rintro (hh|hh)
   ·rcases hMut2 b o' hh with h1|⟨k,y,hk,hkm,hy,MB⟩
    ·exact hm (.inl h1)
    ·exact hm (.inr ⟨.inl ⟨k,y,hy,MB⟩,hsep k y b hk hkm hy (AObj.qX MB) o'⟩)
   ·refine hm (.inr ⟨.inr hh,?_⟩)
    rintro ⟨l,x,hx,MB⟩
    obtain ⟨z,hz,Wq⟩:=By l x b hx (AObj.qX MB)
    exact S.vk _ z b o' hz Wq hh
 have S2:qq C φ2 {σ with heap:=H2} a w':=by
  have At:uG C φ2 H2 w' σ.df a.defers:=by
   refine S.defers.step le (fun b hb hno=>S'.qQ b hb (fun o' hh=> ?_)) (fun k x b hx hb=> ?_)
   ·obtain ⟨l,x,hx,MB⟩:=hh
    obtain ⟨z,XB,Wq⟩:=By l x b hx (AObj.qX MB)
    exact hno _ z XB Wq
   ·by_cases hbs:b<w.heap.size
    ·rcases hH2 k x hx with ⟨l,hl,rfl,rfl⟩|⟨h1,h2,h3⟩
     ·rw[QO l hl] at hb
      obtain ⟨q,z,XB,Wq⟩:=Rl l hl b (zR.1 hb) hbs
      obtain ⟨z',hz2,hzb'⟩:=By q z b XB Wq
      exact .inl ⟨_,z',hz2,hzb'⟩
     ·rw[R5 k h1 h2] at hb
      exact .inl ⟨k,x,h3,hb⟩
    ·exact .inr (by omega)
  refine {slots:=m7.mono le _ _ (m7.nb _ _ S.slots) S.slots,defers:=At,objs:= ?_,apart:= ?_,vk:= ?_,size:=Nat.le_trans S.size S'.size,old:= ?_,qQ:= ?_,A9:= ?_,wG:=fun x hx=>(S'.wG x (fB hx S.size)).trans (S.wG x hx),rest:=⟨S'.rest.1.trans S.rest.1,S'.rest.2.trans S.rest.2⟩,low:=⟨S.low.1,by have:=S.low.2;show σ.low≤H2.length;omega⟩,names:= ?_}
  ·intro k y hy
   rcases hH2 k y hy with ⟨l,hl,rfl,rfl⟩|⟨h1,h2,h3⟩
   ·rw[QO l hl]
    have r0:=S'.objs l _ (fj hl)
    exact qV.ren ren (Jp r0) (fun _ _=>rfl) r0
   ·rw[R5 k h1 h2]
    have r0:=S.objs k y h3
    exact qV.mono r0 le (fun b hb=>S'.qQ b (r0.th hb) (hsep k y b h1 h2 h3 hb))
  ·intro k k' x x' b hx hx' hb hb'
   rcases hH2 k x hx with ⟨l,hl,rfl,rfl⟩|⟨h1,h2,h3⟩<;>rcases hH2 k' x' hx' with ⟨l',hl',rfl,rfl⟩|⟨h1',h2',h3'⟩
   ·rw[QO l hl] at hb
    rw[QO l' hl'] at hb'
    have:=S'.apart l l' _ _ b (fj hl) (fj hl') (zR.1 hb) (zR.1 hb')
    rw[this]
   ·rw[QO l hl] at hb
    rw[R5 k' h1' h2'] at hb'
    exfalso
    obtain ⟨q,z,hz,Wq⟩:=Rl l hl b (zR.1 hb) ((S.objs k' x' h3').th hb')
    obtain ⟨o'',MB⟩:=IA Wq
    exact hsep k' x' b h1' h2' h3' hb' o'' ⟨q,z,hz,MB⟩
   ·rw[QO l' hl'] at hb'
    rw[R5 k h1 h2] at hb
    exfalso
    obtain ⟨q,z,hz,Wq⟩:=Rl l' hl' b (zR.1 hb') ((S.objs k x h3).th hb)
    obtain ⟨o'',MB⟩:=IA Wq
    exact hsep k x b h1 h2 h3 hb o'' ⟨q,z,hz,MB⟩
   ·rw[R5 k h1 h2] at hb
    rw[R5 k' h1' h2'] at hb'
    exact S.apart k k' x x' b h3 h3' hb hb'
  ·intro k x b o' hx hb
   rcases hH2 k x hx with ⟨l,hl,rfl,rfl⟩|⟨h1,h2,h3⟩
   ·rw[QO l hl] at hb
    intro hA
    have hbs:b<w.heap.size:=fB (C.hA b o' hA) S.size
    obtain ⟨q,z,hz,Wq⟩:=Rl l hl b (zR.1 hb) hbs
    obtain ⟨z',XB,hzb'⟩:=By q z b hz Wq
    exact S.vk _ z' b o' XB hzb' hA
   ·rw[R5 k h1 h2] at hb
    exact S.vk k x b o' h3 hb
  ·intro b o' hb hm
   have hb':b<w.heap.size:=fB hb S.size
   have hnc: ¬ Ck φc H b o':=by
    intro hh
    obtain ⟨k,y,hy,MB⟩:=Vo b o' hh
    exact hm (S.A9 k y b o' hy MB hb)
   exact (S'.old b o' hb' hnc).trans (S.old b o' hb hm)
  ·intro b hb hm
   have hb':b<w.heap.size:=fB hb S.size
   have hnc: ∀o',¬ Ck φc H b o':=by
    intro o' hh
    obtain ⟨k,y,hy,MB⟩:=Vo b o' hh
    exact hm o' (S.A9 k y b o' hy MB hb)
   exact (S'.qQ b hb' hnc).trans (S.qQ b hb hm)
  ·intro k x b o' hx MB hb
   rcases hH2 k x hx with ⟨l,hl,rfl,rfl⟩|⟨h1,h2,h3⟩
   ·rw[QO l hl] at MB
    obtain ⟨q,z,hz,hmz⟩:=S'.A9 l _ b o' (fj hl) (Jo.1 MB) (fB hb S.size)
    obtain ⟨k2,y2,hy2,hmu2⟩:=Vo b o' ⟨q,z,hz,hmz⟩
    exact S.A9 k2 y2 b o' hy2 hmu2 hb
   ·rw[R5 k h1 h2] at MB
    exact S.A9 k x b o' h3 MB hb
  ·intro k hk
   have hkn:k<n:=by have:=S.low;simp only[n];omega
   have hn:=S.names k hk
   show (φ2 k=_∧_)∨_
   rcases XM k hkn with ⟨l,hl,rfl⟩|hm
   ·have hn':=S'.names l hl
    rw[QO l (by omega),hH2f l (by omega),BA]
    rw[Qk l H[l] (fj hl),BA] at hn
    have h1:oR H'[l]? =oR (some H'[l]):=by rw[fj (by omega)]
    have h2:C'.ln0 l=oR (some H[l]):=by show oR H[l]? =_;rw[fj hl]
    have h3:C'.φ0 l=φ (ρf l):=rfl
    rw[h1,h2,h3] at hn'
    rcases hn' with ⟨ha,hb|hb⟩|⟨⟨q,hq,hlt⟩,hp,hmp⟩
    ·rw[ha,hb];exact hn
    ·rw[hb]
     rcases hn with ⟨hc1,_⟩|⟨⟨q,hq,_⟩,hp,hmp⟩
     ·exact .inl ⟨by rw[ha];exact hc1,.inr rfl⟩
     ·exact .inr ⟨⟨q,hq,fun k' hk'=>by cases hk'⟩,hp,hmp⟩
    ·right
     rcases hn with ⟨hc1,hc2|hc2⟩|⟨⟨q2,hq2,hlt2⟩,hp2,hmp2⟩
     ·rw[hq] at hc2
      exact ⟨⟨q,hc2.symm,hlt⟩,by rw[←hc1];exact ⟨hp,hmp⟩⟩
     ·rw[hq] at hc2;cases hc2
     ·exact ⟨⟨q2,hq2,fun k' hk'=>by have:=hlt k' hk';have:=hlt2 q hq;omega⟩,hp2,hmp2⟩
   ·rw[R5 k hkn hm,hH2o k hkn hm];exact hn
 refine ⟨o.ren ρf,φ2,H2,hK o H' hV,S2,?_⟩
 cases o with
 |ret r=>
  cases e with
  |returned v=>exact rB.ren ren r v (rB.nb _ _ uM) uM
  |panicked chain=>exact uM.elim
  |outgrown=>exact uM.elim
 |panic x=>
  cases e with
  |returned v=>exact uM.elim
  |panicked chain=>
   obtain ⟨v,hv,hr⟩:=uM
   exact ⟨v,hv,rB.ren ren x v (rB.nb _ _ hr) hr⟩
  |outgrown=>exact uM.elim
theorem NB {P:Program} {f:FuncId}:MT (fun _ w vs R=>Calls P f vs w R):=⟨fun _ _ _ _ _ hr h=>Calls.mono h hr⟩
theorem XZ {P:Program}:MT (Nx P):=⟨fun _ _ _ _ _ hr h D rec h1 h2=>(h D rec h1 h2).mono hr⟩
theorem Wr {P:Program} {f:FuncId} {Gt args:List AV} {H:List AObj} {V:wo→List AObj→Prop} {K:wo→List AObj→Prop} (h:Ob P f args H V) (ρ:List Nat) (hlen:ρ.length=H.length) (hnd:ρ.Nodup)
 (hargs:tQ Gt (renL (qz ρ σ.heap.length) args)) (DF: ∀ (i:Nat) (k:Nat) (x:AObj),ρ[i]? =some k→H[i]? =some x→σ.heap[k]? =some (x.ren (qz ρ σ.heap.length)))
 (hK: ∀o H',V o H'→K (o.ren (qz ρ σ.heap.length)) (vo ρ σ.heap H')):AU P f Gt σ K:=
 ⟨h.1,Od (T:=fun _ w vs R=>Calls P f vs w R) (l0:=0) NB h.2 ρ hlen hnd (fun _=>rfl) hargs DF hK⟩
end call
theorem qV.monoN {E E':Env} {N:Nat} {x:AObj} {hd:Value} (r:qV E x hd) (h:E.Le N E') (hn:objNb N x) (hs:E'.w=E.w:=by rfl):qV E' x hd:=by
 cases x with
 |cells cs=>obtain ⟨b,c,t,h1,h2,rl,h3⟩:=r;exact ⟨b,c,t,h1,by rw[hs];exact h2,m7.mono h _ _ hn rl,h3⟩
 |acc uO sz rows=>
  obtain ⟨base,cap,h1,h2,h3,h4,h5⟩:=r
  refine ⟨base,cap,h1,h2,h3,h4,fun a0 ha hc=> ?_⟩
  obtain ⟨h6,c,t,h7,h8,rl,h9⟩:=h5 a0 ha hc
  exact ⟨h6,c,t,by rw[hs];exact h7,h8,m7.mono h _ _ (Dp hn) rl,h9⟩
 |map es=>obtain ⟨r',en,cl,h1,h2,rp⟩:=r;exact ⟨r',en,cl,h1,by rw[hs];exact h2,tX.mono h hn rp⟩
 |loop k slots st uL=>obtain ⟨D,rec,h1,h2,h3,h4,rl⟩:=r;exact ⟨D,rec,h1,by rw[hs];exact h2,by rw[hs];exact h3,h4,m7.mono h _ _ hn rl⟩
 |iter s p=>obtain ⟨b,h1,h2⟩:=r;exact ⟨b,h1,by rw[hs];exact h2⟩
 |dead=>trivial
def IB (σ:AState) (x r:AV) (H':List AObj):Prop:=
 ∀ (C:Ctx) (φ:Nat→Value) (a:Act) (w:World),qq C φ σ a w→ ∀v,rB (C.env φ σ.heap w) x v→
   ∃φ',qq C φ' {slots:=[],heap:=H',low:=σ.low} {tmps:= #[],defers:=[]} w∧rB (C.env φ' H' w) r v
def outX (low l k:Nat):Nat:=if k<low then k else if k=l then low else low+1+k
section export_
variable {σ:AState}
theorem IB.sub {x r r':AV} {H':List AObj} (h:IB σ x r H') (hs:Sub r r'):IB σ x r' H':=fun C φ a w S v hv=>
 let ⟨φ',S',hr⟩:=h C φ a w S v hv
 ⟨φ',S',hs _ _ hr⟩
theorem X1 {H:List AObj} {low l:Nat} (hl:l<low):(H.take low)[l]? =H[l]? :=by rw[List.getElem?_take,if_pos hl]
theorem export_one {x:AV} {l:Nat} {y:AObj} (hl:σ.heap[l]? =some y) (DD:σ.low≤l) (hnb: ∀z∈σ.heap.take σ.low,objNb σ.low z) (hy:objNb σ.low y) (hr:(x.ren (outX σ.low l)).nb (σ.low+1)):
 IB σ x (x.ren (outX σ.low l)) (σ.heap.take σ.low++[y]):=by
 intro C φ a w S v hv
 have hlowle:=S.low.2
 have hHl:(σ.heap.take σ.low).length=σ.low:=by rw[ga];omega
 let H':=σ.heap.take σ.low++[y]
 let φ':Nat→Value:=fun k=>if k=σ.low then φ l else φ k
 have hφ': ∀k,k<σ.low→φ' k=φ k:=fun k hk=>by simp only[φ'];rw[if_neg (by omega)]
 have hφl:φ' σ.low=φ l:=by simp [φ']
 have hget0: ∀k,k<σ.low→H'[k]? =σ.heap[k]? :=by
  intro k hk
  simp only[H']
  rw[fD (by omega),X1 hk]
 have hgetl:H'[σ.low]? =some y:=by
  simp only[H']
  rw[fC (by omega),hHl,Nat.sub_self];rfl
 have hHlen:H'.length=σ.low+1:=by simp only[H',fX,hHl,fE,List.length_nil]
 have ql: ∀ (k:Nat) (z:AObj),H'[k]? =some z→(k<σ.low∧σ.heap[k]? =some z)∨(k=σ.low∧z=y):=by
  intro k z hz
  have hk:k<σ.low+1:=by rw[←hHlen];exact (fk.1 hz).1
  by_cases e:k=σ.low
  ·subst e;rw[hgetl] at hz;cases hz;exact .inr ⟨rfl,rfl⟩
  ·left
   rw[hget0 k (by omega)] at hz
   exact ⟨by omega,hz⟩
 let old:Nat→Nat:=fun k=>if k=σ.low then l else k
 have hold: ∀ (k:Nat) (z:AObj),H'[k]? =some z→σ.heap[old k]? =some z∧φ' k=φ (old k):=by
  intro k z hz
  rcases ql k z hz with ⟨h1,h2⟩|⟨rfl,rfl⟩
  ·simp only[old];rw[if_neg (by omega)];exact ⟨h2,hφ' k h1⟩
  ·simp only[old,if_true];exact ⟨hl,hφl⟩
 have holdinj: ∀k k',k<σ.low+1→k'<σ.low+1→old k=old k'→k=k':=by
  intro k k' hk hk' he
  simp only[old] at he
  split at he<;>split at he<;>omega
 have B6: ∀b o,Ck φ' H' b o→Ck φ σ.heap b o:=by
  rintro b o ⟨k,z,hz,hm⟩
  obtain ⟨h1,h2⟩:=hold k z hz
  rw[h2] at hm
  exact ⟨old k,z,h1,hm⟩
 have le:(C.env φ σ.heap w).Le σ.low (C.env φ' H' w):=by
  refine ⟨by simp only[Ctx.env];omega,fun k hk=> .inl ⟨hφ' k hk,.inl (by simp only[Ctx.env];rw[hget0 k hk])⟩,fun b o u hm hc=>⟨fun h=>hm (h.imp (B6 b o) id),hc⟩⟩
 refine ⟨φ',{slots:=rfl,defers:=uG.nil,objs:= ?_,apart:= ?_,vk:= ?_,size:=S.size,old:=S.old,qQ:=S.qQ,A9:= ?_,wG:=S.wG,rest:=S.rest,low:=⟨S.low.1,by show σ.low≤H'.length;omega⟩,names:= ?_},?_⟩
 ·intro k z hz
  show qV (C.env φ' H' w) z (φ' k)
  obtain ⟨h1,h2⟩:=hold k z hz
  rw[h2]
  refine (S.objs (old k) z h1).monoN le ?_
  rcases ql k z hz with ⟨h3,h4⟩|⟨rfl,rfl⟩
  ·exact hnb z (fA ((X1 h3).trans h4))
  ·exact hy
 ·intro k k' z z' b hz XB hb hb'
  obtain ⟨h1,h2⟩:=hold k z hz
  obtain ⟨h1',h2'⟩:=hold k' z' XB
  rw[h2] at hb
  rw[h2'] at hb'
  have hk:k<σ.low+1:=by rw[←hHlen];exact (fk.1 hz).1
  have hk':k'<σ.low+1:=by rw[←hHlen];exact (fk.1 XB).1
  exact holdinj k k' hk hk' (S.apart _ _ z z' b h1 h1' hb hb')
 ·intro k z b o hz hb
  obtain ⟨h1,h2⟩:=hold k z hz
  rw[h2] at hb
  exact S.vk _ z b o h1 hb
 ·intro k z b o hz hm hb
  obtain ⟨h1,h2⟩:=hold k z hz
  rw[h2] at hm
  exact S.A9 _ z b o h1 hm hb
 ·intro k hk
  have hk':k<σ.low:=by have:=S.low.1;omega
  show (φ' k=_∧(oR H'[k]? =_∨_))∨_
  rw[hφ' k hk',hget0 k hk']
  exact S.names k hk
 ·
  let E2:Env:={w,mu:=(C.env φ' H' w).mu,φ:=fun k=>if k<σ.low+1 then φ' k else φ (k-(σ.low+1)),ln:=fun k=>if k<σ.low+1 then oR H'[k]? else none,n:=σ.low+1+σ.heap.length}
  have ren:N6 σ.heap.length (outX σ.low l) (C.env φ σ.heap w) E2:=by
   refine ⟨fun k hk=> ?_,fun k hk=> ?_,fun b o u hm hc=>⟨fun h=>hm (h.imp (B6 b o) id),hc⟩⟩
   ·simp only[outX,E2]
    split
    ·omega
    ·split<;>omega
   ·simp only[outX,E2,Ctx.env]
    split
    ·rename_i h1
     rw[if_pos (by omega),if_pos (by omega),hφ' k h1,hget0 k h1]
     exact ⟨rfl,.inl rfl⟩
    ·split
     ·rename_i h1 h2
      subst h2
      rw[if_pos (by omega),if_pos (by omega),hφl,hgetl,hl]
      exact ⟨rfl,.inl rfl⟩
     ·rw[if_neg (by omega),if_neg (by omega)]
      refine ⟨?_,.inr rfl⟩
      congr 1;omega
  have h1:=rB.ren ren x v (rB.nb _ _ hv) hv
  have le2:E2.Le (σ.low+1) (C.env φ' H' w):=by
   refine ⟨by simp only[Ctx.env];show σ.low+1≤H'.length;omega,fun k hk=> .inl ⟨?_,.inl ?_⟩,fun b o u hm hc=>⟨hm,hc⟩⟩
   ·show φ' k=if k<σ.low+1 then φ' k else _
    rw[if_pos hk]
   ·show oR H'[k]? =if k<σ.low+1 then oR H'[k]? else none
    rw[if_pos hk]
  exact rB.mono le2 _ v hr h1
end export_
theorem A6 {F:Fence} {n:Nat} {P:Program} {f:FuncId} {args:Array Value} {u:FrameMode} {w:World} {R R':Ending→FrameMode→World→Prop} (h:CallsDIn F n P f args u w R) (hr: ∀e u' w',R e u' w'→R' e u' w'):CallsDIn F n P f args u w R':=by
 refine ⟨h.1,fun c cs hc hroom=> ?_⟩
 obtain ⟨e,u',w',fr,hR,sY⟩:=h.2 c cs hc hroom
 exact ⟨e,u',w',fr,hr _ _ _ hR,sY⟩
def X3 (P:Program) (f:FuncId):Value→World→Array Value→(Ending→World→Prop)→Prop:=fun _ w vs R=>
 CallsDIn fP 0 P f vs .returning w fun e u' w'=> ∃r,e= .returned r∧settle u'= .returning∧R (.returned r) w'
def X4 (P:Program) (f:FuncId):Value→World→Array Value→(Ending→World→Prop)→Prop:=fun _ w vs R=> ∀ (Ws:Array Value) (v:Value),vs=Ws.push v→
 CallsDIn fP 0 P f Ws (.panicking [{v,recovered:=false}]) w fun e u' w'=> ∃r,e= .returned r∧
  ((settle u'= .returning∧R (.returned r) w')∨ ∃v',settle u'= .panicking [{v:=v',recovered:=false}]∧R (.panicked [{v:=v',recovered:=false}]) w')
theorem Vp {P:Program} {f:FuncId}:MT (X3 P f):=⟨fun _ _ _ _ _ hr h=>A6 h fun _ _ _ ⟨r,h1,h2,h3⟩=>⟨r,h1,h2,hr _ _ h3⟩⟩
theorem Vq {P:Program} {f:FuncId}:MT (X4 P f):=⟨fun _ _ _ _ _ hr h Ws v hv=>A6 (h Ws v hv) fun _ _ _ ⟨r,h1,h2⟩=>⟨r,h1,h2.imp (fun ⟨h3,h4⟩=>⟨h3,hr _ _ h4⟩) fun ⟨v',h3,h4⟩=>⟨v',h3,hr _ _ h4⟩⟩⟩
def Oe (P:Program) (fin:Option AV→AState→Prop):List (FuncId×List AV)→Option AV→AState→Prop
 |[],m,σ=>fin m σ
 |(f,args)::ds,none,σ=>enters P f=true∧Js P (X3 P f) 0 args {σ with df:=ds} (fun o H'=>match o with
    | .ret _=>Oe P fin ds none {σ with heap:=H',df:=ds}
    | .panic _=>False)
 |(f,args)::ds,some x,σ=>enters P f=true∧Js P (X4 P f) 0 (args++[x]) {σ with df:=ds} (fun o H'=>match o with
    | .ret _=>Oe P fin ds none {σ with heap:=H',df:=ds}
    | .panic x'=>Oe P fin ds (some x') {σ with heap:=H',df:=ds})
section unw
variable {C:Ctx} {φ:Nat→Value} {σ:AState} {w:World} {tmps:Array Value} {ds:List Deferred}
theorem qq.unpush {x:AV} {v:Value} (S:qq C φ {σ with slots:=σ.slots++[x]} {tmps:=tmps.push v,defers:=ds} w) (hl:σ.slots.length=tmps.size):qq C φ σ {tmps,defers:=ds} w∧rB (C.env φ σ.heap w) x v:=by
 have h1:=S.slots.take σ.slots.length
 have h2:=S.slots.drop σ.slots.length
 have hlen:tmps.toList.length=σ.slots.length:=by simp [hl]
 simp only[fZ] at h1 h2
 rw[fI rfl,fI hlen] at h1
 rw[fJ rfl,fJ hlen] at h2
 obtain ⟨u,us,he2,r1,_⟩:=h2
 simp only[fK] at he2
 obtain ⟨rfl,_⟩:=he2
 exact ⟨{S with slots:=h1,defers:=S.defers},r1⟩
theorem qq.repush {x:AV} {v:Value} (S:qq C φ σ {tmps,defers:=ds} w) (h:rB (C.env φ σ.heap w) x v):qq C φ {σ with slots:=σ.slots++[x]} {tmps:=tmps.push v,defers:=ds} w:=by
 refine {S with slots:= ?_,defers:=S.defers}
 have hv:m7 (C.env φ σ.heap w) [x] [v]:=⟨v,[],rfl,h,rfl⟩
 simp only[fZ]
 exact S.slots.append hv
theorem qq.len (S:qq C φ σ {tmps,defers:=ds} w):σ.slots.length=tmps.size:=by
 have:=S.slots.length
 simpa using this.symm
theorem qq.lenP {x:AV} {v:Value} (S:qq C φ {σ with slots:=σ.slots++[x]} {tmps:=tmps.push v,defers:=ds} w):σ.slots.length=tmps.size:=by
 have:=S.slots.length
 simp at this
 exact this.symm
theorem qq.pop {d:Deferred} (S:qq C φ σ {tmps,defers:=d::ds} w) (hm:NR d=false):
 ∃f xs df' cap,σ.df=(f,xs)::df'∧d.target= .fn (.func f) cap∧m7 (C.env φ σ.heap w) xs (d.args++cap).toList∧qq C φ {σ with df:=df'} {tmps,defers:=ds} w:=by
 obtain ⟨h1,h2,h3⟩:=S.defers
 simp only[List.filter_cons,hm,gm,if_true,Bool.false_eq_true,if_false] at h1 h3
 cases hdf:σ.df with
 |nil=>rw[hdf] at h3;cases h3
 |cons p df'=>
  obtain ⟨f,xs⟩:=p
  rw[hdf] at h3
  obtain ⟨d',s,cap,he,ht,hr,sY⟩:=h3
  simp only[fK] at he
  obtain ⟨rfl,rfl⟩:=he
  exact ⟨f,xs,df',cap,rfl,ht,hr,{S with slots:=S.slots,defers:=⟨h1,fun d' hd'=>h2 d' (List.mem_cons_of_mem _ hd'),sY⟩}⟩
theorem R6 {P:Program} {d:Deferred} {f:FuncId} {cap:Array Value} (ht:d.target= .fn (.func f) cap) (he:enters P f=true):(invoke d.target d.args).run P w= .ok (.enter f (d.args++cap)) w:=by
 unfold enters at he
 split at he
 ·rename_i fn hfn
  simp only[fF,bne_iff_ne,ne_eq] at he
  have hnone:fn.body≠none:=by intro hb;simp [hb] at he
  simp [ht,invoke,callFunc,hfn,he.2,hnone]
 ·cases he
theorem NC {fn:Func} {R:Ending→World→Prop} {fin:Option AV→AState→Prop}
 (hr: ∀φ σ w,qq C φ σ {tmps,defers:=[]} w→fin none σ→ ∃v,(results fn tmps).run C.P w= .ok v w∧R (.returned v) w)
 (hp: ∀φ σ x v w,qq C φ σ {tmps,defers:=[]} w→rB (C.env φ σ.heap w) x v→fin (some x) σ→R (.panicked [{v,recovered:=false}]) w):
 ∀ (ds:List Deferred),
   (∀φ σ w,qq C φ σ {tmps,defers:=ds} w→Oe C.P fin σ.df none σ→LeavesInM fP 0 C.P fn tmps R ds .returning w)∧
   (∀φ σ x v w,qq C φ {σ with slots:=σ.slots++[x]} {tmps:=tmps.push v,defers:=ds} w→Oe C.P fin σ.df (some x) σ→LeavesInM fP 0 C.P fn tmps R ds (.panicking [{v,recovered:=false}]) w)
 |[]=>by
  refine ⟨fun φ σ w S h=> ?_,fun φ σ x v w S h=> ?_⟩
  ·have hd:σ.df=[]:=by
    have:=S.defers.2.2
    cases hdf:σ.df with
    |nil=>rfl
    |cons p r=>rw[hdf] at this;obtain ⟨_,_,_,h,_⟩:=this;cases h
   rw[hd] at h
   exact hr φ σ w S h
  ·obtain ⟨S',hx⟩:=S.unpush S.lenP
   have hd:σ.df=[]:=by
    have:=S'.defers.2.2
    cases hdf:σ.df with
    |nil=>rfl
    |cons p r=>rw[hdf] at this;obtain ⟨_,_,_,h,_⟩:=this;cases h
   rw[hd] at h
   exact hp φ σ x v w S' hx h
 |d::ds=>by
  obtain ⟨ihr,ihp⟩:=NC hr hp ds
  refine ⟨fun φ σ w S h=> ?_,fun φ σ x v w S h=> ?_⟩
  ·cases hm:NR d with
   |true=>
    obtain ⟨D,hD,_⟩:=S.defers.2.1 d (List.mem_cons_self) hm
    subst hD
    obtain ⟨h1,S'⟩:=S.Oa
    exact ⟨by simp,.inl ⟨D,_,rfl,run_takeDeferred h1,ihr φ σ _ S' h⟩⟩
   |false=>
    obtain ⟨f,xs,df',cap,hdf,ht,hxs,S'⟩:=S.pop hm
    rw[hdf] at h
    obtain ⟨he,hc⟩:=h
    refine ⟨by simp,.inr ⟨fun h=>by simp [fP] at h,_,cap,f,d.args++cap,ht,R6 ht he,fun _ _=>trivial,?_⟩⟩
    refine A6 (hc C φ _ w rfl S' _ hxs) ?_
    rintro e u' w' ⟨r,rfl,hs,o,φ',H',hK,S2,uM⟩
    cases o with
    |ret r'=>
     simp only
     rw[hs]
     exact ihr φ' _ w' S2 hK
    |panic _=>exact hK.elim
  ·cases hm:NR d with
   |true=>
    obtain ⟨D,hD,_⟩:=S.defers.2.1 d (List.mem_cons_self) hm
    subst hD
    obtain ⟨h1,S'⟩:=S.Oa
    exact ⟨by simp,.inl ⟨D,_,rfl,run_takeDeferred h1,ihp φ σ x v _ S' h⟩⟩
   |false=>
    obtain ⟨S1,hx⟩:=S.unpush S.lenP
    obtain ⟨f,xs,df',cap,hdf,ht,hxs,S'⟩:=S1.pop hm
    rw[hdf] at h
    obtain ⟨he,hc⟩:=h
    refine ⟨by simp,.inr ⟨fun h=>by simp [fP] at h,_,cap,f,d.args++cap,ht,R6 ht he,fun _ _=>trivial,?_⟩⟩
    have hargs:m7 (C.env φ σ.heap w) (xs++[x]) ((d.args++cap).push v).toList:=by
     have hv:m7 (C.env φ σ.heap w) [x] [v]:=⟨v,[],rfl,hx,rfl⟩
     rw[fZ]
     exact hxs.append hv
    refine A6 (hc C φ _ w rfl S' _ hargs _ v rfl) ?_
    rintro e u' w' ⟨r,rfl,⟨hs,o,φ',H',hK,S2,uM⟩|⟨v',hs,o,φ',H',hK,S2,uM⟩⟩
    ·cases o with
     |ret r'=>
      simp only
      rw[hs]
      exact ihr φ' _ w' S2 hK
     |panic _=>exact uM.elim
    ·cases o with
     |ret r'=>exact uM.elim
     |panic x'=>
      simp only
      rw[hs]
      obtain ⟨v2,hv2,hr2⟩:=uM
      simp only[fK,PanicEntry.mk.injEq,and_true] at hv2
      subst hv2
      exact ihp φ' _ x' _ w' (S2.repush hr2) hK
end unw
def R7 (P:Program) (rs:List ResultVar) (V:wo→List AObj→Prop):Option AV→AState→Prop
 |none,σ=> ∃x,Gs P σ rs=some x∧ ∃r H',IB σ x r H'∧V (.ret r) H'
 |some x,σ=> ∃r H',IB σ x r H'∧V (.panic r) H'
def gPost (P:Program) (rs:List ResultVar) (V:wo→List AObj→Prop):qL→AState→Prop
 | .normal,σ=>Oe P (R7 P rs V) σ.df none σ
 | .ret,σ=>Oe P (R7 P rs V) σ.df none σ
 | .panic x,σ=>Oe P (R7 P rs V) σ.df (some x) σ
 |_,_=>False
theorem X5 {P:Program} {f:FuncId} {fn:Func} {c:Code} {args:List AV} {H:List AObj} {V:wo→List AObj→Prop} (hf:P.funcs[f]? =some fn) (hb:fn.body=some c) (hne:(fn.name != "runtime.NumGoroutine")=true) (hnb:nbL H.length args)
 (DK: ∀x∈H,objNb H.length x) {n:Nat} (hn:fn.ntmps=n) {rs:List ResultVar} (Ph:fn.results=rs.toArray)
 (h:Ri P c (gPost P rs V) {slots:=args++fy (n-args.length) .any,heap:=H,low:=H.length}):Ob P f args H V:=by
 refine ⟨?_,hnb,DK,fun C φ w hP h0 hN0 hφ0 hM HS vs hr=> ?_⟩
 ·unfold enters;rw[hf];simp only[hb,fY,gr];exact hne
 ·subst hP
  refine (callsIn_wide (n:=0)).1 (callsIn_of_wp_marks hf hb trivial ?_)
  have hsz:vs.size=args.length:=by have:=hr.length;simpa using this
  have S:qq C φ {slots:=args++fy (n-args.length) .any,heap:=H,low:=H.length} {tmps:=vs++Array.replicate (fn.ntmps-vs.size) undef,defers:=[]} w:=by
   refine {HS with slots:= ?_,defers:=uG.nil}
   simp only[fM,gj]
   refine hr.append ?_
   rw[hsz,hn]
   have:=m7.Cz (E:=C.env φ H w) (fy (n-args.length) undef)
   simpa using this
  refine wpIn_mono (xT (ro:=none) c _ φ _ _ w (.inl rfl) h S) ?_
  intro e a' w' hq
  have DD: ∀ {φ':Nat→Value} {σ':AState} {a'':Act} {w'':World},qq C φ' σ' a'' w''→σ'.low=H.length:=fun S'=>by rw[←S'.low.1];exact hN0
  have fin:=NC (C:=C) (tmps:=a'.tmps) (fn:=fn) (R:=fun e w'=> ∃o φ' H',V o H'∧qq C φ' {slots:=[],heap:=H',low:=H.length} {tmps:= #[],defers:=[]} w'∧o.rep (C.env φ' H' w') e) (fin:=R7 C.P rs V)
   (by
     rintro φ' σ' w' S' ⟨x,hx,r,H',hex,hV⟩
     obtain ⟨v,hv,rv⟩:=HO (fn:=fn) S' (by rw[Ph];exact hx)
     obtain ⟨φ2,S2,hr2⟩:=hex C φ' _ w' S' v rv
     rw[DD S'] at S2
     exact ⟨v,hv,.ret r,φ2,H',hV,S2,hr2⟩)
   (by
     rintro φ' σ' x v w' S' hx ⟨r,H',hex,hV⟩
     obtain ⟨φ2,S2,hr2⟩:=hex C φ' _ w' S' v hx
     rw[DD S'] at S2
     exact ⟨.panic r,φ2,H',hV,S2,v,rfl,hr2⟩) a'.defers
  cases e with
  |normal=>obtain ⟨φ',σ',S',hq⟩:=hq;exact fin.1 φ' σ' w' S' hq
  |ret=>obtain ⟨φ',σ',S',hq⟩:=hq;exact fin.1 φ' σ' w' S' hq
  |exit id=>obtain ⟨_,_,_,hq⟩:=hq;exact hq.elim
  |goto l=>obtain ⟨_,_,_,hq⟩:=hq;exact hq.elim
  |panic chain=>
   obtain ⟨φ',σ',x,v,S',hq,hch,uM⟩:=hq
   subst hch
   exact fin.2 φ' σ' x v w' (qq.repush (tmps:=a'.tmps) (ds:=a'.defers) S' uM) hq
  |outgrown=>exact hq.elim
def cEnd (P:Program) (rs:List ResultVar) (V:AV→Prop):Option AV→AState→Prop
 |none,σ=>endV V σ.heap (Gs P σ rs)
 |some _,_=>False
def retPostU (P:Program) (rs:List ResultVar) (V:AV→Prop):qL→AState→Prop
 | .normal,σ=>Oe P (cEnd P rs V) σ.df none σ
 | .ret,σ=>Oe P (cEnd P rs V) σ.df none σ
 | .panic x,σ=>Oe P (cEnd P rs V) σ.df (some x) σ
 |_,_=>False
theorem Wt {P:Program} {f:FuncId} {fn:Func} {c:Code} {args:List AV} {V:AV→Prop} (hf:P.funcs[f]? =some fn) (hb:fn.body=some c) (hne:(fn.name != "runtime.NumGoroutine")=true) (hnb:nbL 0 args)
 (h:Ri P c (retPostU P fn.results.toList V) {slots:=args++fy (fn.ntmps-args.length) .any,heap:=[]}):xS P f args V:=by
 refine ⟨?_,hnb,fun C φ w hP h0 hN hM vs hr=> ?_⟩
 ·unfold enters;rw[hf];simp only[hb,fY,gr];exact hne
 ·subst hP
  refine (callsIn_wide (n:=0)).1 (callsIn_of_wp_marks hf hb trivial ?_)
  have hsz:vs.size=args.length:=by have:=hr.length;simpa using this
  have S:qq C φ {slots:=args++fy (fn.ntmps-args.length) .any,heap:=[]} {tmps:=vs++Array.replicate (fn.ntmps-vs.size) undef,defers:=[]} w:=by
   refine {slots:= ?_,defers:=uG.nil,objs:=by simp,apart:=by simp,vk:=by simp,size:=by rw[h0];exact fz _,old:=fun b o _ _=>by rw[h0],qQ:=fun b _ _=>by rw[h0],A9:=by simp,wG:=fun x _=>by rw[h0],rest:=by rw[h0];exact ⟨rfl,rfl⟩,low:=⟨hN,fz _⟩,names:=fun l hl=>by rw[hN] at hl;exact absurd hl (fT _)}
   simp only[fM,gj]
   refine hr.append ?_
   rw[hsz]
   have:=m7.Cz (E:=C.env φ [] w) (fy (fn.ntmps-args.length) undef)
   simpa using this
  refine wpIn_mono (xT (ro:=none) c _ φ _ _ w (.inl rfl) h S) ?_
  intro e a' w' hq
  have fin:=NC (C:=C) (tmps:=a'.tmps) (fn:=fn) (R:=fun e w'=> ∃r v φ',V r∧e= .returned v∧rB (C.env φ' [] w') r v∧w.heap.size≤w'.heap.size∧(∀b,b<w.heap.size→w'.heap[b]? =w.heap[b]?)∧
        (∀x,x.block<w.heap.size→w'.frozen? x=w.frozen? x)∧w'.output=w.output∧w'.os=w.os) (fin:=cEnd C.P fn.results.toList V)
   (by
     intro φ' σ' w' S' hend
     simp only[cEnd] at hend
     cases hx:Gs C.P σ' fn.results.toList with
     |none=>rw[hx] at hend;exact hend.elim
     |some x=>
     rw[hx] at hend
     obtain ⟨hn,r0,hsub,hV⟩:=hend
     obtain ⟨v,hv,rv⟩:=HO S' hx
     refine ⟨v,hv,_,v,φ',hV,rfl,hsub _ _ (by have:=Pb S' (S'.drops (by rw[←S'.low.1];exact hN)) x v;rw[←S'.low.1,hN] at this;exact this hn rv),?_,?_,?_,?_⟩
     ·rw[←h0];exact S'.size
     ·intro b hb;rw[←h0];exact S'.qQ b (by rw[h0];exact hb) (fun o=>hM b o)
     ·intro y hy;rw[←h0];exact S'.wG y (by rw[h0];exact hy)
     ·rw[←h0];exact S'.rest)
   (by
     intro φ' σ' x v w' S' hx hend
     exact hend.elim) a'.defers
  cases e with
  |normal=>obtain ⟨φ',σ',S',hq⟩:=hq;exact fin.1 φ' σ' w' S' hq
  |ret=>obtain ⟨φ',σ',S',hq⟩:=hq;exact fin.1 φ' σ' w' S' hq
  |exit id=>obtain ⟨_,_,_,hq⟩:=hq;exact hq.elim
  |goto l=>obtain ⟨_,_,_,hq⟩:=hq;exact hq.elim
  |panic chain=>
   obtain ⟨φ',σ',x,v,S',hq,hch,uM⟩:=hq
   subst hch
   exact fin.2 φ' σ' x v w' (qq.repush (tmps:=a'.tmps) (ds:=a'.defers) S' uM) hq
  |outgrown=>exact hq.elim
attribute [go_sem] AV.ren renL Bw AObj.ren wo.ren qz vo tG outX gPost
end Go.Abs
namespace Go.Abs
def KZ:List AV→List Tmp→List AV→List AV
 |s,p::ps,x::xs=>KZ (s.set p x) ps xs
 |s,_,_=>s
theorem Vr {E:Env}: ∀ {ps:List Tmp} {xs:List AV} {vs:List Value} {s:List AV} {t:Array Value},m7 E xs vs→m7 E s t.toList→
 m7 E (KZ s ps xs) ((ps.zip vs).foldl (fun t (p:Tmp×Value)=>t.setIfInBounds p.1 p.2) t).toList
 |[],_,_,_,_,_,h=>by simpa [KZ] using h
 |_::_,[],_,_,_,rfl,h=>by simpa [KZ] using h
 |p::ps,x::xs,_,s,t,⟨u,us,rfl,r1,r2⟩,h=>by
  simp only[KZ,List.zip_cons_cons,List.foldl_cons]
  refine Vr r2 ?_
  have:=h.set (i:=p) r1
  simpa [Array.toList_setIfInBounds] using this
def R8:qL→Option (Option Code)
 | .normal=>some none
 | .ret=>some (some .ret)
 | .exit id=>some (some (.exit id))
 |_=>none
def rPost (V:wo→List AObj→Prop) (e:qL) (σ:AState):Prop:=
 ∃j k s,R8 e=some (sH k.js j)∧σ.heap[0]? =some (.loop k s .busy 0)∧ ∃r H',IB {σ with heap:=σ.heap.set 0 (.loop k s (stP (sH k.js j)) j)} (.bool (sH k.js j).isNone) r H'∧V (.ret r) H'
theorem Wu {P:Program} {k:xl} {slots args:List AV} {H:List AObj} {V:wo→List AObj→Prop} (hH:H[0]? =some (.loop k slots .ready 0))
 (hnb:nbL H.length args) (DK: ∀x∈H,objNb H.length x) (hn:wV k.assign=true∧wV k.body=true)
 (h:Ri P k.assign (qL.then (fun σ1=> ∃k1 s1,σ1.heap[0]? =some (.loop k1 s1 .ready 0)∧Ri P k.body (rPost V) {σ1 with heap:=σ1.heap.set 0 (.loop k1 s1 .busy 0)}) (fun _ _=>False))
   {slots:=KZ slots k.ps.toList args,heap:=H,low:=H.length}):XY P (Nx P) args H V:=by
 refine ⟨hnb,DK,fun C φ w hP h0 hN hφ0 hM HS vs hr D rec hφ hw=> ?_⟩
 subst hP
 have hpos:0<H.length:=(fk.1 hH).1
 have hstay: ∀ {φ':Nat→Value} {σ':AState} {a':Act} {w':World},qq C φ' σ' a' w'→φ' 0= .func (.yield (D+1)) #[] #[]:=by
  intro φ' σ' a' w' S'
  rcases S'.names 0 (by omega) with ⟨h1,_⟩|⟨⟨n,h1,_⟩,_⟩
  ·rw[h1,(hφ0 0 hpos).1];exact hφ
  ·rw[(hφ0 0 hpos).2,hH] at h1;cases h1
 have DD: ∀ {φ':Nat→Value} {σ':AState} {a':Act} {w':World},qq C φ' σ' a' w'→σ'.low=H.length:=fun S'=>by rw[←S'.low.1];exact hN
 have DF: ∀ {φ':Nat→Value} {σ':AState} {a':Act} {w':World} {k:xl} {s:List AV} {st:LoopState} {c:Int},qq C φ' σ' a' w'→σ'.heap[0]? =some (.loop k s st c)→
  ∃Lu,w'.heap[D+1]? =some (.loop Lu)∧(Lu.params=k.ps∧Lu.assign=k.assign∧Lu.body=k.body∧Lu.state=st∧Lu.pending=sH k.js c∧Lu.defers=D)∧m7 (C.env φ' σ'.heap w') s Lu.tmps.toList:=by
  intro φ' σ' a' w' k s st c S' h0
  obtain ⟨D',Lu,e1,g1,g2,g3,rl⟩:=S'.objs 0 _ h0
  rw[hstay S'] at e1
  simp only[Value.func.injEq,Fn.yield.injEq,Nat.add_right_cancel_iff,and_true] at e1
  subst e1
  exact ⟨Lu,g1,g3,rl⟩
 obtain ⟨rec0,g1,g3,rl⟩:=DF HS hH
 rw[hw] at g1;cases g1
 rw[g3.1,g3.2.1,g3.2.2.1]
 refine roundIn_of_wpIn (F:=fP) trivial ?_
 have S:qq C φ {slots:=KZ slots k.ps.toList args,heap:=H,low:=H.length} {tmps:=(k.ps.zip vs).foldl (fun tmps (t,a)=>tmps.setIfInBounds t a) rec.tmps,defers:=[]} w:=by
  refine {HS with slots:= ?_,defers:=uG.nil}
  have:=Vr (ps:=k.ps.toList) hr rl
  simpa only[←Array.foldl_toList,Array.toList_zip] using this
 refine wpIn_mono (xT (ro:=some (D+1)) k.assign _ φ _ _ w (.inr hn.1) h S) ?_
 intro e a1 w1 hq
 cases e with
 |exit id=>obtain ⟨_,_,_,hq⟩:=hq;exact hq.elim
 |goto l=>obtain ⟨_,_,_,hq⟩:=hq;exact hq.elim
 |ret=>obtain ⟨_,_,_,hq⟩:=hq;exact hq.elim
 |panic ch=>obtain ⟨_,_,_,_,_,hq,_⟩:=hq;exact hq.elim
 |outgrown=>exact hq.elim
 |normal=>
  obtain ⟨φ1,σ1,S1,k1,s1,hH1,hbody⟩:=hq
  obtain ⟨rec1,kk,k3,_⟩:=DF S1 hH1
  refine ⟨_,run_beginRound kk k3.2.2.2.1,?_⟩
  have S2:=S1.Wo (st':= .busy) (FE:=0) hH1 (hstay S1) kk
  have e2:({rec1 with state:= .busy,pending:=sH k1.js 0}:Loop)={rec1 with state:= .busy}:=by
   rw[←k3.2.2.2.2.1]
  rw[e2] at S2
  refine wpIn_mono (xT (ro:=some (D+1)) k.body _ _ _ _ _ (.inr hn.2) hbody S2) ?_
  have fin: ∀ (e:qL) (c:Option Code) (φ2:Nat→Value) (σ2:AState) (a2:Act) (w3:World),R8 e=some c→qq C φ2 σ2 a2 w3→rPost V e σ2→
   ∃v w',(Instr.endRound (D+1) c).run C.P w3= .ok v w'∧ ∃o φ' H',V o H'∧qq C φ' {slots:=[],heap:=H',low:=H.length} {tmps:= #[],defers:=[]} w'∧o.rep (C.env φ' H' w') (.returned v):=by
   rintro e c φ2 σ2 a2 w3 hj S3 ⟨j,k2,s2,hj',hH2,r,H',hex,hV⟩
   rw[hj] at hj'
   obtain rfl:c=sH k2.js j:=gy hj'
   obtain ⟨rec2,m1,m3,_⟩:=DF S3 hH2
   have S4:=S3.Wo (st':=stP (sH k2.js j)) (FE:=j) hH2 (hstay S3) m1
   have hend:=run_endRound (P:=C.P) (sH k2.js j) m1
   have est:(if (sH k2.js j).isNone then LoopState.ready else .done)=stP (sH k2.js j):=by cases sH k2.js j<;>rfl
   rw[est] at hend
   obtain ⟨φ5,S5,hr5⟩:=hex C φ2 a2 _ S4 (.bool (sH k2.js j).isNone) rfl
   rw[show σ2.low=H.length from DD S3] at S5
   exact ⟨_,_,hend,.ret r,φ5,H',hV,S5,hr5⟩
  intro e a2 w3 hq
  cases e with
  |normal=>obtain ⟨φ2,σ2,S3,hq⟩:=hq;exact fin .normal none φ2 σ2 a2 w3 rfl S3 hq
  |ret=>obtain ⟨φ2,σ2,S3,hq⟩:=hq;exact fin .ret _ φ2 σ2 a2 w3 rfl S3 hq
  |exit id=>obtain ⟨φ2,σ2,S3,hq⟩:=hq;exact fin (.exit id) _ φ2 σ2 a2 w3 rfl S3 hq
  |goto l=>obtain ⟨_,_,_,_,_,_,hq,_⟩:=hq;cases hq
  |panic ch=>obtain ⟨_,_,_,_,_,⟨_,_,_,hq,_⟩,_⟩:=hq;cases hq
  |outgrown=>exact hq.elim
end Go.Abs
namespace Go.Abs
def child:Nat→Code→Code
 |0,.seq x _=>x
 |1,.seq _ y=>y
 |0,.cond _ x _=>x
 |1,.cond _ _ y=>y
 |0,.block _ x=>x
 |0,.loop x=>x
 |0,.scope x=>x
 |_,_=> .skip
def sub:List Nat→Code→Code
 |[],c=>c
 |d::p,c=>child d (sub p c)
inductive Kt where
 |at (p:List Nat)
 |cut (p:List Nat)
 |ops (ops:Array Oper) (rest:List Oper)
 |GZ (p:List Nat) (rest:List Oper) (j:Nat) (tr:List Tr)
 |qC (id:Nat)
 |lp (m:Nat) (p:List Nat)
 |lq (m:Nat) (p:List Nat)
 |rb
 |rd
def beginO (σ:AState):Option AObj→Option AState
 |some (.loop k s .ready 0)=>some {σ with heap:=σ.heap.set 0 (.loop k s .busy 0)}
 |_=>none
def Pj (σ:AState):Option AState:=beginO σ σ.heap[0]?
section
variable {R:Type}
def regOps:Code→Array Oper
 | .region _ ops _=>ops
 |_=> #[]
def tD (M:pO R) (p:List Nat):Array Oper:=regOps (sub p M.body)
noncomputable def x8 (M:pO R):Kt→AState→Option (qL×AState)
 | .at p,σ=>exec M (sub p M.body) p σ
 | .cut p,σ=>(M.cut p σ).map fun σ'=>(.normal,σ')
 | .ops ops rest,σ=>vu M ops rest σ
 | .GZ p rest j tr,σ=>DJ M (tD M p) rest j tr σ
 | .qC _,σ=>some (.normal,σ)
 | .lp m p,σ=>(M.qT p σ).bind (lqN (M.qT p) (exec M (sub (0::p) M.body) (0::p)) m)
 | .lq m p,σ=>lqN (M.qT p) (exec M (sub (0::p) M.body) (0::p)) m σ
 | .rb,σ=>(Pj σ).map fun σ'=>(.normal,σ')
 | .rd,_=>none
noncomputable def fin (M:pO R):List Kt→qL→AState→Option R
 |[],.normal,σ=>M.out σ
 |[],.ret,σ=>M.out σ
 |[],.panic x,σ=>M.wU x σ
 |[],_,_=>none
 | .rd::_,e,σ=>M.pW e σ
 | .qC id::k,.exit id',σ=>if id'=id then fin M k .normal σ else fin M k (.exit id') σ
 |x::k,.normal,σ=>match x8 M x σ with
  |some (e,σ')=>fin M k e σ'
  |none=>none
 |_::k,e,σ=>fin M k e σ
noncomputable def run (M:pO R) (k:List Kt) (σ:AState):Option R:=fin M k .normal σ
variable {M:pO R} {k:List Kt} {σ:AState}
theorem run_nil:run M [] σ=M.out σ:=rfl
theorem run_blk {id:Nat}:run M (.qC id::k) σ=run M k σ:=rfl
theorem sk {x:Kt} (h: ∀id,x≠ .qC id) (h2:x≠ .rd:=by simp):fin M (x::k) .normal σ=match x8 M x σ with
 |some (e,σ')=>fin M k e σ'
 |none=>none:=by
 cases x<;>first|rfl|exact absurd rfl (h _)|exact absurd rfl h2
theorem X6 {ops:Array Oper}:run M (.ops ops []::k) σ=run M k σ:=rfl
theorem Wv {p:List Nat} {j:Nat} {tr:List Tr}:run M (.GZ p [] j tr::k) σ=run M k σ:=rfl
def behind (id:Nat):List Kt→Option (List Kt)
 |[]=>none
 | .qC id'::k=>if id=id' then some k else behind id k
 | .rd::_=>none
 |_::k=>behind id k
def isRd:Kt→Bool
 | .rd=>true
 |_=>false
def X7:List Kt→Bool
 |[]=>false
 |x::k=>isRd x||X7 k
theorem CD {id:Nat}: ∀ {k k':List Kt},behind id k=some k'→fin M k (.exit id) σ=run M k' σ
 |[],_,h=>by simp [behind] at h
 | .qC id'::k,k',h=>by
   simp only[behind] at h
   split at h
   ·rename_i e
    cases h
    subst e
    simp only[fin,if_true];rfl
   ·rename_i e
    simp only[fin,e,if_false]
    exact CD h
 | .at _::k,k',h=>CD (k:=k) (by simpa [behind] using h)
 | .cut _::k,k',h=>CD (k:=k) (by simpa [behind] using h)
 | .ops _ _::k,k',h=>CD (k:=k) (by simpa [behind] using h)
 | .GZ _ _ _ _::k,k',h=>CD (k:=k) (by simpa [behind] using h)
 | .lp _ _::k,k',h=>CD (k:=k) (by simpa [behind] using h)
 | .lq _ _::k,k',h=>CD (k:=k) (by simpa [behind] using h)
 | .rb::k,k',h=>CD (k:=k) (by simpa [behind] using h)
 | .rd::k,k',h=>by simp [behind] at h
theorem CE {id:Nat}: ∀ {k:List Kt},behind id k=none→fin M k (.exit id) σ=bif X7 k then M.pW (.exit id) σ else none
 |[],_=>rfl
 | .qC id'::k,h=>by
   simp only[behind] at h
   split at h
   ·cases h
   ·rename_i e
    simp only[fin,e,if_false]
    exact CE h
 | .rb::k,h=>CE (k:=k) (by simpa [behind] using h)
 | .rd::k,h=>rfl
 | .at _::k,h=>CE (k:=k) (by simpa [behind] using h)
 | .cut _::k,h=>CE (k:=k) (by simpa [behind] using h)
 | .ops _ _::k,h=>CE (k:=k) (by simpa [behind] using h)
 | .GZ _ _ _ _::k,h=>CE (k:=k) (by simpa [behind] using h)
 | .lp _ _::k,h=>CE (k:=k) (by simpa [behind] using h)
 | .lq _ _::k,h=>CE (k:=k) (by simpa [behind] using h)
theorem Fm: ∀ {k:List Kt},fin M k .ret σ=bif X7 k then M.pW .ret σ else M.out σ
 |[]=>rfl
 | .rb::k=>Fm (k:=k)
 | .rd::k=>rfl
 | .qC _::k=>Fm (k:=k)
 | .at _::k=>Fm (k:=k)
 | .cut _::k=>Fm (k:=k)
 | .ops _ _::k=>Fm (k:=k)
 | .GZ _ _ _ _::k=>Fm (k:=k)
 | .lp _ _::k=>Fm (k:=k)
 | .lq _ _::k=>Fm (k:=k)
noncomputable def X8 (M:pO R) (x:AV) (σ:AState) (k:List Kt):Option R:=bif X7 k then M.pW (.panic x) σ else M.wU x σ
theorem zV {x:AV}: ∀ {k:List Kt},fin M k (.panic x) σ=X8 M x σ k
 |[]=>rfl
 | .rb::k=>zV (k:=k)
 | .rd::k=>rfl
 | .qC _::k=>zV (k:=k)
 | .at _::k=>zV (k:=k)
 | .cut _::k=>zV (k:=k)
 | .ops _ _::k=>zV (k:=k)
 | .GZ _ _ _ _::k=>zV (k:=k)
 | .lp _ _::k=>zV (k:=k)
 | .lq _ _::k=>zV (k:=k)
noncomputable def Vs (M:pO R) (σ:AState) (id:Nat) (k:List Kt):Option (List Kt)→Option R
 |some k=>run M k σ
 |none=>bif X7 k then M.pW (.exit id) σ else none
theorem exitK_some {id:Nat} {k k':List Kt}:Vs M σ id k (some k')=run M k' σ:=rfl
theorem exitK_none {id:Nat} {k:List Kt}:Vs M σ id k none=bif X7 k then M.pW (.exit id) σ else none:=rfl
noncomputable def retK (M:pO R) (σ:AState) (k:List Kt):Option R:=bif X7 k then M.pW .ret σ else M.out σ
noncomputable def Lv (M:pO R) (k:List Kt) (σ:AState):Option Code→Option R
 |none=>run M k σ
 |some .ret=>retK M σ k
 |some (.exit id)=>Vs M σ id k (behind id k)
 |_=>none
noncomputable def Pk (M:pO R) (k:List Kt) (σ:AState) (H':List AObj):Option AObj→Option R
 |some (.loop lk _ st uL)=>pcond (st=stP (sH lk.js uL)) (Lv M k {σ with heap:=H'.set σ.heap.length .dead} (sH lk.js uL))
 |_=>none
noncomputable def IC (M:pO R) (k:List Kt) (σ:AState):Option (AV×List AObj)→Option R
 |some (_,H')=>Pk M k σ H' H'[σ.heap.length]?
 |none=>none
noncomputable def stepR (M:pO R) (lk:xl) (k:List Kt) (σ:AState):AV→Option R
 | .func (.func f) first cap=>IC M k σ (M.cl f (first++[.map σ.heap.length]++cap) (σ.heap++[.loop lk σ.slots .ready 0]))
 |_=>none
theorem stepJ_none:Lv M k σ none=run M k σ:=rfl
theorem stepJ_ret:Lv M k σ (some .ret)=retK M σ k:=rfl
theorem stepJ_exit {id:Nat}:Lv M k σ (some (.exit id))=Vs M σ id k (behind id k):=rfl
theorem stepJ_cond {b:Bool} {x y:Option Code}:Lv M k σ (bif b then x else y)=bif b then Lv M k σ x else Lv M k σ y:=by cases b<;>rfl
theorem Ql {H':List AObj} {lk:xl} {s:List AV} {st:LoopState} {uL:Int}:Pk M k σ H' (some (.loop lk s st uL))=pcond (st=stP (sH lk.js uL)) (Lv M k {σ with heap:=H'.set σ.heap.length .dead} (sH lk.js uL)):=rfl
theorem X9 {r:AV} {H':List AObj}:IC M k σ (some (r,H'))=Pk M k σ H' H'[σ.heap.length]? :=rfl
theorem Ya:IC M k σ none=none:=rfl
theorem Yb {α:Type} {o:Option α} {f:α→Option (AV×List AObj)}:IC M k σ (o.bind f)=o.bind fun x=>IC M k σ (f x):=by cases o<;>rfl
theorem Yc {b:Bool} {x y:Option (AV×List AObj)}:IC M k σ (bif b then x else y)=bif b then IC M k σ x else IC M k σ y:=by cases b<;>rfl
theorem stepR_func {lk:xl} {f:FuncId} {first cap:List AV}:stepR M lk k σ (.func (.func f) first cap)=IC M k σ (M.cl f (first++[.map σ.heap.length]++cap) (σ.heap++[.loop lk σ.slots .ready 0])):=rfl
noncomputable def Pm (M:pO R) (c:Operand) (p:List Nat) (k:List Kt) (σ:AState):AV→Option R
 | .bool b=>bif b then run M (.at (0::p)::k) (R1 c true σ) else run M (.at (1::p)::k) (R1 c false σ)
 |_=>none
theorem Yd {c:Operand} {p:List Nat}:Pm M c p k σ (.bool true)=run M (.at (0::p)::k) (R1 c true σ):=rfl
theorem Ww {c:Operand} {p:List Nat}:Pm M c p k σ (.bool false)=run M (.at (1::p)::k) (R1 c false σ):=rfl
theorem stepIf_sym {c:Operand} {p:List Nat} {b:Bool}:Pm M c p k σ (.bool b)=bif b then run M (.at (0::p)::k) (R1 c true σ) else run M (.at (1::p)::k) (R1 c false σ):=rfl
def tY (M:pO R) (p:List Nat):Bool:=
 match sub p M.body with
 | .region _ ops _=>C3 ops
 |_=>false
def lkAt (js:List (Int×Code)):Code→xl
 | .rangeFunc _ ps as body=>⟨ps,as,body,js⟩
 |_=>⟨#[],.skip,.skip,[]⟩
def lkM (M:pO R) (p:List Nat):xl:=lkAt (M.js p) (sub p M.body)
noncomputable def BC (M:pO R) (p:List Nat) (k:List Kt) (σ:AState):Code→Option R
 | .skip=>run M k σ
 | .region _ ops false=>run M (.ops ops ops.toList::k) σ
 | .region _ ops true=>pcond (M.P.follows .mixedOrders=true∧tY M p=true) (run M (.GZ p ops.toList 0 []::k) σ)
 | .seq _ _=>run M (.at (0::p):: .cut (1::p):: .at (1::p)::k) σ
 | .cond c _ _=>Pm M c p k σ (σ.ev c)
 | .block id _=>run M (.at (0::p):: .qC id::k) σ
 | .loop _=>run M (.lp M.n p::k) σ
 | .exit id=>Vs M σ id k (behind id k)
 | .scope _=>run M (.at (0::p)::k) σ
 | .label _=>run M k σ
 | .ret=>retK M σ k
 | .rangeFunc g _ _ _=>stepR M (lkM M p) k σ (σ.ev g)
 |_=>none
theorem fin_block {id:Nat} {e:qL}:fin M (.qC id::k) e σ=match (match e with
 | .exit id'=>if id'=id then (qL.normal,σ) else (.exit id',σ)
 |e=>(e,σ)) with
 |(e,σ)=>fin M k e σ:=by
 cases e with
 |exit id'=>
  simp only[fin]
  split<;>rfl
 |_=>rfl
theorem R9 {x:Kt} {e:qL} (h: ∀id,x≠ .qC id) (he:e≠ .normal) (h2:x≠ .rd:=by simp):fin M (x::k) e σ=fin M k e σ:=by
 cases x<;>cases e<;>first|rfl|exact absurd rfl (h _)|exact absurd rfl he|exact absurd rfl h2
theorem run_at {p:List Nat}:run M (.at p::k) σ=BC M p k σ (sub p M.body):=by
 show fin M (.at p::k) .normal σ=_
 rw[sk (by simp)]
 simp only[x8]
 cases hc:sub p M.body with
 |skip=>rfl
 |region id ops b=>
  cases b with
  |false=>
   simp only[exec,BC]
   show _=fin M (.ops ops ops.toList::k) .normal σ
   rw[sk (by simp)]
   simp only[x8]
  |true=>
   simp only[exec,BC]
   show _=pcond _ (fin M (.GZ p ops.toList 0 []::k) .normal σ)
   rw[sk (by simp)]
   simp only[x8]
   have hd:tY M p=C3 ops:=by simp only[tY,hc]
   have ho:tD M p=ops:=by simp only[tD,hc,regOps]
   rw[hd,ho]
   by_cases hp:M.P.follows .mixedOrders=true∧C3 ops=true
   ·simp only[pcond,if_pos hp]
   ·simp only[pcond,if_neg hp]
 |seq x y=>
  simp only[exec,BC]
  show _=fin M (.at (0::p):: .cut (1::p):: .at (1::p)::k) .normal σ
  rw[sk (by simp)]
  have h0:sub (0::p) M.body=x:=by simp [sub,hc,child]
  have h1:sub (1::p) M.body=y:=by simp [sub,hc,child]
  simp only[x8,h0]
  cases hx:exec M x (0::p) σ with
  |none=>rfl
  |some r=>
   obtain ⟨e1,σ1⟩:=r
   cases e1 with
   |normal=>
    simp only
    rw[sk (by simp)]
    simp only[x8]
    cases hcut:M.cut (1::p) σ1 with
    |none=>rfl
    |some σ2=>
     simp only[fG,gh]
     rw[sk (by simp)]
     simp only[x8,h1]
   |_=>
    simp only
    rw[R9 (by simp) (by simp),R9 (by simp) (by simp)]
 |cond c x y=>
  simp only[exec,BC]
  have h0:sub (0::p) M.body=x:=by simp [sub,hc,child]
  have h1:sub (1::p) M.body=y:=by simp [sub,hc,child]
  cases hv:σ.ev c with
  |bool b=>
   simp only[Pm]
   cases b with
   |true=>
    simp only[cond_true]
    show _=fin M (.at (0::p)::k) .normal _
    rw[sk (by simp)]
    simp only[x8,h0]
   |false=>
    simp only[cond_false]
    show _=fin M (.at (1::p)::k) .normal _
    rw[sk (by simp)]
    simp only[x8,h1]
  |_=>rfl
 |block id x=>
  simp only[exec,BC]
  have h0:sub (0::p) M.body=x:=by simp [sub,hc,child]
  show _=fin M (.at (0::p):: .qC id::k) .normal σ
  rw[sk (by simp)]
  simp only[x8,h0]
  cases hx:exec M x (0::p) σ with
  |none=>rfl
  |some r=>
   obtain ⟨e1,σ1⟩:=r
   simp only
   rw[fin_block]
   cases e1 with
   |exit id'=>
    by_cases he:id'=id
    ·simp only[he,if_true]
    ·simp only[he,if_false]
   |_=>rfl
 |loop x=>
  simp only[exec,BC]
  have h0:sub (0::p) M.body=x:=by simp [sub,hc,child]
  show _=fin M (.lp M.n p::k) .normal σ
  rw[sk (by simp)]
  simp only[x8,h0]
 |exit id=>
  simp only[exec,BC]
  cases hb:behind id k with
  |none=>exact CE hb
  |some k'=>exact CD hb
 |scope x=>
  simp only[exec,BC]
  have h0:sub (0::p) M.body=x:=by simp [sub,hc,child]
  show _=fin M (.at (0::p)::k) .normal σ
  rw[sk (by simp)]
  simp only[x8,h0]
 |label l=>rfl
 |ret=>exact Fm
 |goto l=>rfl
 |rangeFunc g ps as body=>
  have hlk:lkM M p=⟨ps,as,body,M.js p⟩:=by simp only[lkM,hc,lkAt]
  simp only[exec,BC,hlk]
  cases hv:σ.ev g with
  |func fn first cap=>
   cases fn with
   |func f=>
    simp only[rngX,stepR]
    cases V8:M.cl f (first++[.map σ.heap.length]++cap) (σ.heap++[.loop ⟨ps,as,body,M.js p⟩ σ.slots .ready 0]) with
    |none=>rfl
    |some q=>
     obtain ⟨r,H'⟩:=q
     simp only[IC]
     cases hH:H'[σ.heap.length]? with
     |none=>rfl
     |some x=>
      cases x with
      |loop lk s st uL=>
       simp only[endX,Pk]
       by_cases hst:st=stP (sH lk.js uL)
       ·simp only[pcond,if_pos hst]
        generalize sH lk.js uL=pc
        cases pc with
        |none=>rfl
        |some c=>
         cases c with
         |ret=>exact Fm
         |exit id=>
          simp only[XX,Lv]
          cases hb:behind id k with
          |none=>exact CE hb
          |some k'=>exact CD hb
         |_=>rfl
       ·simp only[pcond,if_neg hst]
      |_=>rfl
   |_=>rfl
  |_=>rfl
 |refuse s=>rfl
theorem stepN_skip {p:List Nat}:BC M p k σ .skip=run M k σ:=rfl
theorem Wx {p:List Nat} {id:Nat} {ops:Array Oper}:BC M p k σ (.region id ops false)=run M (.ops ops ops.toList::k) σ:=rfl
theorem stepN_draw {p:List Nat} {id:Nat} {ops:Array Oper}:BC M p k σ (.region id ops true)=pcond (M.P.follows .mixedOrders=true) (pcond (tY M p=true) (run M (.GZ p ops.toList 0 []::k) σ)):=by
 rw[←Jq];rfl
theorem stepN_seq {p:List Nat} {x y:Code}:BC M p k σ (.seq x y)=run M (.at (0::p):: .cut (1::p):: .at (1::p)::k) σ:=rfl
theorem stepN_cond {p:List Nat} {c:Operand} {x y:Code}:BC M p k σ (.cond c x y)=Pm M c p k σ (σ.ev c):=rfl
theorem Ye {p:List Nat} {id:Nat} {x:Code}:BC M p k σ (.block id x)=run M (.at (0::p):: .qC id::k) σ:=rfl
theorem stepN_loop {p:List Nat} {x:Code}:BC M p k σ (.loop x)=run M (.lp M.n p::k) σ:=rfl
theorem stepN_exit {p:List Nat} {id:Nat}:BC M p k σ (.exit id)=Vs M σ id k (behind id k):=rfl
theorem Yf {p:List Nat} {g:Operand} {ps:Array Tmp} {as body:Code}:BC M p k σ (.rangeFunc g ps as body)=stepR M (lkM M p) k σ (σ.ev g):=rfl
theorem Yg {p:List Nat} {x:Code}:BC M p k σ (.scope x)=run M (.at (0::p)::k) σ:=rfl
theorem Yh {p:List Nat} {l:Nat}:BC M p k σ (.label l)=run M k σ:=rfl
theorem stepN_ret {p:List Nat}:BC M p k σ .ret=retK M σ k:=rfl
theorem run_rb:run M (.rb::k) σ=(Pj σ).bind fun σ'=>run M k σ':=by
 show fin M (.rb::k) .normal σ=_
 rw[sk (by simp)]
 simp only[x8]
 cases Pj σ<;>rfl
theorem run_rd:run M (.rd::k) σ=M.pW .normal σ:=rfl
theorem run_cut {p:List Nat}:run M (.cut p::k) σ=(M.cut p σ).bind fun σ'=>run M k σ':=by
 show fin M (.cut p::k) .normal σ=_
 rw[sk (by simp)]
 simp only[x8]
 cases M.cut p σ<;>rfl
theorem run_lp {m:Nat} {p:List Nat}:run M (.lp m p::k) σ=(M.qT p σ).bind fun σ'=>run M (.lq m p::k) σ':=by
 show fin M (.lp m p::k) .normal σ=_
 rw[sk (by simp)]
 simp only[x8]
 cases h:M.qT p σ with
 |none=>rfl
 |some σ'=>
  simp only[fG]
  show _=fin M (.lq m p::k) .normal σ'
  rw[sk (by simp)]
  simp only[x8]
theorem nk {p:List Nat}:run M (.lq 0 p::k) σ=none:=by
 show fin M (.lq 0 p::k) .normal σ=_
 rw[sk (by simp)]
 simp only[x8,lqN]
theorem nq {m:Nat} {p:List Nat}:run M (.lq (m+1) p::k) σ=run M (.at (0::p):: .lp m p::k) σ:=by
 show fin M (.lq (m+1) p::k) .normal σ=fin M (.at (0::p):: .lp m p::k) .normal σ
 rw[sk (by simp),sk (by simp)]
 simp only[x8,lqN]
 cases hx:exec M (sub (0::p) M.body) (0::p) σ with
 |none=>rfl
 |some r=>
  obtain ⟨e1,σ1⟩:=r
  cases e1 with
  |normal=>
   simp only
   rw[sk (by simp)]
   simp only[x8]
  |_=>
   simp only
   rw[R9 (by simp) (by simp)]
noncomputable def su (M:pO R) (ops:Array Oper) (dst:Option Tmp) (rest:List Oper) (k:List Kt) (σ:AState):Option wg→Option R
 |some e=>pcond e.pre (run M (.ops ops rest::k) (σ.app dst e))
 |none=>none
noncomputable def G0 (M:pO R) (ops:Array Oper) (dst:Option Tmp) (rest:List Oper) (k:List Kt) (σ:AState):Option (AV×List AObj)→Option R
 |some (r,H')=>run M (.ops ops rest::k) (AState.put {σ with heap:=H'} dst r)
 |none=>none
noncomputable def Gu (M:pO R) (ops:Array Oper) (dst:Option Tmp) (rest:List Oper) (k:List Kt) (σ:AState):Option (wo×List AObj)→Option R
 |some (.ret r,H')=>run M (.ops ops rest::k) (AState.put {σ with heap:=H'} dst r)
 |some (.panic x,H')=>X8 M x {σ with heap:=H'} k
 |none=>none
noncomputable def Yi (M:pO R) (ops:Array Oper) (dst:Option Tmp) (rest:List Oper) (k:List Kt) (σ:AState):Option (FuncId×List AV)→Option R
 |some p=>run M (.ops ops rest::k) (σ.dfr p dst)
 |none=>none
noncomputable def Yj (M:pO R) (k:List Kt) (σ:AState):Option AV→Option R
 |some x=>X8 M x σ k
 |none=>none
noncomputable def tZ (M:pO R) (ops:Array Oper) (dst:Option Tmp) (rest:List Oper) (k:List Kt) (σ:AState):Op→Option R
 | .defer c=>Yi M ops dst rest k σ (Av σ (.defer c))
 | .panic x=>Yj M k σ (Gr σ (.panic x))
 |o=>su M ops dst rest k σ (nW M.P σ o)
noncomputable def Vt (M:pO R) (ops:Array Oper) (o:Oper) (rest:List Oper) (k:List Kt) (σ:AState):Option (Nat×List AV)→Option R
 |some (l,args)=>G0 M ops o.dst rest k σ (M.cy l args σ.heap)
 |none=>tZ M ops o.dst rest k σ o.op
noncomputable def Sa (M:pO R) (ops:Array Oper) (o:Oper) (rest:List Oper) (k:List Kt) (σ:AState):Option (FuncId×List AV)→Option R
 |some (f,args)=>bif M.qZ f then Gu M ops o.dst rest k σ (M.cp f args σ.heap) else G0 M ops o.dst rest k σ (M.cl f args σ.heap)
 |none=>Vt M ops o rest k σ (yieldOf σ o.op)
noncomputable def Yk (M:pO R) (ops:Array Oper) (o:Oper) (rest:List Oper) (k:List Kt) (σ:AState):Option Bool→Option R
 |none=>none
 |some b=>bif b then Sa M ops o rest k (uy ops o true σ) (qu (uy ops o true σ) o.op) else run M (.ops ops rest::k) ((uy ops o false σ).put o.dst (.raw undef))
theorem run_ops {ops:Array Oper} {o:Oper} {rest:List Oper}:run M (.ops ops (o::rest)::k) σ=Yk M ops o rest k σ (sr ops o σ):=by
 have hr: ∀σ,run M (.ops ops rest::k) σ=match vu M ops rest σ with|some (e,σ')=>fin M k e σ'|none=>none:=by
  intro σ
  show fin M (.ops ops rest::k) .normal σ=_
  rw[sk (by simp)]
  simp only[x8]
 have hl:run M (.ops ops (o::rest)::k) σ=match vu M ops (o::rest) σ with|some (e,σ')=>fin M k e σ'|none=>none:=by
  show fin M (.ops ops (o::rest)::k) .normal σ=_
  rw[sk (by simp)]
  simp only[x8]
 rw[hl]
 simp only[vu]
 cases hw:sr ops o σ with
 |none=>rfl
 |some b=>
  simp only[Yk]
  cases b with
  |false=>simp only[cond_false,hr]
  |true=>
   simp only[cond_true]
   cases hc:qu (uy ops o true σ) o.op with
   |some q=>
    obtain ⟨f,args⟩:=q
    simp only[Sa]
    cases hi:M.qZ f with
    |true=>
     simp only[cond_true]
     cases ha:M.cp f args (uy ops o true σ).heap with
     |none=>simp only[Gu]
     |some q=>
      obtain ⟨r,H'⟩:=q
      cases r with
      |ret r=>simp only[Gu,hr]
      |panic x=>simp only[Gu,zV]
    |false=>
     simp only[cond_false]
     cases ha:M.cl f args (uy ops o true σ).heap with
     |none=>simp only[G0]
     |some q=>obtain ⟨r,H'⟩:=q;simp only[G0,hr]
   |none=>
    simp only[Sa]
    cases hy:yieldOf (uy ops o true σ) o.op with
    |some q=>
     obtain ⟨l,args⟩:=q
     simp only[Vt]
     cases ha:M.cy l args (uy ops o true σ).heap with
     |none=>simp only[G0]
     |some q=>obtain ⟨r,H'⟩:=q;simp only[G0,hr]
    |none=>
     simp only[Vt]
     have key:(∀c,o.op≠ .defer c)→(∀x,o.op≠ .panic x)→tZ M ops o.dst rest k (uy ops o true σ) o.op=su M ops o.dst rest k (uy ops o true σ) (nW M.P (uy ops o true σ) o.op):=by
      intro h1 h2
      unfold tZ
      split
      ·rename_i hh;exact absurd hh (h1 _)
      ·rename_i hh;exact absurd hh (h2 _)
      ·rfl
     by_cases h1: ∃c,o.op= .defer c
     ·obtain ⟨c,Ub⟩:=h1
      simp only[Ub,nW,tZ]
      cases Av (uy ops o true σ) (.defer c) with
      |some p=>simp only[Yi,hr]
      |none=>simp only[Yi,Gr]
     ·by_cases h2: ∃x,o.op= .panic x
      ·obtain ⟨x,hx⟩:=h2
       simp only[hx,nW,tZ,Av]
       cases Gr (uy ops o true σ) (.panic x) with
       |some p=>simp only[Yj,zV]
       |none=>simp only[Yj]
      ·rw[key (fun c Ub=>h1 ⟨c,Ub⟩) (fun x hx=>h2 ⟨x,hx⟩)]
       cases he:nW M.P (uy ops o true σ) o.op with
       |none=>
        simp only[su]
        have e1:Av (uy ops o true σ) o.op=none:=by
         unfold Av
         split
         ·rename_i hh;exact absurd ⟨_,hh⟩ h1
         ·rfl
        have e2:Gr (uy ops o true σ) o.op=none:=by
         unfold Gr
         split
         ·rename_i hh;exact absurd ⟨_,hh⟩ h2
         ·rfl
        simp only[e1,e2]
       |some e=>
        simp only[su,hr]
        by_cases hp:e.pre
        ·simp only[pcond,if_pos hp]
        ·simp only[pcond,if_neg hp]
theorem stepW_true {ops:Array Oper} {o:Oper} {rest:List Oper}:Yk M ops o rest k σ (some true)=Sa M ops o rest k (uy ops o true σ) (qu (uy ops o true σ) o.op):=rfl
theorem Yl {ops:Array Oper} {o:Oper} {rest:List Oper}:Yk M ops o rest k σ (some false)=run M (.ops ops rest::k) ((uy ops o false σ).put o.dst (.raw undef)):=rfl
theorem stepW_sym {ops:Array Oper} {o:Oper} {rest:List Oper} {b:Bool}:Yk M ops o rest k σ (some b)=bif b then Sa M ops o rest k (uy ops o true σ) (qu (uy ops o true σ) o.op) else run M (.ops ops rest::k) ((uy ops o false σ).put o.dst (.raw undef)):=rfl
theorem stepC_some {ops:Array Oper} {o:Oper} {rest:List Oper} {f:FuncId} {args:List AV}:Sa M ops o rest k σ (some (f,args))=bif M.qZ f then Gu M ops o.dst rest k σ (M.cp f args σ.heap) else G0 M ops o.dst rest k σ (M.cl f args σ.heap):=rfl
theorem stepP_ret {ops:Array Oper} {dst:Option Tmp} {rest:List Oper} {r:AV} {H':List AObj}:Gu M ops dst rest k σ (some (.ret r,H'))=run M (.ops ops rest::k) (AState.put {σ with heap:=H'} dst r):=rfl
theorem stepP_pan {ops:Array Oper} {dst:Option Tmp} {rest:List Oper} {x:AV} {H':List AObj}:Gu M ops dst rest k σ (some (.panic x,H'))=X8 M x {σ with heap:=H'} k:=rfl
theorem stepP_none {ops:Array Oper} {dst:Option Tmp} {rest:List Oper}:Gu M ops dst rest k σ none=none:=rfl
theorem stepP_bind {ops:Array Oper} {dst:Option Tmp} {rest:List Oper} {α:Type} {o:Option α} {f:α→Option (wo×List AObj)}:Gu M ops dst rest k σ (o.bind f)=o.bind fun x=>Gu M ops dst rest k σ (f x):=by
 cases o<;>rfl
theorem stepP_cond {ops:Array Oper} {dst:Option Tmp} {rest:List Oper} {b:Bool} {x y:Option (wo×List AObj)}:Gu M ops dst rest k σ (bif b then x else y)=bif b then Gu M ops dst rest k σ x else Gu M ops dst rest k σ y:=by cases b<;>rfl
theorem stepF_some {ops:Array Oper} {dst:Option Tmp} {rest:List Oper} {p:FuncId×List AV}:Yi M ops dst rest k σ (some p)=run M (.ops ops rest::k) (σ.dfr p dst):=rfl
theorem stepQ_some {x:AV}:Yj M k σ (some x)=X8 M x σ k:=rfl
theorem stepC_none {ops:Array Oper} {o:Oper} {rest:List Oper}:Sa M ops o rest k σ none=Vt M ops o rest k σ (yieldOf σ o.op):=rfl
theorem stepY_some {ops:Array Oper} {o:Oper} {rest:List Oper} {l:Nat} {args:List AV}:Vt M ops o rest k σ (some (l,args))=G0 M ops o.dst rest k σ (M.cy l args σ.heap):=rfl
theorem stepY_none {ops:Array Oper} {o:Oper} {rest:List Oper}:Vt M ops o rest k σ none=tZ M ops o.dst rest k σ o.op:=rfl
theorem stepE_none {ops:Array Oper} {dst:Option Tmp} {rest:List Oper}:su M ops dst rest k σ none=none:=rfl
theorem stepE_some {ops:Array Oper} {dst:Option Tmp} {rest:List Oper} {x:AV} {rd:List Nat} {up:List (Nat×AObj)} {nw:List AObj} {p:Prop}:
 su M ops dst rest k σ (some {val:=x,rd,up,nw,pre:=p})=pcond p (run M (.ops ops rest::k) {σ.put dst x with heap:=p4 σ.heap up++nw}):=rfl
theorem stepE_bind {ops:Array Oper} {dst:Option Tmp} {rest:List Oper} {α:Type} {o:Option α} {f:α→Option wg}:su M ops dst rest k σ (o.bind f)=o.bind fun x=>su M ops dst rest k σ (f x):=by
 cases o<;>rfl
theorem stepE_ite {ops:Array Oper} {dst:Option Tmp} {rest:List Oper} {p:Prop} [Decidable p] {a b:Option wg}:su M ops dst rest k σ (if p then a else b)=bif decide p then su M ops dst rest k σ a else su M ops dst rest k σ b:=by
 by_cases h:p<;>simp [h]
theorem stepA_some {ops:Array Oper} {dst:Option Tmp} {rest:List Oper} {r:AV} {H':List AObj}:G0 M ops dst rest k σ (some (r,H'))=run M (.ops ops rest::k) (AState.put {σ with heap:=H'} dst r):=rfl
theorem stepA_none {ops:Array Oper} {dst:Option Tmp} {rest:List Oper}:G0 M ops dst rest k σ none=none:=rfl
theorem stepA_bind {ops:Array Oper} {dst:Option Tmp} {rest:List Oper} {α:Type} {o:Option α} {f:α→Option (AV×List AObj)}:G0 M ops dst rest k σ (o.bind f)=o.bind fun x=>G0 M ops dst rest k σ (f x):=by
 cases o<;>rfl
def HQ (M:pO R) (p:List Nat) (tr:List Tr) (j:Nat) (e:wg):Prop:=Bo (tD M p) tr j e
def sX (M:pO R) (p:List Nat) (i j:Nat):Bool:=RP (tD M p) i j
theorem compatP_eq {p:List Nat} {tr:List Tr} {j:Nat} {e:wg}:HQ M p tr j e=(e.idle=true∨(tr.all fun t=>zQ t e||sX M p t.j j)=true):=rfl
noncomputable def wq (M:pO R) (p:List Nat) (dst:Option Tmp) (rest:List Oper) (j:Nat) (tr:List Tr) (k:List Kt) (σ:AState):Option wg→Option R
 |some e=>pcond (e.pre∧HQ M p tr j e) (run M (.GZ p rest (j+1) (C5 tr j σ.heap.length e)::k) (σ.app dst e))
 |none=>none
noncomputable def G1 (M:pO R) (p:List Nat) (dst:Option Tmp) (rest:List Oper) (j:Nat) (tr:List Tr) (k:List Kt) (σ:AState):Option AV→Option R
 |some r=>run M (.GZ p rest (j+1) tr::k) (σ.put dst r)
 |none=>none
def Lw (M:pO R) (p:List Nat) (c:Nat) (rest:List Oper) (j:Nat) (σ:AState):Prop:=HN M.P (tD M p) c rest j σ
noncomputable def EV (M:pO R) (p:List Nat) (dst:Option Tmp) (rest:List Oper) (j:Nat) (tr:List Tr) (k:List Kt) (σ:AState):Option CO→Option R
 |some (.ret e)=>wq M p dst rest j tr k σ (some e)
 |some (.pan x H')=>pcond (Gc tr=true∧Lw M p j rest (j+1) (σ.put dst (.raw undef))) (X8 M x {σ with slots:=NA (tD M p) σ.slots,heap:=H'} k)
 |none=>none
noncomputable def ND (M:pO R) (p:List Nat) (o:Oper) (rest:List Oper) (j:Nat) (tr:List Tr) (k:List Kt) (σ:AState):Option (FuncId×List AV)→Option R
 |some (f,args)=>bif M.Ay f then EV M p o.dst rest j tr k σ (M.co f args σ.heap) else bif M.Ax f then wq M p o.dst rest j tr k σ (M.ce f args σ.heap) else G1 M p o.dst rest j tr k σ (M.cd f args)
 |none=>wq M p o.dst rest j tr k σ (nW M.P σ o.op)
noncomputable def Sb (M:pO R) (p:List Nat) (o:Oper) (rest:List Oper) (j:Nat) (tr:List Tr) (k:List Kt) (σ:AState):Option Bool→Option R
 |none=>none
 |some b=>bif b then ND M p o rest j tr k (uy (tD M p) o true σ) (qu (uy (tD M p) o true σ) o.op) else run M (.GZ p rest (j+1) tr::k) ((uy (tD M p) o false σ).put o.dst (.raw undef))
theorem run_dops {p:List Nat} {o:Oper} {rest:List Oper} {j:Nat} {tr:List Tr}:run M (.GZ p (o::rest) j tr::k) σ=Sb M p o rest j tr k σ (sr (tD M p) o σ):=by
 have hr: ∀j tr σ,run M (.GZ p rest j tr::k) σ=match DJ M (tD M p) rest j tr σ with|some (e,σ')=>fin M k e σ'|none=>none:=by
  intro j tr σ
  show fin M (.GZ p rest j tr::k) .normal σ=_
  rw[sk (by simp)]
  simp only[x8]
 have hl:run M (.GZ p (o::rest) j tr::k) σ=match DJ M (tD M p) (o::rest) j tr σ with|some (e,σ')=>fin M k e σ'|none=>none:=by
  show fin M (.GZ p (o::rest) j tr::k) .normal σ=_
  rw[sk (by simp)]
  simp only[x8]
 rw[hl]
 simp only[DJ]
 cases hw:sr (tD M p) o σ with
 |none=>rfl
 |some b=>
  simp only[Sb]
  cases b with
  |false=>simp only[cond_false,hr]
  |true=>
   simp only[cond_true]
   cases hc:qu (uy (tD M p) o true σ) o.op with
   |some q=>
    obtain ⟨f,args⟩:=q
    simp only[ND]
    cases hic:M.Ay f with
    |true=>
     simp only[cond_true]
     cases he:M.co f args (uy (tD M p) o true σ).heap with
     |none=>simp only[EV]
     |some q=>
      cases q with
      |ret e=>
       simp only[EV,wq,hr]
       have hpe:(e.pre∧HQ M p tr j e)=(e.pre∧Bo (tD M p) tr j e):=rfl
       rw[hpe]
       by_cases hp:e.pre∧Bo (tD M p) tr j e
       ·simp only[pcond,if_pos hp]
       ·simp only[pcond,if_neg hp]
      |pan x H'=>
       simp only[EV,Lw]
       by_cases hp:Gc tr=true∧HN M.P (tD M p) j rest (j+1) ((uy (tD M p) o true σ).put o.dst (.raw undef))
       ·simp only[pcond,if_pos hp,zV]
       ·simp only[pcond,if_neg hp]
    |false=>
    simp only[cond_false]
    cases hi:M.Ax f with
    |true=>
     simp only[cond_true]
     cases he:M.ce f args (uy (tD M p) o true σ).heap with
     |none=>simp only[wq]
     |some e=>
      simp only[wq,hr]
      have hpe:(e.pre∧HQ M p tr j e)=(e.pre∧Bo (tD M p) tr j e):=rfl
      rw[hpe]
      by_cases hp:e.pre∧Bo (tD M p) tr j e
      ·simp only[pcond,if_pos hp]
      ·simp only[pcond,if_neg hp]
    |false=>
     simp only[cond_false]
     cases ha:M.cd f args with
     |none=>simp only[G1]
     |some r=>simp only[G1,hr]
   |none=>
    simp only[ND]
    cases he:nW M.P (uy (tD M p) o true σ) o.op with
    |none=>simp only[wq]
    |some e=>
     simp only[wq,hr]
     have hpe:(e.pre∧HQ M p tr j e)=(e.pre∧Bo (tD M p) tr j e):=rfl
     rw[hpe]
     by_cases hp:e.pre∧Bo (tD M p) tr j e
     ·simp only[pcond,if_pos hp]
     ·simp only[pcond,if_neg hp]
theorem Ym {p:List Nat} {o:Oper} {rest:List Oper} {j:Nat} {tr:List Tr}:Sb M p o rest j tr k σ (some true)=ND M p o rest j tr k (uy (tD M p) o true σ) (qu (uy (tD M p) o true σ) o.op):=rfl
theorem Wy {p:List Nat} {o:Oper} {rest:List Oper} {j:Nat} {tr:List Tr}:Sb M p o rest j tr k σ (some false)=run M (.GZ p rest (j+1) tr::k) ((uy (tD M p) o false σ).put o.dst (.raw undef)):=rfl
theorem stepDW_sym {p:List Nat} {o:Oper} {rest:List Oper} {j:Nat} {tr:List Tr} {b:Bool}:Sb M p o rest j tr k σ (some b)=bif b then ND M p o rest j tr k (uy (tD M p) o true σ) (qu (uy (tD M p) o true σ) o.op) else run M (.GZ p rest (j+1) tr::k) ((uy (tD M p) o false σ).put o.dst (.raw undef)):=rfl
theorem Yn {p:List Nat} {o:Oper} {rest:List Oper} {j:Nat} {tr:List Tr} {f:FuncId} {args:List AV}:ND M p o rest j tr k σ (some (f,args))=bif M.Ay f then EV M p o.dst rest j tr k σ (M.co f args σ.heap) else bif M.Ax f then wq M p o.dst rest j tr k σ (M.ce f args σ.heap) else G1 M p o.dst rest j tr k σ (M.cd f args):=rfl
theorem stepDP_ret {p:List Nat} {dst:Option Tmp} {rest:List Oper} {j:Nat} {tr:List Tr} {e:wg}:EV M p dst rest j tr k σ (some (.ret e))=wq M p dst rest j tr k σ (some e):=rfl
theorem stepDP_pan {p:List Nat} {dst:Option Tmp} {rest:List Oper} {j:Nat} {tr:List Tr} {x:AV} {H':List AObj}:EV M p dst rest j tr k σ (some (.pan x H'))=pcond (Gc tr=true) (pcond (Lw M p j rest (j+1) (σ.put dst (.raw undef))) (X8 M x {σ with slots:=NA (tD M p) σ.slots,heap:=H'} k)):=by
 rw[←Jq];rfl
theorem Yo {p:List Nat} {dst:Option Tmp} {rest:List Oper} {j:Nat} {tr:List Tr}:EV M p dst rest j tr k σ none=none:=rfl
theorem Yp {p:List Nat} {dst:Option Tmp} {rest:List Oper} {j:Nat} {tr:List Tr} {α:Type} {o:Option α} {f:α→Option CO}:EV M p dst rest j tr k σ (o.bind f)=o.bind fun x=>EV M p dst rest j tr k σ (f x):=by
 cases o<;>rfl
theorem restP_nil {p:List Nat} {c j:Nat}:Lw M p c [] j σ=True:=rfl
def Yq (M:pO R) (p:List Nat) (c j:Nat):Bool:=tj (tD M p) c j
theorem restP_skip {p:List Nat} {c j:Nat} {o:Oper} {rest:List Oper} (h:Yq M p c j=true):Lw M p c (o::rest) j σ=Lw M p c rest (j+1) (σ.put o.dst (.raw undef)):=by
 unfold Yq at h
 show HN M.P (tD M p) c (o::rest) j σ=HN M.P (tD M p) c rest (j+1) (σ.put o.dst (.raw undef))
 simp only[HN,h]
theorem Yr {p:List Nat} {dst:Option Tmp} {rest:List Oper} {j:Nat} {tr:List Tr}:wq M p dst rest j tr k σ none=none:=rfl
theorem Yt {p:List Nat} {dst:Option Tmp} {rest:List Oper} {j:Nat} {tr:List Tr} {x:AV} {pr:Prop}:
 wq M p dst rest j tr k σ (some {val:=x,rd:=[],up:=[],nw:=[],pre:=pr})=pcond pr (run M (.GZ p rest (j+1) tr::k) (σ.put dst x)):=by
 simp only[wq,HQ,Bo,wg.idle,C5,fR,Bool.and_true,gm,true_or,and_true,cond_true]
 rw[CU]
theorem Yu {p:List Nat} {dst:Option Tmp} {rest:List Oper} {j:Nat} {tr:List Tr} {x:AV} {rd:List Nat} {up:List (Nat×AObj)} {nw:List AObj} {pr:Prop}:
 wq M p dst rest j tr k σ (some {val:=x,rd,up,nw,pre:=pr})=pcond pr (pcond (HQ M p tr j {val:=x,rd,up,nw,pre:=pr}) (run M (.GZ p rest (j+1) (C5 tr j σ.heap.length {val:=x,rd,up,nw,pre:=pr})::k) {σ.put dst x with heap:=p4 σ.heap up++nw})):=by
 rw[←Jq];rfl
theorem Yv {p:List Nat} {dst:Option Tmp} {rest:List Oper} {j:Nat} {tr:List Tr} {α:Type} {o:Option α} {f:α→Option wg}:wq M p dst rest j tr k σ (o.bind f)=o.bind fun x=>wq M p dst rest j tr k σ (f x):=by
 cases o<;>rfl
theorem stepDE_ite {p:List Nat} {dst:Option Tmp} {rest:List Oper} {j:Nat} {tr:List Tr} {pr:Prop} [Decidable pr] {a b:Option wg}:wq M p dst rest j tr k σ (if pr then a else b)=bif decide pr then wq M p dst rest j tr k σ a else wq M p dst rest j tr k σ b:=by
 by_cases h:pr<;>simp [h]
theorem Yw {p:List Nat} {dst:Option Tmp} {rest:List Oper} {j:Nat} {tr:List Tr} {r:AV}:G1 M p dst rest j tr k σ (some r)=run M (.GZ p rest (j+1) tr::k) (σ.put dst r):=rfl
theorem Yx {p:List Nat} {dst:Option Tmp} {rest:List Oper} {j:Nat} {tr:List Tr}:G1 M p dst rest j tr k σ none=none:=rfl
theorem Yy {p:List Nat} {dst:Option Tmp} {rest:List Oper} {j:Nat} {tr:List Tr} {α:Type} {o:Option α} {f:α→Option AV}:G1 M p dst rest j tr k σ (o.bind f)=o.bind fun x=>G1 M p dst rest j tr k σ (f x):=by
 cases o<;>rfl
theorem NF (G:Good M) {r:R} {Q:qL→AState→Prop} (h:run M [.at []] σ=some r) (hQ: ∀σ',M.out σ'=some r→Q .normal σ'∧Q .ret σ') (hP: ∀x σ',M.wU x σ'=some r→Q (.panic x) σ'):Ri M.P M.body Q σ:=by
 have h':fin M [.at []] .normal σ=some r:=h
 rw[sk (by simp)] at h'
 simp only[x8,sub] at h'
 cases hx:exec M M.body [] σ with
 |none=>simp only[hx] at h';cases h'
 |some q=>
  obtain ⟨e,σ'⟩:=q
  simp only[hx] at h'
  refine xZ G _ [] Q σ e σ' hx ?_
  cases e with
  |normal=>exact (hQ σ' h').1
  |ret=>exact (hQ σ' h').2
  |panic x=>exact hP x σ' h'
  |_=>simp only[fin] at h';cases h'
theorem run_sound (G:Good M) {r:R} {Q:qL→AState→Prop} (h:run M [.at []] σ=some r) (hQ: ∀σ',M.out σ'=some r→Q .normal σ'∧Q .ret σ') (hP: ∀x σ',M.wU x σ'=none):Ri M.P M.body Q σ:=
 NF G h hQ fun x σ' hx=>by rw[hP x σ'] at hx;cases hx
def Sc:Op→Bool
 | .call {callee:= .value _,..}=>false
 | .panic _=>false
 |_=>true
def Sd:Code→Bool
 | .skip=>true
 | .region _ ops _=>ops.toList.all fun o=>Sc o.op
 | .seq x y=>Sd x&&Sd y
 |_=>false
theorem Lx {σ:AState} {o:Op} (h:Sc o=true):qu σ o=none:=by
 unfold qu
 split
 ·cases h
 ·rfl
theorem Yz {σ:AState} {o:Op} (h:Sc o=true):Gr σ o=none:=by
 unfold Gr
 split
 ·cases h
 ·rfl
theorem J9 {M:pO R} {ops:Array Oper}: ∀ (rest:List Oper) (σ:AState) (e:qL) (σ':AState),rest.all (fun o=>Sc o.op)=true→vu M ops rest σ=some (e,σ')→e= .normal
 |[],σ,e,σ',_,h=>by simp only[vu,ff,fq] at h;exact h.1.symm
 |o::rest,σ,e,σ',hc,h=>by
  rw[gu,fF] at hc
  have ih:=fun σ=>J9 (M:=M) (ops:=ops) rest σ e σ' hc.2
  simp only[vu] at h
  split at h
  ·cases h
  ·rename_i b _
   cases b with
   |false=>simp only[cond_false] at h;exact ih _ h
   |true=>
    simp only[cond_true,Lx hc.1,Yz hc.1] at h
    split at h
    ·split at h
     ·exact ih _ h
     ·cases h
    ·split at h
     ·rw[pZ] at h;exact ih _ h.2
     ·split at h
      ·exact ih _ h
      ·cases h
theorem Se {M:pO R} {ops:Array Oper}: ∀ (rest:List Oper) (j:Nat) (tr:List Tr) (σ:AState) (e:qL) (σ':AState),rest.all (fun o=>Sc o.op)=true→DJ M ops rest j tr σ=some (e,σ')→e= .normal
 |[],_,_,σ,e,σ',_,h=>by simp only[DJ,ff,fq] at h;exact h.1.symm
 |o::rest,j,tr,σ,e,σ',hc,h=>by
  rw[gu,fF] at hc
  have ih:=fun tr σ=>Se (M:=M) (ops:=ops) rest (j+1) tr σ e σ' hc.2
  simp only[DJ] at h
  split at h
  ·cases h
  ·rename_i b _
   cases b with
   |false=>simp only[cond_false] at h;exact ih _ _ h
   |true=>
    simp only[cond_true,Lx hc.1] at h
    split at h
    ·rw[pZ] at h;exact ih _ _ h.2
    ·cases h
theorem Pn {M:pO R}: ∀ (c:Code) (p:List Nat) (σ:AState) (e:qL) (σ':AState),Sd c=true→exec M c p σ=some (e,σ')→e= .normal
 | .skip,_,_,e,_,_,h=>by simp only[exec,ff,fq] at h;exact h.1.symm
 | .region _ ops false,_,_,e,_,hp,h=>by
   simp only[exec] at h
   exact J9 _ _ _ _ hp h
 | .region _ ops true,_,_,e,_,hp,h=>by
   simp only[exec] at h
   rw[pZ] at h
   exact Se _ _ _ _ _ _ hp h.2
 | .seq x y,p,σ,e,σ',hp,h=>by
   simp only[Sd,fF] at hp
   simp only[exec] at h
   cases hx:exec M x (0::p) σ with
   |none=>simp only[hx] at h;cases h
   |some r=>
    obtain ⟨e1,σ1⟩:=r
    have:=Pn x _ _ _ _ hp.1 hx
    subst this
    simp only[hx] at h
    cases hc:M.cut (1::p) σ1 with
    |none=>simp only[hc,Option.bind_none] at h;cases h
    |some σ2=>
     simp only[hc,fG] at h
     exact Pn y _ _ _ _ hp.2 h
 | .cond _ _ _,_,_,_,_,hp,_=>by cases hp
 | .block _ _,_,_,_,_,hp,_=>by cases hp
 | .loop _,_,_,_,_,hp,_=>by cases hp
 | .exit _,_,_,_,_,hp,_=>by cases hp
 | .scope _,_,_,_,_,hp,_=>by cases hp
 | .label _,_,_,_,_,hp,_=>by cases hp
 | .ret,_,_,_,_,hp,_=>by cases hp
 | .goto _,_,_,_,_,hp,_=>by cases hp
 | .rangeFunc _ _ _ _,_,_,_,_,hp,_=>by cases hp
 | .refuse _,_,_,_,_,hp,_=>by cases hp
theorem fnT_run {lk:xl} {slots args:List AV} {H:List AObj} {V:wo→List AObj→Prop} {r:R} (G:Good M) (hbody:M.body= .seq lk.assign lk.body) (hp:Sd lk.assign=true) (hn:wV lk.assign=true∧wV lk.body=true)
 (hH:H[0]? =some (.loop lk slots .ready 0)) (hnb:nbL H.length args) (DK: ∀x∈H,objNb H.length x) (hout: ∀e σ,M.pW e σ=some r→rPost V e σ)
 (h:run M [.at [0],.rb,.at [1],.rd] {slots:=KZ slots lk.ps.toList args,heap:=H,low:=H.length}=some r):XY M.P (Nx M.P) args H V:=by
 refine Wu hH hnb DK hn ?_
 have h0:sub [0] M.body=lk.assign:=by rw[hbody];rfl
 have h1:sub [1] M.body=lk.body:=by rw[hbody];rfl
 have h':fin M [.at [0],.rb,.at [1],.rd] .normal {slots:=KZ slots lk.ps.toList args,heap:=H,low:=H.length}=some r:=h
 rw[sk (by simp)] at h'
 simp only[x8,h0] at h'
 cases hx:exec M lk.assign [0] {slots:=KZ slots lk.ps.toList args,heap:=H,low:=H.length} with
 |none=>simp only[hx] at h';cases h'
 |some q=>
  obtain ⟨e,σ'⟩:=q
  have:=Pn _ _ _ _ _ hp hx
  subst this
  simp only[hx] at h'
  refine xZ G _ [0] _ _ .normal σ' hx ?_
  rw[sk (by simp)] at h'
  simp only[x8] at h'
  cases hb:Pj σ' with
  |none=>simp only[hb,Option.map_none] at h';cases h'
  |some σ2=>
   simp only[hb,gh] at h'
   unfold Pj beginO at hb
   split at hb
   ·rename_i k s hk
    simp only[ff] at hb
    subst hb
    refine ⟨k,s,hk,?_⟩
    rw[sk (by simp)] at h'
    simp only[x8,h1] at h'
    cases GP:exec M lk.body [1] {σ' with heap:=σ'.heap.set 0 (.loop k s .busy 0)} with
    |none=>simp only[GP] at h';cases h'
    |some q=>
     obtain ⟨e2,σ3⟩:=q
     simp only[GP] at h'
     refine xZ G _ [1] _ _ e2 σ3 GP ?_
     exact hout e2 σ3 (by cases e2<;>exact h')
   ·cases hb
theorem pL {f:FuncId} {fn:Func} {args:List AV} {V:AV→Prop} {r:R} {n:Nat} {rs:List ResultVar} (G:Good M) (hf:M.P.funcs[f]? =some fn) (hb:fn.body=some M.body) (hne:(fn.name != "runtime.NumGoroutine")=true) (hnb:nbL 0 args)
 (hn:fn.ntmps=n) (Ph:fn.results=rs.toArray) (hout: ∀σ,M.out σ=some r→σ.df=[]∧endV V σ.heap (Gs M.P σ rs))
 (h:run M [.at []] {slots:=args++fy (n-args.length) .any,heap:=[]}=some r) (hP: ∀x σ',M.wU x σ'=none:=by intros;rfl):xS M.P f args V:=by
 refine XV hf hb hne hnb ?_
 rw[Ph,hn]
 refine run_sound G h (fun σ' hs=> ?_) hP
 have:=hout σ' hs
 exact ⟨this,this⟩
end
end Go.Abs
namespace Go.Abs
section lists
variable {α β γ:Type}
def mapO (f:β→Option α):List β→Option (List α)
 |[]=>some []
 |x::xs=>(f x).bind fun y=>(mapO f xs).bind fun ys=>some (y::ys)
theorem mapO_nil (f:β→Option α):mapO f []=some []:=rfl
theorem mapO_cons (f:β→Option α) (x:β) (xs:List β):mapO f (x::xs)=(f x).bind fun y=>(mapO f xs).bind fun ys=>some (y::ys):=rfl
theorem Qm (f:β→Option α): ∀a b:List β,mapO f (a++b)=(mapO f a).bind fun x=>(mapO f b).bind fun y=>some (x++y)
 |[],b=>by cases h:mapO f b<;>simp [mapO,h]
 |x::a,b=>by
  simp only[List.cons_append,mapO,Qm f a b]
  cases f x<;>simp
  cases mapO f a<;>simp
  cases mapO f b<;>simp
theorem Sf {f:β→Option α} {g:α→β} (h: ∀x,f (g x)=some x): ∀xs:List α,mapO f (xs.map g)=some xs
 |[]=>rfl
 |x::xs=>by simp [mapO,h x,Sf h xs]
def mp (f:α→β) (xs:List α):List β:=xs.map f
theorem uc (f:α→β) (xs:List α):mp f xs=xs.map f:=rfl
attribute [irreducible] mp
theorem GL (f:α→β) (xs:List α):(mp f xs).length=xs.length:=by rw[uc,gf]
theorem mp_take (f:α→β) (xs:List α) (n:Nat):(mp f xs).take n=mp f (xs.take n):=by rw[uc,uc,List.map_take]
theorem mp_drop (f:α→β) (xs:List α) (n:Nat):(mp f xs).drop n=mp f (xs.drop n):=by rw[uc,uc,List.map_drop]
theorem Sg (f:α→β) (xs:List α):(mp f xs).isEmpty=xs.isEmpty:=by rw[uc];cases xs<;>rfl
theorem B8 {f:β→Option α} {g:α→β} (h: ∀x,f (g x)=some x) (xs:List α):mapO f (mp g xs)=some xs:=by rw[uc];exact Sf h xs
theorem bind_map' {f:α→β} {g:β→Option γ} {o:Option α}:(gz f o).bind g=o.bind fun x=>g (f x):=by cases o<;>rfl
theorem bind_bind' {f:α→Option β} {g:β→Option γ} {o:Option α}:(o.bind f).bind g=o.bind fun x=>(f x).bind g:=by cases o<;>rfl
theorem bind_cond {f:α→Option β} {b:Bool} {x y:Option α}:(bif b then x else y).bind f=bif b then x.bind f else y.bind f:=by cases b<;>rfl
theorem bind_none' {f:α→Option β}:(none:Option α).bind f=none:=rfl
theorem zi {f:α→Option β} {x:α}:(some x).bind f=f x:=rfl
def zj (xs:List α) (n:Int):Option α:=if 0≤n then xs[n.toNat]? else none
theorem idxA_mp {f:α→β} {xs:List α} {n:Int}:zj (mp f xs) n=gz f (zj xs n):=by
 rw[uc];unfold zj;split<;>simp
theorem idxA_zero {x:α} {xs:List α}:zj (x::xs) 0=some x:=rfl
theorem idxA_one {x y:α} {xs:List α}:zj (x::y::xs) 1=some y:=rfl
theorem idxA_two {x y z:α} {xs:List α}:zj (x::y::z::xs) 2=some z:=rfl
end lists
def zB:List AV→List AV→Prop
 |[],ys=>ys=[]
 |x::xs,ys=> ∃y zs,ys=y::zs∧Sub x y∧zB xs zs
theorem zB.nil:zB [] []:=rfl
theorem zB.cons {x y:AV} {xs ys:List AV} (h:Sub x y) (hs:zB xs ys):zB (x::xs) (y::ys):=⟨y,ys,rfl,h,hs⟩
theorem zB.subL: ∀ {xs ys:List AV},zB xs ys→tQ xs ys
 |[],_,rfl=>tQ.nil
 |_::_,_,⟨_,_,rfl,h,hs⟩=>tQ.cons h (zB.subL hs)
theorem zB.subM: ∀ {xs ys:List AV},zB xs ys→Pa xs ys
 |[],_,rfl=>Pa.nil
 |_::_,_,⟨_,_,rfl,h,hs⟩=>Pa.cons h (zB.subM hs)
theorem zB.length: ∀ {xs ys:List AV},zB xs ys→xs.length=ys.length
 |[],_,rfl=>rfl
 |_::_,_,⟨_,_,rfl,_,hs⟩=>by simp [zB.length hs]
theorem zB.append: ∀ {xs ys us vs:List AV},zB xs ys→zB us vs→zB (xs++us) (ys++vs)
 |[],_,_,_,rfl,h=>h
 |_::_,_,_,_,⟨y,zs,rfl,h,hs⟩,h2=>⟨y,zs++_,rfl,h,zB.append hs h2⟩
theorem sW.nil {H:List AObj} {n:Nat}:sW H n [] []:=rfl
theorem sW.cons {H:List AObj} {n:Nat} {x y:AV} {xs ys:List AV} (h:Vk H n x y) (hs:sW H n xs ys):sW H n (x::xs) (y::ys):=⟨y,ys,rfl,h,hs⟩
theorem sW.append {H:List AObj} {n:Nat}: ∀ {xs ys us vs:List AV},sW H n xs ys→sW H n us vs→sW H n (xs++us) (ys++vs)
 |[],_,_,_,rfl,h=>h
 |_::_,_,_,_,⟨y,zs,rfl,h,hs⟩,h2=>⟨y,zs++_,rfl,h,sW.append hs h2⟩
theorem Vk.toSub {n:Nat} {x y:AV} (h:Vk [] n x y):Sub x y:=by
 rcases h with h|⟨l,m,sz,rows,_,hl,_⟩
 ·exact h.1
 ·simp at hl
theorem sW.toSub {n:Nat}: ∀ {xs ys:List AV},sW [] n xs ys→zB xs ys
 |[],_,rfl=>rfl
 |_::_,_,⟨y,zs,rfl,h,hs⟩=>⟨y,zs,rfl,h.toSub,sW.toSub hs⟩
theorem Co.toSub {n:Nat} {x y:AV} (h:Co [] n x y):Sub x y:=by
 rcases h with h|⟨cs,ds,rfl,rfl,h⟩
 ·exact h.toSub
 ·exact Sub.agg h.toSub.subL
theorem sW.toCoL {H:List AObj} {n:Nat}: ∀ {xs ys:List AV},sW H n xs ys→zD H n xs ys
 |[],_,rfl=>rfl
 |_::_,_,⟨y,zs,rfl,h,hs⟩=>⟨y,zs,rfl,.inl h,sW.toCoL hs⟩
structure Row (α:Type) where
 enc:α→List AV
 dec:List AV→Option α
 sz:Nat
 ok: ∀r x,dec r=some x→zB r (enc x)
 nb: ∀n x,nbL n (enc x)
structure Ty (α:Type) where
 enc:α→AV
 dec:List AObj→AV→Option α
 ok: ∀H n v x,dec H v=some x→Co H n v (enc x)
 nb: ∀n x,(enc x).nb n
section rows
variable {α:Type}
def EW (sz k:Nat) (rows:List (List AV)):Bool:=sz==k||rows.isEmpty
def dL (r:Row α) (H:List AObj):AV→Option (List α)
 | .nE _ sz rows=>bif EW sz r.sz rows then mapO r.dec rows else none
 | .acc l n=>match H[l]? with
   |some (.acc true sz rows)=>bif (rows.length==n)&&EW sz r.sz rows then mapO r.dec rows else none
   |_=>none
 |_=>none
theorem EX {r:Row α}: ∀ {rows:List (List AV)} {xs:List α},mapO r.dec rows=some xs→J7 rows (mp r.enc xs)∧CV rows (mp r.enc xs)
 |[],xs,h=>by
  simp only[mapO,ff] at h
  subst h
  rw[uc]
  exact ⟨J7.nil,rfl⟩
 |c::rows,xs,h=>by
  simp only[mapO,fc,ff] at h
  obtain ⟨y,hy,ys,hys,rfl⟩:=h
  obtain ⟨h1,h2⟩:=EX hys
  have h3:=r.ok _ _ hy
  rw[uc] at h1 h2 ⊢
  exact ⟨J7.cons h3.subM h1,_,_,rfl,⟨h3.length,h3.subL⟩,h2⟩
theorem wN {r:Row α} {n:Nat}: ∀xs:List α,GJ n (mp r.enc xs)
 |[]=>by rw[uc];trivial
 |x::xs=>by have:=wN (r:=r) (n:=n) xs;rw[uc] at this ⊢;exact ⟨r.nb n x,this⟩
theorem Ka {t:Bool} {sz k:Nat} {rows vF:List (List AV)} (h:EW sz k rows=true) (hs:J7 rows vF):Sub (.nE t sz rows) (.nE false k vF):=by
 unfold EW at h
 simp only[Bool.or_eq_true,beq_iff_eq,List.isEmpty_iff] at h
 rcases h with rfl|rfl
 ·exact Sub.nE hs
 ·have:vF=[]:=fV hs.1.symm
  subst this
  exact Sub.empty _ _ _
theorem Jt {r:Row α} {H:List AObj} {n:Nat} {v:AV} {xs:List α} (h:dL r H v=some xs):Vk H n v (.nE false r.sz (mp r.enc xs)):=by
 unfold dL at h
 split at h
 ·rename_i t sz rows
  cases hs:EW sz r.sz rows with
  |false=>simp [hs] at h
  |true=>
   simp only[hs,cond_true] at h
   exact .inl ⟨Ka hs (EX h).1,wN xs⟩
 ·rename_i l m
  split at h
  ·rename_i sz rows hl
   cases hs:EW sz r.sz rows with
   |false=>simp [hs] at h
   |true=>
    cases hm:(rows.length==m) with
    |false=>simp [hm] at h
    |true=>
     simp only[hs,hm,Bool.and_self,cond_true] at h
     exact .inr ⟨l,m,sz,rows,rfl,hl,by simpa using hm,Ka hs (EX h).1,wN xs⟩
  ·cases h
 ·cases h
def oa (r:Row α):Ty (List α) where
 enc xs:= .nE false r.sz (mp r.enc xs)
 dec:=dL r
 ok _ _ _ _ h:= .inl (Jt h)
 nb _ xs:=wN xs
theorem tyL_enc {r:Row α} {xs:List α}:(oa r).enc xs= .nE false r.sz (mp r.enc xs):=rfl
theorem tyL_dec {r:Row α} {H:List AObj} {v:AV}:(oa r).dec H v=dL r H v:=rfl
end rows
def sb (s:List UInt8):ByteArray:=⟨s.toArray⟩
abbrev Str:=List UInt8
def dI (k:IntKind):AV→Option Int
 | .int k' n=>if k'=k then some n else none
 |_=>none
def dB:AV→Option Bool
 | .bool b=>some b
 |_=>none
def dS:AV→Option Str
 | .str b=>some b.data.toList
 |_=>none
theorem Ds {k:IntKind} {H:List AObj} {n:Nat} {v:AV} {x:Int} (h:dI k v=some x):Vk H n v (.int k x):=by
 unfold dI at h
 split at h
 ·split at h
  ·cases h;rename_i e;subst e;exact Vk.sub (Sub.refl _) trivial
  ·cases h
 ·cases h
theorem YA {H:List AObj} {n:Nat} {v:AV} {x:Bool} (h:dB v=some x):Vk H n v (.bool x):=by
 unfold dB at h
 split at h
 ·cases h;exact Vk.sub (Sub.refl _) trivial
 ·cases h
theorem Wz (b:ByteArray):sb b.data.toList=b:=by
 cases b;rfl
theorem Sh {H:List AObj} {n:Nat} {v:AV} {x:Str} (h:dS v=some x):Vk H n v (.str (sb x)):=by
 unfold dS at h
 split at h
 ·cases h;rw[Wz];exact Vk.sub (Sub.refl _) trivial
 ·cases h
theorem Of (s:Str):dS (.str (sb s))=some s:=rfl
theorem Kb (k:IntKind) (n:Int):dI k (.int k n)=some n:=by simp [dI]
theorem GB (b:Bool):dB (.bool b)=some b:=rfl
theorem dS_empty:dS (.str ByteArray.empty)=some []:=rfl
theorem dS_emptyL:dS (.str ⟨#[]⟩)=some []:=rfl
def o9 (k:IntKind):Ty Int:=⟨.int k,fun _=>dI k,fun _ _ _ _ h=> .inl (Ds h),fun _ _=>trivial⟩
def pe:Ty Bool:=⟨.bool,fun _=>dB,fun _ _ _ _ h=> .inl (YA h),fun _ _=>trivial⟩
def sD:Ty Str:=⟨fun s=> .str (sb s),fun _=>dS,fun _ _ _ _ h=> .inl (Sh h),fun _ _=>trivial⟩
theorem tyI_enc {k:IntKind} {x:Int}:(o9 k).enc x= .int k x:=rfl
theorem tyI_dec {k:IntKind} {H:List AObj} {v:AV}:(o9 k).dec H v=dI k v:=rfl
theorem tyB_enc {x:Bool}:pe.enc x= .bool x:=rfl
theorem tyB_dec {H:List AObj} {v:AV}:pe.dec H v=dB v:=rfl
theorem tyS_enc {x:Str}:sD.enc x= .str (sb x):=rfl
theorem tyS_dec {H:List AObj} {v:AV}:sD.dec H v=dS v:=rfl
def dF (f:FuncId):AV→Option Unit
 | .func (.func g) [] []=>if g=f then some () else none
 |_=>none
theorem dF_lit (f:FuncId):dF f (.func (.func f) [] [])=some ():=by simp [dF]
def O3 (f:FuncId):Ty Unit where
 enc _:= .func (.func f) [] []
 dec _:=dF f
 ok H n v x h:=by
  unfold dF at h
  split at h
  ·split at h
   ·rename_i e;subst e;exact Co.same ⟨trivial,trivial⟩
   ·cases h
  ·cases h
 nb _ _:=⟨trivial,trivial⟩
theorem tyF_enc {f:FuncId} {x:Unit}:(O3 f).enc x= .func (.func f) [] []:=rfl
theorem tyF_dec {f:FuncId} {H:List AObj} {v:AV}:(O3 f).dec H v=dF f v:=rfl
def Ly (n:Int):List AV:=[.int .i64 n]
def n4 (s:Str):List AV:=[.str (sb s)]
def Og (b:Bool):List AV:=[.bool b]
def Si (n:Int):List AV:=[.int .u8 n]
def YB (k:IntKind):List AV→Option Int
 |[c]=>dI k c
 |_=>none
def dB1:List AV→Option Bool
 |[c]=>dB c
 |_=>none
def dS1:List AV→Option Str
 |[c]=>dS c
 |_=>none
def rowI:Row Int where
 enc:=Ly
 dec:=YB .i64
 sz:=1
 ok r x h:=by
  unfold YB at h
  split at h
  ·exact zB.cons (Ds (H:=[]) (n:=0) h).toSub zB.nil
  ·cases h
 nb _ _:=⟨trivial,trivial⟩
def rowU:Row Int where
 enc:=Si
 dec:=YB .u8
 sz:=1
 ok r x h:=by
  unfold YB at h
  split at h
  ·exact zB.cons (Ds (H:=[]) (n:=0) h).toSub zB.nil
  ·cases h
 nb _ _:=⟨trivial,trivial⟩
def rowB:Row Bool where
 enc:=Og
 dec:=dB1
 sz:=1
 ok r x h:=by
  unfold dB1 at h
  split at h
  ·exact zB.cons (YA (H:=[]) (n:=0) h).toSub zB.nil
  ·cases h
 nb _ _:=⟨trivial,trivial⟩
def p8:Row Str where
 enc:=n4
 dec:=dS1
 sz:=1
 ok r x h:=by
  unfold dS1 at h
  split at h
  ·exact zB.cons (Sh (H:=[]) (n:=0) h).toSub zB.nil
  ·cases h
 nb _ _:=⟨trivial,trivial⟩
theorem rowI_f:rowI.enc=Ly∧rowI.dec=YB .i64∧rowI.sz=1:=⟨rfl,rfl,rfl⟩
theorem rowU_f:rowU.enc=Si∧rowU.dec=YB .u8∧rowU.sz=1:=⟨rfl,rfl,rfl⟩
theorem rowB_f:rowB.enc=Og∧rowB.dec=dB1∧rowB.sz=1:=⟨rfl,rfl,rfl⟩
theorem Sj:p8.enc=n4∧p8.dec=dS1∧p8.sz=1:=⟨rfl,rfl,rfl⟩
theorem FF:(∀xs:List Int,mapO (YB .i64) (mp Ly xs)=some xs)∧(∀xs:List Int,mapO (YB .u8) (mp Si xs)=some xs)∧(∀xs:List Bool,mapO dB1 (mp Og xs)=some xs)∧ ∀xs:List Str,mapO dS1 (mp n4 xs)=some xs:=
 ⟨B8 fun x=>by simp [YB,Ly,dI],B8 fun x=>by simp [YB,Si,dI],B8 fun x=>rfl,B8 fun x=>rfl⟩
structure Mn (α:Type) where
 enc:α→List AV
 dec:List AObj→List AV→Option α
 ok: ∀H n cs x,dec H cs=some x→sW H n cs (enc x)
 nb: ∀n x,nbL n (enc x)
section cel
variable {α:Type}
def dC (c:Mn α) (H:List AObj):AV→Option α
 | .agg cs=>c.dec H cs
 |_=>none
def nF (c:Mn α):Ty α where
 enc x:= .agg (c.enc x)
 dec:=dC c
 ok H n v x h:=by
  unfold dC at h
  split at h
  ·exact .inr ⟨_,_,rfl,rfl,c.ok H n _ _ h⟩
  ·cases h
 nb n x:=c.nb n x
theorem tyC_enc {c:Mn α} {x:α}:(nF c).enc x= .agg (c.enc x):=rfl
theorem tyC_dec {c:Mn α} {H:List AObj} {v:AV}:(nF c).dec H v=dC c H v:=rfl
end cel
def tyU:Ty Unit where
 enc _:= .tup []
 dec _
  | .tup []=>some ()
  |_=>none
 ok H n v x h:=by
  split at h
  ·exact Co.same trivial
  ·cases h
 nb _ _:=trivial
theorem tyU_enc {x:Unit}:tyU.enc x= .tup []:=rfl
theorem tyU_dec {H:List AObj}:tyU.dec H (.tup [])=some ():=rfl
section tuples
variable {α β γ δ ε:Type}
def d2 (a:Ty α) (b:Ty β):AV→Option (α×β)
 | .tup [x,y]=>(a.dec [] x).bind fun u=>(b.dec [] y).bind fun v=>some (u,v)
 |_=>none
def d3 (a:Ty α) (b:Ty β) (c:Ty γ):AV→Option (α×β×γ)
 | .tup [x,y,z]=>(a.dec [] x).bind fun u=>(b.dec [] y).bind fun v=>(c.dec [] z).bind fun w=>some (u,v,w)
 |_=>none
def d4 (a:Ty α) (b:Ty β) (c:Ty γ) (d:Ty δ):AV→Option (α×β×γ×δ)
 | .tup [x,y,z,p]=>(a.dec [] x).bind fun u=>(b.dec [] y).bind fun v=>(c.dec [] z).bind fun w=>(d.dec [] p).bind fun q=>some (u,v,w,q)
 |_=>none
def d5 (a:Ty α) (b:Ty β) (c:Ty γ) (d:Ty δ) (e:Ty ε):AV→Option (α×β×γ×δ×ε)
 | .tup [x,y,z,p,s]=>(a.dec [] x).bind fun u=>(b.dec [] y).bind fun v=>(c.dec [] z).bind fun w=>(d.dec [] p).bind fun q=>(e.dec [] s).bind fun t=>some (u,v,w,q,t)
 |_=>none
def K0 (a:Ty α) (b:Ty β):Ty (α×β) where
 enc x:= .tup [a.enc x.1,b.enc x.2]
 dec _:=d2 a b
 ok H n v x h:=by
  unfold d2 at h
  split at h
  ·simp only[fc,ff] at h
   obtain ⟨u,hu,w,hw,rfl⟩:=h
   exact Co.sub (Sub.tup (tQ.cons (a.ok [] 0 _ _ hu).toSub (tQ.cons (b.ok [] 0 _ _ hw).toSub tQ.nil))) ⟨a.nb n u,b.nb n w,trivial⟩
  ·cases h
 nb n x:=⟨a.nb n _,b.nb n _,trivial⟩
def Ud (a:Ty α) (b:Ty β) (c:Ty γ):Ty (α×β×γ) where
 enc x:= .tup [a.enc x.1,b.enc x.2.1,c.enc x.2.2]
 dec _:=d3 a b c
 ok H n v x h:=by
  unfold d3 at h
  split at h
  ·simp only[fc,ff] at h
   obtain ⟨u,hu,w,hw,p,hp,rfl⟩:=h
   exact Co.sub (Sub.tup (tQ.cons (a.ok [] 0 _ _ hu).toSub (tQ.cons (b.ok [] 0 _ _ hw).toSub (tQ.cons (c.ok [] 0 _ _ hp).toSub tQ.nil)))) ⟨a.nb n u,b.nb n w,c.nb n p,trivial⟩
  ·cases h
 nb n x:=⟨a.nb n _,b.nb n _,c.nb n _,trivial⟩
def ty4 (a:Ty α) (b:Ty β) (c:Ty γ) (d:Ty δ):Ty (α×β×γ×δ) where
 enc x:= .tup [a.enc x.1,b.enc x.2.1,c.enc x.2.2.1,d.enc x.2.2.2]
 dec _:=d4 a b c d
 ok H n v x h:=by
  unfold d4 at h
  split at h
  ·simp only[fc,ff] at h
   obtain ⟨u,hu,w,hw,p,hp,q,hq,rfl⟩:=h
   exact Co.sub (Sub.tup (tQ.cons (a.ok [] 0 _ _ hu).toSub (tQ.cons (b.ok [] 0 _ _ hw).toSub (tQ.cons (c.ok [] 0 _ _ hp).toSub (tQ.cons (d.ok [] 0 _ _ hq).toSub tQ.nil))))) ⟨a.nb n u,b.nb n w,c.nb n p,d.nb n q,trivial⟩
  ·cases h
 nb n x:=⟨a.nb n _,b.nb n _,c.nb n _,d.nb n _,trivial⟩
def ty5 (a:Ty α) (b:Ty β) (c:Ty γ) (d:Ty δ) (e:Ty ε):Ty (α×β×γ×δ×ε) where
 enc x:= .tup [a.enc x.1,b.enc x.2.1,c.enc x.2.2.1,d.enc x.2.2.2.1,e.enc x.2.2.2.2]
 dec _:=d5 a b c d e
 ok H n v x h:=by
  unfold d5 at h
  split at h
  ·simp only[fc,ff] at h
   obtain ⟨u,hu,w,hw,p,hp,q,hq,s,hs,rfl⟩:=h
   exact Co.sub (Sub.tup (tQ.cons (a.ok [] 0 _ _ hu).toSub (tQ.cons (b.ok [] 0 _ _ hw).toSub (tQ.cons (c.ok [] 0 _ _ hp).toSub (tQ.cons (d.ok [] 0 _ _ hq).toSub (tQ.cons (e.ok [] 0 _ _ hs).toSub tQ.nil)))))) ⟨a.nb n u,b.nb n w,c.nb n p,d.nb n q,e.nb n s,trivial⟩
  ·cases h
 nb n x:=⟨a.nb n _,b.nb n _,c.nb n _,d.nb n _,e.nb n _,trivial⟩
theorem ty2_enc {a:Ty α} {b:Ty β} {x:α×β}:(K0 a b).enc x= .tup [a.enc x.1,b.enc x.2]:=rfl
theorem ty2_dec {a:Ty α} {b:Ty β} {H:List AObj} {v:AV}:(K0 a b).dec H v=d2 a b v:=rfl
theorem ty3_enc {a:Ty α} {b:Ty β} {c:Ty γ} {x:α×β×γ}:(Ud a b c).enc x= .tup [a.enc x.1,b.enc x.2.1,c.enc x.2.2]:=rfl
theorem ty3_dec {a:Ty α} {b:Ty β} {c:Ty γ} {H:List AObj} {v:AV}:(Ud a b c).dec H v=d3 a b c v:=rfl
theorem ty4_enc {a:Ty α} {b:Ty β} {c:Ty γ} {d:Ty δ} {x:α×β×γ×δ}:(ty4 a b c d).enc x= .tup [a.enc x.1,b.enc x.2.1,c.enc x.2.2.1,d.enc x.2.2.2]:=rfl
theorem ty4_dec {a:Ty α} {b:Ty β} {c:Ty γ} {d:Ty δ} {H:List AObj} {v:AV}:(ty4 a b c d).dec H v=d4 a b c d v:=rfl
theorem ty5_enc {a:Ty α} {b:Ty β} {c:Ty γ} {d:Ty δ} {e:Ty ε} {x:α×β×γ×δ×ε}:(ty5 a b c d e).enc x= .tup [a.enc x.1,b.enc x.2.1,c.enc x.2.2.1,d.enc x.2.2.2.1,e.enc x.2.2.2.2]:=rfl
theorem ty5_dec {a:Ty α} {b:Ty β} {c:Ty γ} {d:Ty δ} {e:Ty ε} {H:List AObj} {v:AV}:(ty5 a b c d e).dec H v=d5 a b c d e v:=rfl
end tuples
noncomputable def pW {ρ:Type} (P:Program) (rs:List ResultVar) (t:Ty ρ) (σ:AState):Option ρ:=
 bif σ.df.isEmpty then (Gs P σ rs).bind fun x=>pcond ((O1 0 σ.heap x).nb 0) (t.dec [] (O1 0 σ.heap x)) else none
theorem pz {ρ:Type} {P:Program} {rs:List ResultVar} {t:Ty ρ} {σ:AState} {r:ρ} (h:pW P rs t σ=some r):σ.df=[]∧endV (fun v=>v=t.enc r) σ.heap (Gs P σ rs):=by
 unfold pW at h
 cases hd:σ.df with
 |cons p q=>rw[hd] at h;cases h
 |nil=>
 rw[hd] at h
 simp only[fR,cond_true] at h
 refine ⟨rfl,?_⟩
 cases hx:Gs P σ rs with
 |none=>rw[hx] at h;cases h
 |some x=>
  rw[hx] at h
  simp only[fG] at h
  rw[pZ] at h
  exact ⟨h.1,_,(t.ok [] 0 _ _ h.2).toSub,rfl⟩
abbrev Ent:=List AV→List AObj→Option (AV×List AObj)
abbrev EntD:=List AV→Option AV
section entries
variable {α β γ δ ε ζ ρ:Type}
def G2 (t:Ty ρ) (F:Option ρ):Ent
 |[],H=>F.bind fun r=>some (t.enc r,H)
 |_,_=>none
def qj (a:Ty α) (t:Ty ρ) (F:α→Option ρ):Ent
 |[x],H=>(a.dec H x).bind fun x=>(F x).bind fun r=>some (t.enc r,H)
 |_,_=>none
def tH (a:Ty α) (b:Ty β) (t:Ty ρ) (F:α→β→Option ρ):Ent
 |[x,y],H=>(a.dec H x).bind fun x=>(b.dec H y).bind fun y=>(F x y).bind fun r=>some (t.enc r,H)
 |_,_=>none
def Lz (a:Ty α) (b:Ty β) (c:Ty γ) (t:Ty ρ) (F:α→β→γ→Option ρ):Ent
 |[x,y,z],H=>(a.dec H x).bind fun x=>(b.dec H y).bind fun y=>(c.dec H z).bind fun z=>(F x y z).bind fun r=>some (t.enc r,H)
 |_,_=>none
def ent4 (a:Ty α) (b:Ty β) (c:Ty γ) (d:Ty δ) (t:Ty ρ) (F:α→β→γ→δ→Option ρ):Ent
 |[x,y,z,u],H=>(a.dec H x).bind fun x=>(b.dec H y).bind fun y=>(c.dec H z).bind fun z=>(d.dec H u).bind fun u=>(F x y z u).bind fun r=>some (t.enc r,H)
 |_,_=>none
def ent5 (a:Ty α) (b:Ty β) (c:Ty γ) (d:Ty δ) (e:Ty ε) (t:Ty ρ) (F:α→β→γ→δ→ε→Option ρ):Ent
 |[x,y,z,u,v],H=>(a.dec H x).bind fun x=>(b.dec H y).bind fun y=>(c.dec H z).bind fun z=>(d.dec H u).bind fun u=>(e.dec H v).bind fun v=>(F x y z u v).bind fun r=>some (t.enc r,H)
 |_,_=>none
def ent6 (a:Ty α) (b:Ty β) (c:Ty γ) (d:Ty δ) (e:Ty ε) (f:Ty ζ) (t:Ty ρ) (F:α→β→γ→δ→ε→ζ→Option ρ):Ent
 |[x,y,z,u,v,w],H=>(a.dec H x).bind fun x=>(b.dec H y).bind fun y=>(c.dec H z).bind fun z=>(d.dec H u).bind fun u=>(e.dec H v).bind fun v=>(f.dec H w).bind fun w=>(F x y z u v w).bind fun r=>some (t.enc r,H)
 |_,_=>none
noncomputable def vY (e:Ent):EntD:=fun args=>pcond (nbL 0 args) ((e args []).bind fun r=>some r.1)
def HR (P:Program) (f:FuncId) (e:Ent):Prop:= ∀args σ r H',e args σ.heap=some (r,H')→AU P f args σ (fun o DE=>o= .ret r∧DE=H')
def NG (P:Program) (f:FuncId) (e:EntD):Prop:= ∀args r,e args=some r→xS P f args (fun v=>v=r)
variable {P:Program} {f:FuncId} {a:Ty α} {b:Ty β} {c:Ty γ} {d:Ty δ} {e:Ty ε} {g:Ty ζ} {t:Ty ρ}
theorem Kc {F:Option ρ} (h: ∀r,F=some r→xS P f [] (fun v=>v=t.enc r)):HR P f (G2 t F):=by
 intro args σ r H' he
 unfold G2 at he
 split at he
 ·simp only[fc,ff,fq] at he
  obtain ⟨r',hr,rfl,rfl⟩:=he
  exact Lt (n:=0) (h r' hr) zD.nil
 ·cases he
theorem qi {F:α→Option ρ} (h: ∀x r,F x=some r→xS P f [a.enc x] (fun v=>v=t.enc r)):HR P f (qj a t F):=by
 intro args σ r H' he
 unfold qj at he
 split at he
 ·simp only[fc,ff,fq] at he
  obtain ⟨x,hx,r',hr,rfl,rfl⟩:=he
  exact Lt (n:=0) (h x r' hr) (zD.cons (a.ok _ 0 _ _ hx) zD.nil)
 ·cases he
theorem uH {F:α→β→Option ρ} (h: ∀x y r,F x y=some r→xS P f [a.enc x,b.enc y] (fun v=>v=t.enc r)):HR P f (tH a b t F):=by
 intro args σ r H' he
 unfold tH at he
 split at he
 ·simp only[fc,ff,fq] at he
  obtain ⟨x,hx,y,hy,r',hr,rfl,rfl⟩:=he
  exact Lt (n:=0) (h x y r' hr) (zD.cons (a.ok _ 0 _ _ hx) (zD.cons (b.ok _ 0 _ _ hy) zD.nil))
 ·cases he
theorem Rm {F:α→β→γ→Option ρ} (h: ∀x y z r,F x y z=some r→xS P f [a.enc x,b.enc y,c.enc z] (fun v=>v=t.enc r)):HR P f (Lz a b c t F):=by
 intro args σ r H' he
 unfold Lz at he
 split at he
 ·simp only[fc,ff,fq] at he
  obtain ⟨x,hx,y,hy,z,hz,r',hr,rfl,rfl⟩:=he
  exact Lt (n:=0) (h x y z r' hr) (zD.cons (a.ok _ 0 _ _ hx) (zD.cons (b.ok _ 0 _ _ hy) (zD.cons (c.ok _ 0 _ _ hz) zD.nil)))
 ·cases he
theorem ent4_ok {F:α→β→γ→δ→Option ρ} (h: ∀x y z u r,F x y z u=some r→xS P f [a.enc x,b.enc y,c.enc z,d.enc u] (fun v=>v=t.enc r)):HR P f (ent4 a b c d t F):=by
 intro args σ r H' he
 unfold ent4 at he
 split at he
 ·simp only[fc,ff,fq] at he
  obtain ⟨x,hx,y,hy,z,hz,u,hu,r',hr,rfl,rfl⟩:=he
  exact Lt (n:=0) (h x y z u r' hr) (zD.cons (a.ok _ 0 _ _ hx) (zD.cons (b.ok _ 0 _ _ hy) (zD.cons (c.ok _ 0 _ _ hz) (zD.cons (d.ok _ 0 _ _ hu) zD.nil))))
 ·cases he
theorem YC {F:Option ρ} (h: ∀r,F=some r→xS P f [] (fun w=>w=t.enc r)):NG P f (vY (G2 t F)):=by
 intro args r he
 unfold vY at he
 rw[pZ] at he
 obtain ⟨hnb,he⟩:=he
 unfold G2 at he
 split at he
 ·simp only[fc,ff,Prod.exists,fq] at he
  obtain ⟨_,_,⟨r',hr,rfl,rfl⟩,rfl⟩:=he
  exact Rk (h r' hr) (tQ.nil) hnb
 ·cases he
theorem BD {F:α→Option ρ} (h: ∀x r,F x=some r→xS P f [a.enc x] (fun w=>w=t.enc r)):NG P f (vY (qj a t F)):=by
 intro args r he
 unfold vY at he
 rw[pZ] at he
 obtain ⟨hnb,he⟩:=he
 unfold qj at he
 split at he
 ·simp only[fc,ff,Prod.exists,fq] at he
  obtain ⟨_,_,⟨x,hx,r',hr,rfl,rfl⟩,rfl⟩:=he
  exact Rk (h x r' hr) (tQ.cons (a.ok _ 0 _ _ hx).toSub tQ.nil) hnb
 ·cases he
theorem DL {F:α→β→Option ρ} (h: ∀x y r,F x y=some r→xS P f [a.enc x,b.enc y] (fun w=>w=t.enc r)):NG P f (vY (tH a b t F)):=by
 intro args r he
 unfold vY at he
 rw[pZ] at he
 obtain ⟨hnb,he⟩:=he
 unfold tH at he
 split at he
 ·simp only[fc,ff,Prod.exists,fq] at he
  obtain ⟨_,_,⟨x,hx,y,hy,r',hr,rfl,rfl⟩,rfl⟩:=he
  exact Rk (h x y r' hr) (tQ.cons (a.ok _ 0 _ _ hx).toSub (tQ.cons (b.ok _ 0 _ _ hy).toSub tQ.nil)) hnb
 ·cases he
theorem YD {F:α→β→γ→Option ρ} (h: ∀x y z r,F x y z=some r→xS P f [a.enc x,b.enc y,c.enc z] (fun w=>w=t.enc r)):NG P f (vY (Lz a b c t F)):=by
 intro args r he
 unfold vY at he
 rw[pZ] at he
 obtain ⟨hnb,he⟩:=he
 unfold Lz at he
 split at he
 ·simp only[fc,ff,Prod.exists,fq] at he
  obtain ⟨_,_,⟨x,hx,y,hy,z,hz,r',hr,rfl,rfl⟩,rfl⟩:=he
  exact Rk (h x y z r' hr) (tQ.cons (a.ok _ 0 _ _ hx).toSub (tQ.cons (b.ok _ 0 _ _ hy).toSub (tQ.cons (c.ok _ 0 _ _ hz).toSub tQ.nil))) hnb
 ·cases he
end entries
def om:List (Nat×Ent)→FuncId→List AV→List AObj→Option (AV×List AObj)
 |[],_,_,_=>none
 |(g,e)::t,f,args,H=>if f=g then e args H else om t f args H
def oo:List (Nat×EntD)→FuncId→List AV→Option AV
 |[],_,_=>none
 |(g,e)::t,f,args=>if f=g then e args else oo t f args
theorem mY {P:Program}: ∀f args (σ:AState) r H',om [] f args σ.heap=some (r,H')→AU P f args σ (fun o DE=>o= .ret r∧DE=H'):=by
 intro f args σ r H' h;cases h
theorem mV {P:Program} {g:Nat} {e:Ent} {t:List (Nat×Ent)} (h1:HR P g e) (h2: ∀f args (σ:AState) r H',om t f args σ.heap=some (r,H')→AU P f args σ (fun o DE=>o= .ret r∧DE=H')):
 ∀f args (σ:AState) r H',om ((g,e)::t) f args σ.heap=some (r,H')→AU P f args σ (fun o DE=>o= .ret r∧DE=H'):=by
 intro f args σ r H' h
 simp only[om] at h
 split at h
 ·rename_i hg;subst hg;exact h1 _ _ _ _ h
 ·exact h2 _ _ _ _ _ h
theorem mZ {P:Program}: ∀f args r,oo [] f args=some r→xS P f args (fun v=>v=r):=by
 intro f args r h;cases h
theorem qE {P:Program} {g:Nat} {e:EntD} {t:List (Nat×EntD)} (h1:NG P g e) (h2: ∀f args r,oo t f args=some r→xS P f args (fun v=>v=r)):
 ∀f args r,oo ((g,e)::t) f args=some r→xS P f args (fun v=>v=r):=by
 intro f args r h
 simp only[oo] at h
 split at h
 ·rename_i hg;subst hg;exact h1 _ _ h
 ·exact h2 _ _ _ h
structure NZ where
 f:List AObj→Nat→AV→Option AV
 ok: ∀H n v v',f H n v=some v'→Co H n v v'
structure ZO where
 f:List AObj→Nat→AObj→Option AObj
 ok: ∀H n x y,f H n x=some y→GW H n x y
def zA:NZ:=⟨fun _ _ _=>some .any,fun _ _ _ _ h=>by cases h;exact Co.any⟩
noncomputable def zK:NZ:=⟨fun _ n v=>pcond (v.nb n) (some v),fun _ _ _ _ h=>by rw[pZ] at h;obtain ⟨h1,h2⟩:=h;cases h2;exact Co.same h1⟩
def zT {α:Type} (t:Ty α):NZ:=⟨fun H _ v=>(t.dec H v).bind fun x=>some (t.enc x),fun H n v v' h=>by
 simp only[fc,ff] at h
 obtain ⟨x,hx,rfl⟩:=h
 exact t.ok H n v x hx⟩
theorem WA {sz:Nat} {rows vF:List (List AV)} (hs:J7 rows vF):Sub (.nE true sz rows) (.nE true sz vF):=by
 rintro E v ⟨base,cap,hv,h1,h2,h3,h4,h5⟩
 refine ⟨base,cap,by rw[←hs.1];exact hv,by rw[←hs.1];exact h1,fun _=>by rw[←hs.1];exact h2 rfl,h3,fun a ha hne=>h4 a ha ?_,fun a ha=>hs.2 E sz _ _ (h5 a ha)⟩
 rintro rfl
 exact hne (fV hs.1.symm)
def dLt {α:Type} (r:Row α):AV→Option (List α)
 | .nE true sz rows=>bif sz==r.sz then mapO r.dec rows else none
 |_=>none
def zL {α:Type} (r:Row α):NZ:=⟨fun _ _ v=>(dLt r v).bind fun x=>some (.nE true r.sz (mp r.enc x)),fun H n v v' h=>by
 simp only[fc,ff] at h
 obtain ⟨x,hx,rfl⟩:=h
 unfold dLt at hx
 split at hx
 ·rename_i sz rows
  cases hz:(sz==r.sz) with
  |false=>rw[hz] at hx;cases hx
  |true=>
   rw[hz,cond_true] at hx
   obtain rfl:=beq_iff_eq.1 hz
   exact .inl (.inl ⟨WA (EX hx).1,wN x⟩)
 ·cases hx⟩
theorem zL_f {α:Type} {r:Row α} {H:List AObj} {n:Nat} {v:AV}:(zL r).f H n v=(dLt r v).bind fun x=>some (.nE true r.sz (mp r.enc x)):=rfl
theorem zA_f {H:List AObj} {n:Nat} {v:AV}:zA.f H n v=some .any:=rfl
theorem zK_f {H:List AObj} {n:Nat} {v:AV}:zK.f H n v=pcond (v.nb n) (some v):=rfl
theorem zT_f {α:Type} {t:Ty α} {H:List AObj} {n:Nat} {v:AV}:(zT t).f H n v=(t.dec H v).bind fun x=>some (t.enc x):=rfl
def QS:List NZ→List AObj→Nat→List AV→Option (List AV)
 |[],_,_,[]=>some []
 |z::zs,H,n,v::vs=>(z.f H n v).bind fun u=>(QS zs H n vs).bind fun us=>some (u::us)
 |_,_,_,_=>none
theorem Rn: ∀ {zs:List NZ} {H:List AObj} {n:Nat} {vs us:List AV},QS zs H n vs=some us→zD H n vs us
 |[],_,_,[],us,h=>by simp only[QS,ff] at h;subst h;rfl
 |z::zs,H,n,v::vs,us,h=>by
  simp only[QS,fc,ff] at h
  obtain ⟨u,hu,ws,hws,rfl⟩:=h
  exact zD.cons (z.ok _ _ _ _ hu) (Rn hws)
 |[],_,_,_::_,_,h=>by simp [QS] at h
 |_::_,_,_,[],_,h=>by simp [QS] at h
def oD:ZO:=⟨fun _ _ _=>some .dead,fun _ _ _ _ h=>by cases h;exact .inl rfl⟩
noncomputable def oK:ZO:=⟨fun _ n x=>pcond (objNb n x) (some x),fun _ _ _ _ h=>by rw[pZ] at h;obtain ⟨h1,h2⟩:=h;cases h2;exact .inr (.inl ⟨rfl,h1⟩)⟩
def oCf (zs:List NZ) (H:List AObj) (n:Nat):AObj→Option AObj
 | .cells cs=>(QS zs H n cs).bind fun ds=>some (.cells ds)
 |_=>none
def oC (zs:List NZ):ZO:=⟨oCf zs,fun H n x y h=>by
 unfold oCf at h
 split at h
 ·simp only[fc,ff] at h
  obtain ⟨ds,hd,rfl⟩:=h
  exact .inr (.inr (.inl ⟨_,_,rfl,rfl,Rn hd⟩))
 ·cases h⟩
def oTf {α:Type} (c:Mn α) (H:List AObj):AObj→Option AObj
 | .cells cs=>(c.dec H cs).bind fun x=>some (.cells (c.enc x))
 |_=>none
def oT {α:Type} (c:Mn α):ZO:=⟨fun H _=>oTf c H,fun H n x y h=>by
 unfold oTf at h
 split at h
 ·simp only[fc,ff] at h
  obtain ⟨z,hz,rfl⟩:=h
  exact .inr (.inr (.inl ⟨_,_,rfl,rfl,(c.ok H n _ _ hz).toCoL⟩))
 ·cases h⟩
def oAf {α:Type} (r:Row α):AObj→Option AObj
 | .acc uO sz rows=>(mapO r.dec rows).bind fun xs=>some (.acc uO sz (mp r.enc xs))
 |_=>none
def oA {α:Type} (r:Row α):ZO:=⟨fun _ _=>oAf r,fun H n x y h=>by
 unfold oAf at h
 split at h
 ·simp only[fc,ff] at h
  obtain ⟨xs,hx,rfl⟩:=h
  exact .inr (.inr (.inr (.inl ⟨_,_,_,_,rfl,rfl,(EX hx).2,wN xs⟩)))
 ·cases h⟩
theorem oD_f {H:List AObj} {n:Nat} {x:AObj}:oD.f H n x=some .dead:=rfl
theorem oK_f {H:List AObj} {n:Nat} {x:AObj}:oK.f H n x=pcond (objNb n x) (some x):=rfl
theorem oC_f {zs:List NZ} {H:List AObj} {n:Nat} {cs:List AV}:(oC zs).f H n (.cells cs)=(QS zs H n cs).bind fun ds=>some (.cells ds):=rfl
theorem oT_f {α:Type} {c:Mn α} {H:List AObj} {n:Nat} {cs:List AV}:(oT c).f H n (.cells cs)=(c.dec H cs).bind fun x=>some (.cells (c.enc x)):=rfl
theorem oA_f {α:Type} {r:Row α} {H:List AObj} {n:Nat} {uO:Bool} {sz:Nat} {rows:List (List AV)}:(oA r).f H n (.acc uO sz rows)=(mapO r.dec rows).bind fun xs=>some (.acc uO sz (mp r.enc xs)):=rfl
def zipO:List ZO→List AObj→Nat→List AObj→Option (List AObj)
 |[],_,_,_=>some []
 |z::zs,H,n,v::vs=>(z.f H n v).bind fun u=>(zipO zs H n vs).bind fun us=>some (u::us)
 |_::_,_,_,[]=>none
theorem zipO_ok: ∀ {zs:List ZO} {H:List AObj} {n:Nat} {vs us:List AObj},zipO zs H n vs=some us→Ml H n vs us∧us.length=zs.length
 |[],_,_,vs,us,h=>by simp only[zipO,ff] at h;subst h;exact ⟨Ml.nil,rfl⟩
 |z::zs,H,n,v::vs,us,h=>by
  simp only[zipO,fc,ff] at h
  obtain ⟨u,hu,ws,hws,rfl⟩:=h
  obtain ⟨h1,h2⟩:=zipO_ok hws
  exact ⟨⟨z.ok _ _ _ _ hu,h1⟩,by simp [h2]⟩
 |_::_,_,_,[],_,h=>by simp [zipO] at h
theorem YE {n:Nat}:Wf n []=True:=eq_true N5
theorem WB {n:Nat} {p:FuncId×List AV} {r:List (FuncId×List AV)}:Wf n (p::r)=(nbL n p.2∧Wf n r):=by
 apply propext
 constructor
 ·intro h;exact ⟨h p (by simp),fun q hq=>h q (by simp [hq])⟩
 ·rintro ⟨h1,h2⟩ q hq
  rcases fH.1 hq with rfl|hq
  ·exact h1
  ·exact h2 q hq
noncomputable def nrmZ (zs:List NZ) (zo:List ZO) (σ:AState):Option AState:=
 (QS zs σ.heap zo.length σ.slots).bind fun ss=>(zipO zo σ.heap zo.length σ.heap).bind fun hs=>bif decide (σ.low≤zo.length) then pcond (Wf zo.length σ.df) (some ⟨ss,hs,σ.low,σ.df⟩) else none
theorem nrmZ_ok {zs:List NZ} {zo:List ZO} {σ σ':AState} (h:nrmZ zs zo σ=some σ'):Fi σ σ':=by
 unfold nrmZ at h
 simp only[fc] at h
 obtain ⟨ss,h1,hs,h2,h3⟩:=h
 cases hl:decide (σ.low≤zo.length) with
 |false=>simp [hl] at h3
 |true=>
  simp only[hl,cond_true] at h3
  rw[pZ] at h3
  obtain ⟨hdf,h3⟩:=h3
  simp only[ff] at h3
  subst h3
  obtain ⟨h4,h5⟩:=zipO_ok h2
  have hle:σ.low≤hs.length:=by rw[h5];exact of_decide_eq_true hl
  refine Up.imp ⟨⟨⟨rfl,hle⟩,rfl,by rw[h5];exact hdf⟩,?_,?_⟩
  ·show zD σ.heap hs.length σ.slots ss
   rw[h5];exact Rn h1
  ·show Ml σ.heap hs.length σ.heap hs
   rw[h5];exact h4
def FG (i sz:Nat) (uO:Bool) (σ:AState):AState:=
 match σ.slots[i]? with
 |some (.nE true _ [])=>{slots:=σ.slots.set i (.acc σ.heap.length 0),heap:=σ.heap++[.acc uO sz []],low:=σ.low,df:=σ.df}
 |_=>σ
theorem YF {i sz:Nat} {uO:Bool} {σ:AState}:Fi σ (FG i sz uO σ):=by
 unfold FG
 split
 ·rename_i s h
  exact XN h
 ·exact Fi.refl σ
end Go.Abs
namespace Go.Abs
section ghost
variable {C:Ctx} {φ:Nat→Value} {σ:AState} {a:Act} {w:World}
theorem Kd {cs ds:List AV} {h:Value} {b o:Nat}:(AObj.cells cs).muts h b o→(AObj.cells ds).muts h b o:=by
 intro hm
 cases h with
 |pointer p=>cases p<;>exact hm
 |_=>exact hm
theorem FH {cs ds:List AV} {h:Value} {b:Nat}:(AObj.cells cs).block h b→(AObj.cells ds).block h b:=by
 intro hm
 cases h with
 |pointer p=>cases p<;>exact hm
 |_=>exact hm
theorem Ke {H:List AObj} {l:Nat} {cs ds:List AV} (hl:H[l]? =some (.cells cs)) {k:Nat} {x:AObj} (hx:(H.set l (.cells ds))[k]? =some x):(k=l∧x= .cells ds)∨(k≠l∧H[k]? =some x):=by
 by_cases e:k=l
 ·subst e
  have hlt:k<H.length:=(fk.1 hl).1
  rw[fm hlt] at hx
  cases hx;exact .inl ⟨rfl,rfl⟩
 ·rw[fo (fun h=>e h.symm)] at hx
  exact .inr ⟨e,hx⟩
theorem recell_env {l:Nat} {cs ds:List AV} (hl:σ.heap[l]? =some (.cells cs)):C.env φ (σ.heap.set l (.cells ds)) w=C.env φ σ.heap w:=by
 have hlt:l<σ.heap.length:=(fk.1 hl).1
 have MB: ∀b o,Ck φ (σ.heap.set l (.cells ds)) b o↔Ck φ σ.heap b o:=by
  intro b o
  constructor
  ·rintro ⟨k,x,hx,hm⟩
   rcases Ke hl hx with ⟨rfl,rfl⟩|⟨_,hx⟩
   ·exact ⟨k,_,hl,Kd hm⟩
   ·exact ⟨k,x,hx,hm⟩
  ·rintro ⟨k,x,hx,hm⟩
   by_cases e:k=l
   ·subst e
    rw[hl] at hx;cases hx
    exact ⟨k,_,fm hlt,Kd hm⟩
   ·exact ⟨k,x,by rw[fo (fun h=>e h.symm)];exact hx,hm⟩
 unfold Ctx.env
 congr 1
 ·funext b o
  exact propext (or_congr (MB b o) Iff.rfl)
 ·funext k
  by_cases e:k=l
  ·subst e;rw[fm hlt,hl];rfl
  ·rw[fo (fun h=>e h.symm)]
 ·exact fN
theorem qq.recell (S:qq C φ σ a w) {l:Nat} {cs ds:List AV} (hl:σ.heap[l]? =some (.cells cs)) (h: ∀b c t,φ l= .pointer (some ⟨b,0,none⟩)→w.heap[b]? =some (.cells c t (0,0))→m7 (C.env φ σ.heap w) cs c.toList→m7 (C.env φ σ.heap w) ds c.toList):
 qq C φ {σ with heap:=σ.heap.set l (.cells ds)} a w:=by
 have hlt:l<σ.heap.length:=(fk.1 hl).1
 have henv:C.env φ (σ.heap.set l (.cells ds)) w=C.env φ σ.heap w:=recell_env hl
 have At:uG C φ (σ.heap.set l (.cells ds)) w σ.df a.defers:=S.defers.step' (fun xs vs _ r=>by rw[henv];exact r) (fun _ _ _=>rfl) (fun k x b hx hb=>by
  rcases Ke hl hx with ⟨rfl,rfl⟩|⟨_,hx⟩
  ·exact .inl ⟨k,_,hl,FH hb⟩
  ·exact .inl ⟨k,x,hx,hb⟩)
 refine {slots:= ?_,defers:=At,objs:= ?_,apart:= ?_,vk:= ?_,size:=S.size,old:=S.old,qQ:=S.qQ,A9:= ?_,wG:=S.wG,rest:=S.rest,low:=⟨S.low.1,by show σ.low≤(σ.heap.set l (.cells ds)).length;rw[fN];exact S.low.2⟩,names:= ?_}
 ·show m7 (C.env φ (σ.heap.set l (.cells ds)) w) σ.slots a.tmps.toList
  rw[henv];exact S.slots
 ·intro k x hx
  show qV (C.env φ (σ.heap.set l (.cells ds)) w) x (φ k)
  rw[henv]
  rcases Ke hl hx with ⟨rfl,rfl⟩|⟨_,hx⟩
  ·obtain ⟨b,c,t,h1,h2,h3,h4⟩:=S.objs k _ hl
   exact ⟨b,c,t,h1,h2,h b c t h1 h2 h3,h4⟩
  ·exact S.objs k x hx
 ·intro k k' x x' b hx hx' hb hb'
  rcases Ke hl hx with ⟨e1,rfl⟩|⟨_,h2⟩<;>rcases Ke hl hx' with ⟨e2,rfl⟩|⟨_,h3⟩
  ·rw[e1,e2]
  ·rw[e1] at hb ⊢;exact S.apart _ _ _ _ b hl h3 (FH hb) hb'
  ·rw[e2] at hb' ⊢;exact S.apart _ _ _ _ b h2 hl hb (FH hb')
  ·exact S.apart _ _ _ _ b h2 h3 hb hb'
 ·intro k x b o hx hb
  rcases Ke hl hx with ⟨rfl,rfl⟩|⟨_,hx⟩
  ·exact S.vk _ _ b o hl (FH hb)
  ·exact S.vk _ _ b o hx hb
 ·intro k x b o hx hm hb
  rcases Ke hl hx with ⟨rfl,rfl⟩|⟨_,hx⟩
  ·exact S.A9 _ _ b o hl (Kd hm) hb
  ·exact S.A9 _ _ b o hx hm hb
 ·intro k hk
  have:=S.names k hk
  show (φ k=_∧(oR (σ.heap.set l (.cells ds))[k]? =_∨oR (σ.heap.set l (.cells ds))[k]? =none))∨((∃q,_∧ ∀k',oR (σ.heap.set l (.cells ds))[k]? =some k'→q<k')∧_)
  have e:oR (σ.heap.set l (.cells ds))[k]? =oR σ.heap[k]? :=by
   by_cases e:k=l
   ·subst e;rw[fm hlt,hl];rfl
   ·rw[fo (fun h=>e h.symm)]
  rw[e];exact this
theorem ghostCell {l off s sz:Nat} {cs:List AV} (hl:σ.heap[l]? =some (.cells cs)) (hc:cs[off]? =some (.nE true s [])):
 Fi σ {slots:=σ.slots,heap:=σ.heap.set l (.cells (cs.set off (.acc σ.heap.length 0)))++[.acc true sz []],low:=σ.low,df:=σ.df}:=by
 intro C φ a w S
 have hlt:l<σ.heap.length:=(fk.1 hl).1
 obtain ⟨b,c,t,hφ,hh,rl,h1⟩:=S.objs l _ hl
 obtain ⟨v,hv,base,cap,rfl,_,hcap,_⟩:=rl.get hc
 have hcap:cap=0:=hcap rfl
 subst hcap
 have S':=S.NW (uO:=true) (sz:=sz) (rows:=[]) (w':=w) (h':= .slice base 0 0) (fz _) (fun _ _=>rfl) (fun _=>rfl) ⟨rfl,rfl⟩ (by
  intro b hb
  cases base<;>simp [AObj.block] at hb) (fun E' _ _=>⟨base,0,rfl,fz _,fun _=>rfl,by simp,fun b _ h0=>absurd rfl h0⟩)
 refine ⟨(fun k=>if k=σ.heap.length then .slice base 0 0 else φ k),?_⟩
 have hl':(σ.heap++[AObj.acc true sz []])[l]? =some (.cells cs):=by rw[fD hlt];exact hl
 have S2:=S'.recell (l:=l) (cs:=cs) (ds:=cs.set off (.acc σ.heap.length 0)) hl' (by
  intro b2 c2 t2 h3 h4 r
  have e1:b2=b:=by
   have h3':(if l=σ.heap.length then Value.slice base 0 0 else φ l)= .pointer (some ⟨b2,0,none⟩):=h3
   rw[if_neg (by omega),hφ] at h3'
   simpa using h3'.symm
  subst e1
  rw[show w.heap[b2]? =some (.cells c t (0,0)) from hh] at h4
  simp only[ff,Obj.cells.injEq] at h4
  obtain ⟨rfl,_⟩:=h4
  have Uq:=m7.set (i:=off) (c:= .acc σ.heap.length 0) (v:= .slice base 0 0) r ⟨by simp [Ctx.env],⟨_,_,_,rfl⟩,fun k hk=>by
   simp only[Ctx.env,fC (fz _),Nat.sub_self,fQ,oR,ff] at hk
   exact ⟨by simp,fun _=>by simp [Ctx.env]⟩⟩
  have hsame:c.toList.set off (.slice base 0 0)=c.toList:=by
   obtain ⟨hlt2,he⟩:=fk.1 hv
   have he':c.toList[off]= .slice base 0 0:=he
   rw[←he',List.set_getElem_self]
  rw[hsame] at Uq
  exact Uq)
 have Uq:(σ.heap++[AObj.acc true sz []]).set l (.cells (cs.set off (.acc σ.heap.length 0)))=σ.heap.set l (.cells (cs.set off (.acc σ.heap.length 0)))++[.acc true sz []]:=by
  rw[List.set_append_left _ _ hlt]
 rw[Uq] at S2
 exact S2
def gCell (l off sz:Nat) (σ:AState):AState:=
 match σ.heap[l]? with
 |some (.cells cs)=>match cs[off]? with
  |some (.nE true _ [])=>{slots:=σ.slots,heap:=σ.heap.set l (.cells (cs.set off (.acc σ.heap.length 0)))++[.acc true sz []],low:=σ.low,df:=σ.df}
  |_=>σ
 |_=>σ
theorem gCell_ok {l off sz:Nat} {σ:AState}:Fi σ (gCell l off sz σ):=by
 unfold gCell
 split
 ·rename_i cs hl
  split
  ·rename_i s hc
   exact ghostCell hl hc
  ·exact Fi.refl σ
 ·exact Fi.refl σ
end ghost
structure Nrm where
 gs:List (Nat×Nat×Bool)
 gc:List (Nat×Nat×Nat)
 zs:List NZ
 zo:List ZO
 sel:Option Nat
 selm:Option (Nat×Nat)
def isLstS:Option AV→Bool
 |some (.nE _ _ _)=>true
 |_=>false
def selO:Option Nat→AState→Bool
 |none,_=>true
 |some i,σ=>isLstS σ.slots[i]?
def isMapS (k:Nat):Option AV→Bool
 |some (.map k')=>k'==k
 |_=>false
def selM:Option (Nat×Nat)→AState→Bool
 |none,_=>true
 |some (i,k),σ=>isMapS k σ.slots[i]?
def WC:List (Nat×Nat×Bool)→AState→AState
 |[],σ=>σ
 |(i,sz,b)::r,σ=>WC r (FG i sz b σ)
def Sk:List (Nat×Nat×Nat)→AState→AState
 |[],σ=>σ
 |(l,o,sz)::r,σ=>Sk r (gCell l o sz σ)
theorem Vu: ∀ {g:List (Nat×Nat×Bool)} {σ:AState},Fi σ (WC g σ)
 |[],σ=>Fi.refl σ
 |(_,_,_)::_,_=>YF.trans Vu
theorem Po: ∀ {g:List (Nat×Nat×Nat)} {σ:AState},Fi σ (Sk g σ)
 |[],σ=>Fi.refl σ
 |(_,_,_)::_,_=>gCell_ok.trans Po
noncomputable def nrmN (N:Nrm) (σ:AState):Option AState:=nrmZ N.zs N.zo (Sk N.gc (WC N.gs σ))
theorem nrmN_ok {N:Nrm} {σ σ':AState} (h:nrmN N σ=some σ'):Fi σ σ':=(Vu.trans Po).trans (nrmZ_ok h)
noncomputable def ot:List (List Nat×Nrm)→List Nat→AState→Option AState
 |[],_,σ=>some σ
 |(q,N)::t,p,σ=>if p=q then (bif selO N.sel σ&&selM N.selm σ then nrmN N σ else ot t p σ) else ot t p σ
theorem nH: ∀ (t:List (List Nat×Nrm)) (p:List Nat) (σ σ':AState),ot t p σ=some σ'→Fi σ σ'
 |[],_,σ,σ',h=>by simp only[ot,ff] at h;subst h;exact Fi.refl _
 |(q,N)::t,p,σ,σ',h=>by
  simp only[ot] at h
  split at h
  ·cases hs:(selO N.sel σ&&selM N.selm σ) with
   |true=>rw[hs] at h;exact nrmN_ok h
   |false=>rw[hs] at h;exact nH t p σ σ' h
  ·exact nH t p σ σ' h
def ixA (σ:AState) (sz:Nat) (x i:AV):Option wg:=
 match x,i with
 | .nE _ sz' rows,.int _ n=>if sz'=sz then (zj rows n).bind fun r=>some {val:= .pp r} else none
 | .acc l m,.int _ n=>match σ.heap[l]? with
   |some (.acc true sz' rows)=>if sz'=sz∧rows.length=m then (zj rows n).bind fun r=>some {val:= .pp r,rd:=[l]} else none
   |some (.acc false sz' rows)=>if sz'=sz∧rows.length=m then (zj rows n).bind fun _=>some {val:= .own l n.toNat m 0 sz,rd:=[l]} else none
   |_=>none
 |_,_=>none
def idxB (s:ByteArray) (n:Int):Option UInt8:=if 0≤n then s[n.toNat]? else none
def ixS (x i:AV):Option wg:=
 match x,i with
 | .str s,.int _ n=>(idxB s n).bind fun b=>some {val:= .int .u8 b.toNat}
 |_,_=>none
def ldA (P:Program) (σ:AState) (t:TypeId) (v:AV):Option wg:=
 match rX P t,v with
 |some (g,n),.ptr l off=>match σ.heap[l]? with
  |some (.cells cs)=>(qo g n (cs.drop off)).bind fun v=>ldV σ.heap l v
  |_=>none
 |some (g,n),.pp cs=>(qo g n cs).bind fun v=>some {val:=v}
 |some (g,n),.own l i m o sz=>match σ.heap[l]? with
  |some (.acc false sz' rows)=>if sz'=sz∧rows.length=m then rows[i]?.bind fun r=>(qo g n (r.drop o)).bind fun v=>some {val:=v,rd:=[l]} else none
  |_=>none
 |some (false,_),.raw v=>RA v
 |_,_=>none
def stA (P:Program) (σ:AState) (t:TypeId) (v:AV) (ys:Option (List AV)):Option wg:=
 match rX P t,v,ys with
 |some (_,n),.ptr l off,some ys=>match σ.heap[l]? with
  |some (.cells cs)=>if ys.length=n∧off+n≤cs.length then some {val:= .any,rd:=[l],up:=[(l,.cells (splice cs off ys))]} else none
  |_=>none
 |some (_,n),.own l i m o sz,some ys=>match σ.heap[l]? with
  |some (.acc false sz' rows)=>if sz'=sz∧rows.length=m then rows[i]?.bind fun r=>if ys.length=n∧o+n≤sz then some {val:= .any,rd:=[l],up:=[(l,.acc false sz (rows.set i (splice r o ys)))]} else none else none
  |_=>none
 |_,_,_=>none
def selI (n:Int) (f:Nat→Option wg):Nat→Nat→Option wg
 |0,_=>none
 |c+1,i=>bif n==(i:Int) then f i else selI n f c (i+1)
theorem selI_eq {n:Int} {f:Nat→Option wg}: ∀ (c i:Nat),selI n f c i=if (i:Int)≤n∧n<(i:Int)+c then f n.toNat else none
 |0,i=>by rw[if_neg (by omega)];rfl
 |c+1,i=>by
  rw[selI,selI_eq c (i+1)]
  cases h:n==(i:Int) with
  |true=>
   have:=beq_iff_eq.1 h
   subst this
   rw[cond_true,if_pos (by omega:(i:Int)≤(i:Int)∧(i:Int)<(i:Int)+((c+1:Nat):Int)),Int.toNat_natCast]
  |false=>
   have:=beq_eq_false_iff_ne.1 h
   rw[cond_false]
   by_cases h2:(i:Int)≤n∧n<(i:Int)+((c+1:Nat):Int)
   ·rw[if_pos h2,if_pos (by omega)]
   ·rw[if_neg h2,if_neg (by omega)]
def ixP (len sz:Nat) (x i:AV):Option wg:=
 match x,i with
 | .ptr l off,.int _ n=>if len≤8 then selI n (fun i=>some {val:= .ptr l (off+i*sz)}) len 0 else if 0≤n∧n<len then some {val:= .ptr l (off+n.toNat*sz)} else none
 | .pp cs,.int _ n=>if 0≤n∧n<len then (Rz sz n.toNat cs).bind fun ds=>some {val:= .pp ds} else none
 | .raw (.pointer (some ⟨b,o,none⟩)),.int _ n=>if 0≤n∧n<len then some {val:= .raw (.pointer (some ⟨b,o+n.toNat*sz,none⟩))} else none
 |_,_=>none
def Gd (P:Program) (σ:AState):Op→Option wg
 | .indexAddr t x i=>match q9 P t with
   |some (_,sz,_)=>ixA σ sz (σ.ev x) (σ.ev i)
   |none=>match Xu P t with
    |some (len,sz)=>ixP len sz (σ.ev x) (σ.ev i)
    |none=>none
 | .index t x i=>if vE P t=true then ixS (σ.ev x) (σ.ev i) else none
 | .binOp op t x y ty=>match op with
   | .eql=>nW P σ (.binOp .eql t x y ty)
   | .neq=>nW P σ (.binOp .neq t x y ty)
   |op=>(U8 op (σ.ev x) (σ.ev y)).bind fun v=>some {val:=v}
 | .load t x=>ldA P σ t (σ.ev x)
 | .store t x y=>stA P σ t (σ.ev x) (cellsOf (σ.ev y))
 |o=>nW P σ o
theorem Dt (H:List AObj): ∀cs:List AV,nbL 0 cs→NT H cs=some (cs,[])
 |[],_=>rfl
 |c::cs,h=>by
  have ih:=Dt H cs h.2
  cases c with
  |acc l n=>exact absurd h.1 (fT _)
  |_=>simp only[NT,ih]
theorem sv (P:Program) (σ:AState) (o:Op):nW P σ o=Gd P σ o:=by
 cases o with
 |indexAddr t x i=>
  simp only[Gd]
  cases ht:q9 P t with
  |none=>
   simp only[nW,ht]
   cases hr:Xu P t with
   |none=>rfl
   |some q=>
    obtain ⟨len,sz⟩:=q
    simp only
    unfold ixP
    split
    ·rename_i l off k n hx hi
     simp only[hx,hi]
     by_cases h8:len≤8
     ·rw[if_pos h8,selI_eq];simp
     ·rw[if_neg h8]
    ·rename_i cs k n hx hi
     simp only[hx,hi]
    ·rename_i b o k n hx hi
     simp only[hx,hi]
    ·rename_i h1 h2 h3
     split
     ·rename_i l off k n hx hi;exact absurd hi (h1 l off k n hx)
     ·rename_i cs k n hx hi;exact absurd hi (h2 cs k n hx)
     ·rename_i b o k n hx hi;exact absurd hi (h3 b o k n hx)
     ·rfl
  |some q=>
   obtain ⟨e,sz,b⟩:=q
   simp only[nW,ht]
   cases hx:σ.ev x<;>cases hi:σ.ev i<;>simp only[ixA]
   ·rename_i tt sz' rows k n
    by_cases h1:sz'=sz
    ·by_cases h2:0≤n
     ·simp only[h1,h2,and_self,if_true,zj]
      cases rows[n.toNat]? <;>rfl
     ·simp only[h1,h2,and_false,if_false,if_true,zj];rfl
    ·simp only[h1,false_and,if_false]
   ·rename_i l m k n
    cases hl:σ.heap[l]? with
    |none=>rfl
    |some ob=>
     cases ob with
     |acc uO sz' rows=>
      cases uO with
      |false=>
       simp only
       by_cases h1:sz'=sz
       ·by_cases h3:rows.length=m
        ·by_cases h2:0≤n
         ·by_cases h4:n<m
          ·have h5:n.toNat<rows.length:=by omega
           simp only[h1,h2,h3,h4,and_self,if_true,zj,fj h5];rfl
          ·have h5:rows.length≤n.toNat:=by omega
           simp only[h1,h2,h3,h4,and_false,if_false,and_self,if_true,zj,fS h5];rfl
         ·simp only[h1,h2,h3,and_false,false_and,if_false,and_self,if_true,zj];rfl
        ·simp only[h3,and_false,false_and,if_false]
       ·simp only[h1,false_and,if_false]
      |true=>
       simp only
       by_cases h1:sz'=sz
       ·by_cases h3:rows.length=m
        ·by_cases h2:0≤n
         ·simp only[h1,h2,h3,and_self,if_true,zj]
          cases rows[n.toNat]? <;>rfl
         ·simp only[h1,h2,h3,and_false,false_and,if_false,and_self,if_true,zj];rfl
        ·simp only[h3,and_false,if_false]
       ·simp only[h1,false_and,if_false]
     |_=>rfl
 |index t x i=>
  simp only[Gd,nW]
  cases ht:vE P t
  ·cases hx:σ.ev x<;>cases hi:σ.ev i<;>simp
  ·cases hx:σ.ev x<;>cases hi:σ.ev i<;>simp only[ixS,if_true]
   rename_i s k n
   by_cases h2:0≤n
   ·simp only[h2,if_true,idxB]
    cases s[n.toNat]? <;>rfl
   ·simp only[h2,if_false,idxB];rfl
 |binOp op t x y ty=>
  cases op with
  |eql=>rfl
  |neq=>rfl
  |_=>
   simp only[Gd,nW]
   generalize U8 _ (σ.ev x) (σ.ev y)=q
   cases q<;>rfl
 |load t x=>
  simp only[Gd,nW,ldA]
  cases ht:rX P t with
  |none=>rfl
  |some q=>
   obtain ⟨g,n⟩:=q
   cases hx:σ.ev x with
   |ptr l off=>
    cases hl:σ.heap[l]? with
    |none=>simp only[hl]
    |some ob=>
     cases ob with
     |cells cs=>
      simp only[hl]
      cases qo g n (cs.drop off)<;>rfl
     |_=>simp only[hl]
   |pp cs=>
    simp only
    cases qo g n cs<;>rfl
   |own l i m o sz=>
    cases hl:σ.heap[l]? with
    |none=>simp only[hl]
    |some ob=>
     cases ob with
     |acc uO sz' rows=>
      cases uO with
      |true=>simp only[hl]
      |false=>
       simp only[hl]
       split
       ·cases rows[i]? with
        |none=>rfl
        |some r=>
         simp only[fG]
         cases qo g n (r.drop o)<;>rfl
       ·rfl
     |_=>simp only[hl]
   |raw v=>cases g<;>rfl
   |_=>rfl
 |store t x y=>
  simp only[Gd,nW,stA]
  cases ht:rX P t with
  |none=>rfl
  |some q=>
   obtain ⟨g,n⟩:=q
   cases hx:σ.ev x with
   |ptr l off=>
    cases cellsOf (σ.ev y) with
    |none=>rfl
    |some ys=>
     cases hl:σ.heap[l]? with
     |none=>simp only[hl]
     |some ob=>cases ob<;>simp only[hl]
   |own l i m o sz=>
    cases cellsOf (σ.ev y) with
    |none=>rfl
    |some ys=>
     cases hl:σ.heap[l]? with
     |none=>simp only[hl]
     |some ob=>
      cases ob with
      |acc uO sz' rows=>
       cases uO with
       |true=>simp only[hl]
       |false=>
        simp only[hl]
        split
        ·cases rows[i]? <;>rfl
        ·rfl
      |_=>simp only[hl]
   |_=>rfl
 |_=>rfl
end Go.Abs
namespace Go.Abs
section freeze
variable {C:Ctx} {φ:Nat→Value} {σ:AState} {a:Act} {w:World}
def rp1 (l:Nat) (cs:List AV):AV→AV
 | .ptr k off=>if k=l then .pp (cs.drop off) else .ptr k off
 |x=>x
def Z5 (l:Nat) (cs:List AV):AV→AV
 | .ptr k off=>if k=l then .pp (cs.drop off) else .ptr k off
 | .func fn f c=> .func fn (f.map (rp1 l cs)) (c.map (rp1 l cs))
 |x=>x
def rpO (l:Nat) (cs:List AV):AObj→AObj
 | .cells ds=> .cells (ds.map (Z5 l cs))
 |x=>x
noncomputable def YG (l:Nat) (σ:AState):Option AState:=
 match σ.heap[l]? with
 |some (.cells cs)=>pcond (nbL 0 cs∧σ.low≤l) (some {slots:=σ.slots.map (Z5 l cs),heap:=(σ.heap.map (rpO l cs)).set l .dead,low:=σ.low,df:=σ.df})
 |_=>none
theorem YH {l:Nat} {cs:List AV} {x:AObj} {h:Value} {b o:Nat}:(rpO l cs x).muts h b o→x.muts h b o:=by
 cases x with
 |cells ds=>exact Kd
 |_=>exact id
theorem Ju {l:Nat} {cs:List AV} {x:AObj} {h:Value} {b:Nat}:(rpO l cs x).block h b→x.block h b:=by
 cases x with
 |cells ds=>exact FH
 |_=>exact id
theorem rpO_len {l:Nat} {cs:List AV} {x:AObj}:oR (some (rpO l cs x))=oR (some x):=by
 cases x<;>rfl
theorem fz_get {H:List AObj} {l k:Nat} {cs:List AV} {y:AObj} (h:((H.map (rpO l cs)).set l .dead)[k]? =some y):(k=l∧y= .dead)∨(k≠l∧ ∃x,H[k]? =some x∧y=rpO l cs x):=by
 by_cases e:k=l
 ·subst e
  by_cases hk:k<H.length
  ·rw[fm (by simpa using hk)] at h;cases h;exact .inl ⟨rfl,rfl⟩
  ·rw[fS (by simp;omega)] at h;cases h
 ·rw[fo (fun h=>e h.symm),fL] at h
  cases hx:H[k]? with
  |none=>rw[hx] at h;cases h
  |some x=>rw[hx] at h;cases h;exact .inr ⟨e,x,rfl,rfl⟩
theorem fzOne_ok {l:Nat} {σ σ':AState} (h:YG l σ=some σ'):Fi σ σ':=by
 unfold YG at h
 split at h
 case h_2=>cases h
 rename_i cs hl
 rw[pZ] at h
 obtain ⟨⟨hnb,DD⟩,h⟩:=h
 cases h
 intro C φ a w S
 refine ⟨φ,?_⟩
 have hlt:l<σ.heap.length:=(fk.1 hl).1
 obtain ⟨b0,c0,t0,hφ,hh,rl,hone⟩:=S.objs l _ hl
 let H':List AObj:=(σ.heap.map (rpO l cs)).set l .dead
 have hlen:H'.length=σ.heap.length:=by simp [H']
 have ql: ∀ (k:Nat) (y:AObj),H'[k]? =some y→(k=l∧y= .dead)∨(k≠l∧ ∃x,σ.heap[k]? =some x∧y=rpO l cs x):=fun k y hy=>fz_get hy
 have B6: ∀b o,Ck φ H' b o→Ck φ σ.heap b o:=by
  rintro b o ⟨k,y,hy,hm⟩
  rcases ql k y hy with ⟨_,rfl⟩|⟨_,x,hx,rfl⟩
  ·simp [AObj.muts] at hm
  ·exact ⟨k,x,hx,YH hm⟩
 have Qf: ∀k:Nat,oR H'[k]? =oR σ.heap[k]? :=by
  intro k
  by_cases e:k=l
  ·subst e
   simp only[H']
   rw[fm (by simpa using hlt),hl];rfl
  ·simp only[H']
   rw[fo (fun h=>e h.symm),fL]
   cases σ.heap[k]? with
   |none=>rfl
   |some x=>exact rpO_len
 have le:(C.env φ σ.heap w).Le σ.heap.length (C.env φ H' w):=
  Ctx.zP (by rw[hlen];exact fz _) (fun k _=>⟨rfl,Qf k⟩) (fun b o u hm hc=>⟨fun h=>hm (h.imp (B6 b o) id),hc⟩)
 have hfree: ∀o,¬ (Ck φ H' b0 o∨C.A b0 o):=by
  rintro o (⟨k,y,hy,hm⟩|hA)
  ·rcases ql k y hy with ⟨_,rfl⟩|⟨hne,x,hx,rfl⟩
   ·simp [AObj.muts] at hm
   ·exact hne (S.apart k l x _ b0 hx hl (Ju (AObj.qX hm)) (by rw[hφ];rfl))
  ·exact S.vk l _ b0 o hl (by rw[hφ];rfl) hA
 have rl':m7 (C.env φ H' w) cs c0.toList:=m7.mono le _ _ (sE (fW _) _ hnb) rl
 have hpp: ∀ (off:Nat) (v:Value),rB (C.env φ σ.heap w) (.ptr l off) v→rB (C.env φ H' w) (.pp (cs.drop off)) v:=by
  rintro off v ⟨_,b,hb,rfl⟩
  have e:b0=b:=by
   have hb':φ l= .pointer (some ⟨b,0,none⟩):=hb
   rw[hφ] at hb';simpa using hb'
  subst e
  refine ⟨b0,off,rfl,?_⟩
  have hd:=rl'.drop off
  have h1: ∀u∈c0.toList.drop off,u.oneCell'=true:=fun u hu=>hone u (List.mem_of_mem_drop hu)
  have hl2:=hd.length
  exact Gb (E:=C.env φ H' w) (c:=c0) (t:=t0) (fr:=(0,0)) hh _ off (fun o _ _=>hfree o) (by rw[gk (by omega)];exact hd) (by rw[gk (by omega)];exact h1)
 have h1: ∀ (x:AV) (v:Value),rB (C.env φ σ.heap w) x v→rB (C.env φ H' w) (rp1 l cs x) v:=by
  intro x v r
  cases x with
  |ptr k off=>
   simp only[rp1]
   split
   ·rename_i e;subst e;exact hpp off v r
   ·exact rB.mono le _ _ (rB.nb _ _ r) r
  |_=>exact rB.mono le _ _ (rB.nb _ _ r) r
 have hL1: ∀ (xs:List AV) (vs:List Value),m7 (C.env φ σ.heap w) xs vs→m7 (C.env φ H' w) (xs.map (rp1 l cs)) vs:=by
  intro xs
  induction xs with
  |nil=>intro vs r;exact r
  |cons x xs ih=>rintro _ ⟨u,us,rfl,r1,r2⟩;exact ⟨u,us,rfl,h1 x u r1,ih us r2⟩
 have hV: ∀ (x:AV) (v:Value),rB (C.env φ σ.heap w) x v→rB (C.env φ H' w) (Z5 l cs x) v:=by
  intro x v r
  cases x with
  |ptr k off=>
   simp only[Z5]
   split
   ·rename_i e;subst e;exact hpp off v r
   ·exact rB.mono le _ _ (rB.nb _ _ r) r
  |func fn f c=>
   obtain ⟨f',c',hv,r1,r2⟩:=r
   exact ⟨f',c',hv,hL1 _ _ r1,hL1 _ _ r2⟩
  |_=>exact rB.mono le _ _ (rB.nb _ _ r) r
 have hLV: ∀ (xs:List AV) (vs:List Value),m7 (C.env φ σ.heap w) xs vs→m7 (C.env φ H' w) (xs.map (Z5 l cs)) vs:=by
  intro xs
  induction xs with
  |nil=>intro vs r;exact r
  |cons x xs ih=>rintro _ ⟨u,us,rfl,r1,r2⟩;exact ⟨u,us,rfl,hV x u r1,ih us r2⟩
 have At:uG C φ H' w σ.df a.defers:=S.defers.step le (fun _ _ _=>rfl) (fun k y b hy hb=>by
  rcases ql k y hy with ⟨_,rfl⟩|⟨_,x,hx,rfl⟩
  ·simp [AObj.block] at hb
  ·exact .inl ⟨k,x,hx,Ju hb⟩)
 refine {slots:=hLV _ _ S.slots,defers:=At,objs:= ?_,apart:= ?_,vk:= ?_,size:=S.size,old:=S.old,qQ:=S.qQ,A9:= ?_,wG:=S.wG,rest:=S.rest,low:=⟨S.low.1,by show σ.low≤H'.length;rw[hlen];exact S.low.2⟩,names:= ?_}
 ·intro k y hy
  rcases ql k y hy with ⟨_,rfl⟩|⟨_,x,hx,rfl⟩
  ·exact trivial
  ·have r:=S.objs k x hx
   cases x with
   |cells ds=>
    obtain ⟨b,c,t,h1,h2,h3,h4⟩:=r
    exact ⟨b,c,t,h1,h2,hLV _ _ h3,h4⟩
   |_=>exact qV.mono r le (fun _ _=>rfl)
 ·intro k k' y y' b hy hy' hb hb'
  rcases ql k y hy with ⟨_,rfl⟩|⟨_,x,hx,rfl⟩
  ·simp [AObj.block] at hb
  ·rcases ql k' y' hy' with ⟨_,rfl⟩|⟨_,x',hx',rfl⟩
   ·simp [AObj.block] at hb'
   ·exact S.apart k k' x x' b hx hx' (Ju hb) (Ju hb')
 ·intro k y b o hy hb
  rcases ql k y hy with ⟨_,rfl⟩|⟨_,x,hx,rfl⟩
  ·simp [AObj.block] at hb
  ·exact S.vk k x b o hx (Ju hb)
 ·intro k y b o hy hm hb
  rcases ql k y hy with ⟨_,rfl⟩|⟨_,x,hx,rfl⟩
  ·simp [AObj.muts] at hm
  ·exact S.A9 k x b o hx (YH hm) hb
 ·intro k hk
  have:=S.names k hk
  show (φ k=_∧(oR H'[k]? =_∨oR H'[k]? =none))∨((∃q,_∧ ∀k',oR H'[k]? =some k'→q<k')∧_)
  rw[Qf k];exact this
theorem Sl {sz:Nat} {rows:List (List AV)} {h:Value} {b o:Nat}:(AObj.acc true sz rows).muts h b o→(AObj.acc false sz rows).muts h b o:=by
 intro hm
 cases h with
 |slice base n cap=>
  cases base with
  |none=>exact hm
  |some a=>exact ⟨hm.1,fun h=>by cases h⟩
 |_=>exact hm
theorem qq.uO {C:Ctx} {φ:Nat→Value} {a:Act} {w:World} {σ:AState} {l sz:Nat} {rows:List (List AV)} (hl:σ.heap[l]? =some (.acc false sz rows)) (S:qq C φ σ a w):qq C φ {σ with heap:=σ.heap.set l (.acc true sz rows)} a w:=by
 have hlt:l<σ.heap.length:=(fk.1 hl).1
 let H':List AObj:=σ.heap.set l (.acc true sz rows)
 have hlen:H'.length=σ.heap.length:=by simp [H']
 have ql: ∀ (k:Nat) (y:AObj),H'[k]? =some y→(k=l∧y= .acc true sz rows)∨σ.heap[k]? =some y:=by
  intro k y hy
  by_cases e:k=l
  ·subst e
   simp only[H'] at hy
   rw[fm hlt] at hy;cases hy;exact .inl ⟨rfl,rfl⟩
  ·simp only[H'] at hy
   rw[fo (fun h=>e h.symm)] at hy;exact .inr hy
 have B6: ∀b o,Ck φ H' b o→Ck φ σ.heap b o:=by
  rintro b o ⟨k,y,hy,hm⟩
  rcases ql k y hy with ⟨rfl,rfl⟩|hx
  ·exact ⟨k,_,hl,Sl hm⟩
  ·exact ⟨k,y,hx,hm⟩
 have Qf: ∀k:Nat,oR H'[k]? =oR σ.heap[k]? :=by
  intro k
  by_cases e:k=l
  ·subst e
   simp only[H']
   rw[fm hlt,hl];rfl
  ·simp only[H']
   rw[fo (fun h=>e h.symm)]
 have le:(C.env φ σ.heap w).Le σ.heap.length (C.env φ H' w):=
  Ctx.zP (by rw[hlen];exact fz _) (fun k _=>⟨rfl,Qf k⟩) (fun b o u hm hc=>⟨fun h=>hm (h.imp (B6 b o) id),hc⟩)
 have By: ∀ {h:Value} {b:Nat},(AObj.acc true sz rows).block h b→(AObj.acc false sz rows).block h b:=by
  intro h b hb
  cases h with
  |slice base n cap=>cases base<;>exact hb
  |_=>exact hb
 have hblk2: ∀ (k:Nat) (y:AObj) (b:Nat),H'[k]? =some y→y.block (φ k) b→ ∃x,σ.heap[k]? =some x∧x.block (φ k) b:=by
  intro k y b hy hb
  rcases ql k y hy with ⟨rfl,rfl⟩|hx
  ·exact ⟨_,hl,By hb⟩
  ·exact ⟨y,hx,hb⟩
 have At:uG C φ H' w σ.df a.defers:=S.defers.step le (fun _ _ _=>rfl) (fun k y b hy hb=>by
  obtain ⟨x,hx,hb'⟩:=hblk2 k y b hy hb
  exact .inl ⟨k,x,hx,hb'⟩)
 refine {slots:=m7.mono le _ _ (m7.nb _ _ S.slots) S.slots,defers:=At,objs:= ?_,apart:= ?_,vk:= ?_,size:=S.size,old:=S.old,qQ:=S.qQ,A9:= ?_,wG:=S.wG,rest:=S.rest,low:=⟨S.low.1,by show σ.low≤H'.length;rw[hlen];exact S.low.2⟩,names:= ?_}
 ·intro k y hy
  rcases ql k y hy with ⟨rfl,rfl⟩|hx
  ·have r:qV (C.env φ H' w) (.acc false sz rows) (φ k):=qV.mono (S.objs k _ hl) le (fun _ _=>rfl)
   exact r
  ·exact qV.mono (S.objs k y hx) le (fun _ _=>rfl)
 ·intro k k' y y' b hy hy' hb hb'
  obtain ⟨x,hx,Xo⟩:=hblk2 k y b hy hb
  obtain ⟨x',hx',hb2⟩:=hblk2 k' y' b hy' hb'
  exact S.apart k k' x x' b hx hx' Xo hb2
 ·intro k y b o hy hb
  obtain ⟨x,hx,Xo⟩:=hblk2 k y b hy hb
  exact S.vk k x b o hx Xo
 ·intro k y b o hy hm hb
  rcases ql k y hy with ⟨rfl,rfl⟩|hx
  ·exact S.A9 k _ b o hl (Sl hm) hb
  ·exact S.A9 k y b o hx hm hb
 ·intro k hk
  have:=S.names k hk
  show (φ k=_∧(oR H'[k]? =_∨oR H'[k]? =none))∨((∃q,_∧ ∀k',oR H'[k]? =some k'→q<k')∧_)
  rw[Qf k];exact this
theorem imp_imm {σ:AState} {l sz:Nat} {rows:List (List AV)} (hl:σ.heap[l]? =some (.acc false sz rows)):Fi σ {σ with heap:=σ.heap.set l (.acc true sz rows)}:=fun _ φ _ _ S=>⟨φ,qq.uO hl S⟩
def Ut (σ:AState) (l:Nat):Option AObj→AState
 |some (.acc false sz rows)=>{σ with heap:=σ.heap.set l (.acc true sz rows)}
 |_=>σ
theorem immO_ok {σ:AState} {l:Nat}:Fi σ (Ut σ l σ.heap[l]?):=by
 unfold Ut
 split
 ·rename_i h;exact imp_imm h
 ·exact Fi.refl _
def QT (σ:AState):Option AV→AState
 |some (.acc l _)=>Ut σ l σ.heap[l]?
 |_=>σ
theorem immV_ok {σ:AState} {x:Option AV}:Fi σ (QT σ x):=by
 unfold QT
 split
 ·exact immO_ok
 ·exact Fi.refl _
theorem immV_low {σ:AState} {x:Option AV}:(QT σ x).low=σ.low:=by
 unfold QT Ut
 split
 ·split<;>rfl
 ·rfl
theorem immV_df {σ:AState} {x:Option AV}:(QT σ x).df=σ.df:=by
 unfold QT Ut
 split
 ·split<;>rfl
 ·rfl
theorem immV_f {σ:AState}:(∀l n,QT σ (some (.acc l n))=Ut σ l σ.heap[l]?):=fun _ _=>rfl
theorem immO_f {σ:AState} {l:Nat}:(∀sz rows,Ut σ l (some (.acc false sz rows))={σ with heap:=σ.heap.set l (.acc true sz rows)})∧(∀sz rows,Ut σ l (some (.acc true sz rows))=σ):=⟨fun _ _=>rfl,fun _ _=>rfl⟩
end freeze
noncomputable def fzX (l:Nat) (σ:AState):Option AObj→Option AState
 |some (.acc _ _ _)=>some (Ut σ l σ.heap[l]?)
 |_=>YG l σ
theorem fzX_ok {l:Nat} {σ σ':AState} {x:Option AObj} (h:fzX l σ x=some σ'):Fi σ σ':=by
 unfold fzX at h
 split at h
 ·simp only[ff] at h;subst h;exact immO_ok
 ·exact fzOne_ok h
noncomputable def Vv:List Nat→AState→Option AState
 |[],σ=>some σ
 |l::ls,σ=>(fzX l σ σ.heap[l]?).bind (Vv ls)
theorem fzX_f {l:Nat} {σ:AState}:(∀i s r,fzX l σ (some (.acc i s r))=some (Ut σ l σ.heap[l]?))∧(∀cs,fzX l σ (some (.cells cs))=YG l σ):=⟨fun _ _ _=>rfl,fun _=>rfl⟩
theorem YI: ∀ {ls:List Nat} {σ σ':AState},Vv ls σ=some σ'→Fi σ σ'
 |[],σ,σ',h=>by simp only[Vv,ff] at h;subst h;exact Fi.refl _
 |l::ls,σ,σ',h=>by
  simp only[Vv,fc] at h
  obtain ⟨σ1,h1,h2⟩:=h
  exact (fzX_ok h1).trans (YI h2)
noncomputable def ou:List (List Nat×List Nat)→List Nat→AState→Option AState
 |[],_,σ=>some σ
 |(q,ls)::t,p,σ=>if p=q then Vv ls σ else ou t p σ
theorem nI: ∀ (t:List (List Nat×List Nat)) (p:List Nat) (σ σ':AState),ou t p σ=some σ'→Fi σ σ'
 |[],_,σ,σ',h=>by simp only[ou,ff] at h;subst h;exact Fi.refl _
 |(q,ls)::t,p,σ,σ',h=>by
  simp only[ou] at h
  split at h
  ·exact YI h
  ·exact nI t p σ σ' h
section cels
def cI (k:IntKind):Mn Int where
 enc n:=[.int k n]
 dec _ cs:=YB k cs
 ok H n cs x h:=by
  unfold YB at h
  split at h
  ·exact sW.cons (Ds h) sW.nil
  ·cases h
 nb _ _:=⟨trivial,trivial⟩
def cB:Mn Bool where
 enc b:=[.bool b]
 dec _ cs:=dB1 cs
 ok H n cs x h:=by
  unfold dB1 at h
  split at h
  ·exact sW.cons (YA h) sW.nil
  ·cases h
 nb _ _:=⟨trivial,trivial⟩
def cS:Mn Str where
 enc s:=[.str (sb s)]
 dec _ cs:=dS1 cs
 ok H n cs x h:=by
  unfold dS1 at h
  split at h
  ·exact sW.cons (Sh h) sW.nil
  ·cases h
 nb _ _:=⟨trivial,trivial⟩
variable {α β γ:Type}
def dL1 (r:Row α) (H:List AObj):List AV→Option (List α)
 |[c]=>dL r H c
 |_=>none
def cL (r:Row α):Mn (List α) where
 enc xs:=[.nE false r.sz (mp r.enc xs)]
 dec:=dL1 r
 ok H n cs x h:=by
  unfold dL1 at h
  split at h
  ·exact sW.cons (Jt h) sW.nil
  ·cases h
 nb n xs:=⟨wN xs,trivial⟩
def dF1 (f:FuncId):List AV→Option Unit
 |[c]=>dF f c
 |_=>none
def cF (f:FuncId):Mn Unit where
 enc _:=[.func (.func f) [] []]
 dec _ cs:=dF1 f cs
 ok H n cs x h:=by
  unfold dF1 at h
  split at h
  ·unfold dF at h
   split at h
   ·split at h
    ·rename_i e;subst e;exact sW.cons (Vk.sub (Sub.refl _) ⟨trivial,trivial⟩) sW.nil
    ·cases h
   ·cases h
  ·cases h
 nb _ _:=⟨⟨trivial,trivial⟩,trivial⟩
theorem cI_f {k:IntKind}:(∀n,(cI k).enc n=[.int k n])∧ ∀H cs,(cI k).dec H cs=YB k cs:=⟨fun _=>rfl,fun _ _=>rfl⟩
theorem cB_f:(∀n,cB.enc n=[.bool n])∧ ∀H cs,cB.dec H cs=dB1 cs:=⟨fun _=>rfl,fun _ _=>rfl⟩
theorem cS_f:(∀n,cS.enc n=[.str (sb n)])∧ ∀H cs,cS.dec H cs=dS1 cs:=⟨fun _=>rfl,fun _ _=>rfl⟩
theorem cL_f {r:Row α}:(∀n,(cL r).enc n=[.nE false r.sz (mp r.enc n)])∧ ∀H cs,(cL r).dec H cs=dL1 r H cs:=⟨fun _=>rfl,fun _ _=>rfl⟩
theorem cF_f {f:FuncId}:(∀n,(cF f).enc n=[.func (.func f) [] []])∧ ∀H cs,(cF f).dec H cs=dF1 f cs:=⟨fun _=>rfl,fun _ _=>rfl⟩
def dP (c:Mn α):AV→Option α
 | .pp cs=>c.dec [] cs
 |_=>none
theorem dP_ok {c:Mn α} {v:AV} {x:α} (h:dP c v=some x):Sub v (.pp (c.enc x)):=by
 unfold dP at h
 split at h
 ·exact Sub.pp (c.ok [] 0 _ _ h).toSub.subM
 ·cases h
def tyP (c:Mn α):Ty α where
 enc x:= .pp (c.enc x)
 dec _:=dP c
 ok H n v x h:=Co.sub (dP_ok h) (c.nb n x)
 nb n x:=c.nb n x
theorem tyP_enc {c:Mn α} {x:α}:(tyP c).enc x= .pp (c.enc x):=rfl
theorem tyP_dec {c:Mn α} {H:List AObj} {v:AV}:(tyP c).dec H v=dP c v:=rfl
def dK1 (f:FuncId) (a:Ty α):AV→Option α
 | .func (.func g) [] [x]=>if g=f then a.dec [] x else none
 |_=>none
def dK2 (f:FuncId) (a:Ty α) (b:Ty β):AV→Option (α×β)
 | .func (.func g) [] [x,y]=>if g=f then (a.dec [] x).bind fun u=>(b.dec [] y).bind fun v=>some (u,v) else none
 |_=>none
def dK3 (f:FuncId) (a:Ty α) (b:Ty β) (c:Ty γ):AV→Option (α×β×γ)
 | .func (.func g) [] [x,y,z]=>if g=f then (a.dec [] x).bind fun u=>(b.dec [] y).bind fun v=>(c.dec [] z).bind fun w=>some (u,v,w) else none
 |_=>none
def YJ (f:FuncId) (a:Ty α):Ty α where
 enc x:= .func (.func f) [] [a.enc x]
 dec _:=dK1 f a
 ok H n v x h:=by
  unfold dK1 at h
  split at h
  ·split at h
   ·rename_i e;subst e
    exact Co.sub (Sub.func tQ.nil (tQ.cons (a.ok [] 0 _ _ h).toSub tQ.nil)) ⟨trivial,a.nb n x,trivial⟩
   ·cases h
  ·cases h
 nb n x:=⟨trivial,a.nb n x,trivial⟩
def tyK2 (f:FuncId) (a:Ty α) (b:Ty β):Ty (α×β) where
 enc x:= .func (.func f) [] [a.enc x.1,b.enc x.2]
 dec _:=dK2 f a b
 ok H n v x h:=by
  unfold dK2 at h
  split at h
  ·split at h
   ·rename_i e;subst e
    simp only[fc,ff] at h
    obtain ⟨u,hu,w,hw,rfl⟩:=h
    exact Co.sub (Sub.func tQ.nil (tQ.cons (a.ok [] 0 _ _ hu).toSub (tQ.cons (b.ok [] 0 _ _ hw).toSub tQ.nil))) ⟨trivial,a.nb n u,b.nb n w,trivial⟩
   ·cases h
  ·cases h
 nb n x:=⟨trivial,a.nb n _,b.nb n _,trivial⟩
def tyK3 (f:FuncId) (a:Ty α) (b:Ty β) (c:Ty γ):Ty (α×β×γ) where
 enc x:= .func (.func f) [] [a.enc x.1,b.enc x.2.1,c.enc x.2.2]
 dec _:=dK3 f a b c
 ok H n v x h:=by
  unfold dK3 at h
  split at h
  ·split at h
   ·rename_i e;subst e
    simp only[fc,ff] at h
    obtain ⟨u,hu,w,hw,p,hp,rfl⟩:=h
    exact Co.sub (Sub.func tQ.nil (tQ.cons (a.ok [] 0 _ _ hu).toSub (tQ.cons (b.ok [] 0 _ _ hw).toSub (tQ.cons (c.ok [] 0 _ _ hp).toSub tQ.nil)))) ⟨trivial,a.nb n u,b.nb n w,c.nb n p,trivial⟩
   ·cases h
  ·cases h
 nb n x:=⟨trivial,a.nb n _,b.nb n _,c.nb n _,trivial⟩
theorem tyK1_f {f:FuncId} {a:Ty α}:(∀x,(YJ f a).enc x= .func (.func f) [] [a.enc x])∧ ∀H v,(YJ f a).dec H v=dK1 f a v:=⟨fun _=>rfl,fun _ _=>rfl⟩
theorem tyK2_f {f:FuncId} {a:Ty α} {b:Ty β}:(∀x,(tyK2 f a b).enc x= .func (.func f) [] [a.enc x.1,b.enc x.2])∧ ∀H v,(tyK2 f a b).dec H v=dK2 f a b v:=⟨fun _=>rfl,fun _ _=>rfl⟩
theorem tyK3_f {f:FuncId} {a:Ty α} {b:Ty β} {c:Ty γ}:(∀x,(tyK3 f a b c).enc x= .func (.func f) [] [a.enc x.1,b.enc x.2.1,c.enc x.2.2])∧ ∀H v,(tyK3 f a b c).dec H v=dK3 f a b c v:=⟨fun _=>rfl,fun _ _=>rfl⟩
end cels
end Go.Abs
namespace Go.Abs
section objs
variable {α β γ:Type}
structure OTy (α:Type) where
 enc:α→AObj
 dec:List AObj→AObj→Option α
 ok: ∀H n x y,dec H x=some y→GW H n x (enc y)
 ren: ∀τ y,(enc y).ren τ=enc y
 nb: ∀n y,objNb n (enc y)
def daT (uO:Bool) (r:Row α):AObj→Option (List α)
 | .acc imm' sz rows=>if imm'=uO∧sz=r.sz then mapO r.dec rows else none
 |_=>none
def NQ (uO:Bool) (r:Row α):OTy (List α) where
 enc xs:= .acc uO r.sz (mp r.enc xs)
 dec _:=daT uO r
 ok H n x y h:=by
  unfold daT at h
  split at h
  ·split at h
   ·rename_i hc
    obtain ⟨rfl,rfl⟩:=hc
    exact .inr (.inr (.inr (.inl ⟨_,_,_,_,rfl,rfl,(EX h).2,wN y⟩)))
   ·cases h
  ·cases h
 ren τ y:=by simp only[AObj.ren];rw[vG τ _ (wN y)]
 nb n y:=wN y
def dcT (c:Mn α) (H:List AObj):AObj→Option α
 | .cells cs=>c.dec H cs
 |_=>none
def ID (c:Mn α):OTy α where
 enc x:= .cells (c.enc x)
 dec:=dcT c
 ok H n x y h:=by
  unfold dcT at h
  split at h
  ·exact .inr (.inr (.inl ⟨_,_,rfl,rfl,(c.ok H n _ _ h).toCoL⟩))
  ·cases h
 ren τ y:=by simp only[AObj.ren];rw[tR τ _ (c.nb 0 y)]
 nb n y:=c.nb n y
theorem oaT_f {uO:Bool} {r:Row α}:(∀x,(NQ uO r).enc x= .acc uO r.sz (mp r.enc x))∧ ∀H x,(NQ uO r).dec H x=daT uO r x:=⟨fun _=>rfl,fun _ _=>rfl⟩
theorem ocT_f {c:Mn α}:(∀x,(ID c).enc x= .cells (c.enc x))∧ ∀H x,(ID c).dec H x=dcT c H x:=⟨fun _=>rfl,fun _ _=>rfl⟩
structure Jv (β:Type) where
 enc:β→List AObj
 dec:List AObj→List AObj→Option β
 ok: ∀H n xs b,dec H xs=some b→Ml H n xs (enc b)∧(enc b).length=xs.length
 ren: ∀τ b,∀y∈enc b,y.ren τ=y
 nb: ∀n b,∀y∈enc b,objNb n y
def Ba:Jv Unit where
 enc _:=[]
 dec _
  |[]=>some ()
  |_=>none
 ok H n xs b h:=by
  split at h
  ·exact ⟨Ml.nil,rfl⟩
  ·cases h
 ren _ _:=by simp
 nb _ _:=by simp
def dosC (o:OTy γ) (s:Jv β) (H:List AObj):List AObj→Option (γ×β)
 |x::xs=>(o.dec H x).bind fun y=>(s.dec H xs).bind fun b=>some (y,b)
 |[]=>none
def B9 (o:OTy γ) (s:Jv β):Jv (γ×β) where
 enc b:=o.enc b.1::s.enc b.2
 dec:=dosC o s
 ok H n xs b h:=by
  unfold dosC at h
  split at h
  ·simp only[fc,ff] at h
   obtain ⟨y,hy,b,hb,rfl⟩:=h
   obtain ⟨h1,h2⟩:=s.ok H n _ _ hb
   exact ⟨⟨o.ok H n _ _ hy,h1⟩,by simp [h2]⟩
  ·cases h
 ren τ b y hy:=by
  simp only[fH] at hy
  rcases hy with rfl|hy
  ·exact o.ren τ _
  ·exact s.ren τ _ y hy
 nb n b y hy:=by
  simp only[fH] at hy
  rcases hy with rfl|hy
  ·exact o.nb n _
  ·exact s.nb n _ y hy
theorem osN_f:(∀b,Ba.enc b=[])∧ ∀H,Ba.dec H []=some ():=⟨fun _=>rfl,fun _=>rfl⟩
theorem osC_f {o:OTy γ} {s:Jv β}:(∀b,(B9 o s).enc b=o.enc b.1::s.enc b.2)∧ ∀H xs,(B9 o s).dec H xs=dosC o s H xs:=⟨fun _=>rfl,fun _ _=>rfl⟩
structure CF (β α:Type) where
 enc:β→α→List AV
 dec:β→List AObj→List AV→Option α
 need:Nat
 ok: ∀b H n xs a,need≤n→dec b H xs=some a→zD H n xs (enc b a)
def Kf:CF β Unit where
 enc _ _:=[]
 dec _ _
  |[]=>some ()
  |_=>none
 need:=0
 ok b H n xs a _ h:=by
  split at h
  ·exact zD.nil
  ·cases h
def drsT (t:Ty γ) (s:CF β α) (b:β) (H:List AObj):List AV→Option (γ×α)
 |x::xs=>(t.dec H x).bind fun y=>(s.dec b H xs).bind fun a=>some (y,a)
 |[]=>none
def Jw (t:Ty γ) (s:CF β α):CF β (γ×α) where
 enc b a:=t.enc a.1::s.enc b a.2
 dec:=drsT t s
 need:=s.need
 ok b H n xs a hn h:=by
  unfold drsT at h
  split at h
  ·simp only[fc,ff] at h
   obtain ⟨y,hy,a,ha,rfl⟩:=h
   exact zD.cons (t.ok H n _ _ hy) (s.ok b H n _ _ hn ha)
  ·cases h
def drsA (k:Nat) (len:β→Nat) (s:CF β α) (b:β) (H:List AObj):List AV→Option α
 | .acc l m::xs=>if l=k∧m=len b then s.dec b H xs else none
 |_=>none
def rsA (k:Nat) (len:β→Nat) (s:CF β α):CF β α where
 enc b a:= .acc k (len b)::s.enc b a
 dec:=drsA k len s
 need:=max (k+1) s.need
 ok b H n xs a hn h:=by
  unfold drsA at h
  split at h
  ·split at h
   ·rename_i hc
    obtain ⟨rfl,rfl⟩:=hc
    exact zD.cons (Co.same (show _<n by omega)) (s.ok b H n _ _ (by omega) h)
   ·cases h
  ·cases h
theorem rsN_f:(∀ (b:β) a,Kf.enc b a=[])∧(∀ (b:β) H,Kf.dec b H []=some ())∧(Kf:CF β Unit).need=0:=⟨fun _ _=>rfl,fun _ _=>rfl,rfl⟩
theorem rsT_f {t:Ty γ} {s:CF β α}:(∀b a,(Jw t s).enc b a=t.enc a.1::s.enc b a.2)∧(∀b H xs,(Jw t s).dec b H xs=drsT t s b H xs)∧(Jw t s).need=s.need:=⟨fun _ _=>rfl,fun _ _ _=>rfl,rfl⟩
theorem rsA_f {k:Nat} {len:β→Nat} {s:CF β α}:(∀b a,(rsA k len s).enc b a= .acc k (len b)::s.enc b a)∧(∀b H xs,(rsA k len s).dec b H xs=drsA k len s b H xs)∧(rsA k len s).need=max (k+1) s.need:=⟨fun _ _=>rfl,fun _ _ _=>rfl,rfl⟩
end objs
def uR:List AV→AV
 |[y]=>y
 |ys=> .tup ys
theorem Ml.take {H:List AObj} {n:Nat}: ∀ {xs ys:List AObj} (k:Nat),Ml H n (xs.take k) ys→Ml H n xs ys
 |_,[],_,_=>Ml.nil
 |[],_::_,k,h=>by cases k<;>exact h.elim
 |x::xs,y::ys,0,h=>h.elim
 |x::xs,y::ys,k+1,h=>⟨h.1,Ml.take k h.2⟩
section runG
variable {R:Type} {M:pO R}
def Pp (σ σ':AState):Prop:= ∀ (C:Ctx) (φ:Nat→Value) (tmps:Array Value) (w:World),qq C φ σ {tmps,defers:=[]} w→ ∃φ',qq C φ' σ' {tmps,defers:=[]} w
theorem Fi.e {σ σ':AState} (h:Fi σ σ'):Pp σ σ':=fun C φ tmps w S=>h C φ _ w S
theorem Pp.trans {σ σ' σ'':AState} (h:Pp σ σ') (h':Pp σ' σ''):Pp σ σ'':=fun C φ tmps w S=>
 let ⟨φ',S'⟩:=h C φ tmps w S
 h' C φ' tmps w S'
theorem Jx {P:Program} {rs:List ResultVar} {σ':AState} {xs ys:List AV} {H':List AObj} (hx:zE P σ' rs=some xs) (himp:Pp ⟨xs,σ'.heap,σ'.low,[]⟩ ⟨ys,H',σ'.low,[]⟩):R7 P rs (fun o DE=>o= .ret (uR ys)∧DE=H') none σ':=by
 have key: ∃x,Gs P σ' rs=some x∧ ∃r DE,IB σ' x r DE∧((wo.ret r)= .ret (uR ys)∧DE=H'):=by
  have exp: ∀ (x:AV),(∀C φ a w,qq C φ σ' a w→ ∀v,rB (C.env φ σ'.heap w) x v→ ∃vs:List Value,m7 (C.env φ σ'.heap w) xs vs∧ ∀E,m7 E ys vs→rB E (uR ys) v)→IB σ' x (uR ys) H':=by
   intro x GP C φ a w S v hv
   obtain ⟨vs,hvs,Lr⟩:=GP C φ a w S v hv
   have S0:qq C φ ⟨xs,σ'.heap,σ'.low,[]⟩ {tmps:=vs.toArray,defers:=[]} w:={S with slots:=by simpa using hvs,defers:=uG.nil}
   obtain ⟨φ',S1⟩:=himp C φ vs.toArray w S0
   exact ⟨φ',{S1 with slots:=rfl,defers:=uG.nil},Lr _ (by simpa using S1.slots)⟩
  unfold Gs
  rw[hx]
  match xs,hx,exp with
  |[x],hx,exp=>
   refine ⟨x,rfl,_,_,exp x ?_,rfl,rfl⟩
   intro C φ a w S v hv
   refine ⟨[v],⟨v,[],rfl,hv,rfl⟩,fun E hr=> ?_⟩
   have:=hr.length
   match ys,this,hr with
   |[y],_,⟨u,us,he,h1,h2⟩=>
    simp only[fK] at he
    obtain ⟨rfl,_⟩:=he
    exact h1
  |[],hx,exp=>
   refine ⟨.tup [],rfl,_,_,exp _ ?_,rfl,rfl⟩
   rintro C φ a w S v ⟨vs,rfl,hvs⟩
   refine ⟨vs.toList,hvs,fun E hr=> ?_⟩
   have h1:=hr.length
   have h2:=hvs.length
   match ys,hr,h1 with
   |[],hr,_=>exact ⟨vs,rfl,hr⟩
   |[_],hr,h1=>rw[h1] at h2;simp at h2
   |_::_::_,hr,h1=>rw[h1] at h2;simp at h2
  |x::x'::xs,hx,exp=>
   refine ⟨.tup (x::x'::xs),rfl,_,_,exp _ ?_,rfl,rfl⟩
   rintro C φ a w S v ⟨vs,rfl,hvs⟩
   refine ⟨vs.toList,hvs,fun E hr=> ?_⟩
   have h1:=hr.length
   have h2:=hvs.length
   match ys,hr,h1 with
   |[],hr,h1=>rw[h1] at h2;simp at h2
   |[_],hr,h1=>rw[h1] at h2;simp at h2
   |_::_::_,hr,_=>exact ⟨vs,rfl,hr⟩
 exact key
theorem gEnd_pan {P:Program} {rs:List ResultVar} {σ':AState} {x y:AV} {H':List AObj} (himp:Pp ⟨[x],σ'.heap,σ'.low,[]⟩ ⟨[y],H',σ'.low,[]⟩):R7 P rs (fun o DE=>o= .panic y∧DE=H') (some x) σ':=by
 refine ⟨y,H',?_,rfl,rfl⟩
 intro C φ a w S v hv
 have S0:qq C φ ⟨[x],σ'.heap,σ'.low,[]⟩ {tmps:=[v].toArray,defers:=[]} w:={S with slots:=⟨v,[],rfl,hv,rfl⟩,defers:=uG.nil}
 obtain ⟨φ',S1⟩:=himp C φ _ w S0
 obtain ⟨u,us,he,h1,_⟩:=S1.slots
 simp only[fK] at he
 obtain ⟨rfl,_⟩:=he
 exact ⟨φ',{S1 with slots:=rfl,defers:=uG.nil},h1⟩
theorem Sm {f:FuncId} {fn:Func} {args:List AV} {H:List AObj} {V:wo→List AObj→Prop} {r:R} {n:Nat} {rs:List ResultVar} (G:Good M) (hf:M.P.funcs[f]? =some fn) (hb:fn.body=some M.body) (hne:(fn.name != "runtime.NumGoroutine")=true)
 (hnb:nbL H.length args) (DK: ∀x∈H,objNb H.length x) (hn:fn.ntmps=n) (Ph:fn.results=rs.toArray)
 (hout: ∀σ,M.out σ=some r→Oe M.P (R7 M.P rs V) σ.df none σ) (houtP: ∀x σ,M.wU x σ=some r→Oe M.P (R7 M.P rs V) σ.df (some x) σ)
 (h:run M [.at []] {slots:=args++fy (n-args.length) .any,heap:=H,low:=H.length}=some r):Ob M.P f args H V:=by
 refine X5 hf hb hne hnb DK hn Ph ?_
 exact NF G h (fun σ' hs=>⟨hout σ' hs,hout σ' hs⟩) houtP
theorem wW {f:FuncId} {fn:Func} {args:List AV} {H:List AObj} {ys:List AV} {H':List AObj} {r:R} {n:Nat} {rs:List ResultVar} (G:Good M) (hf:M.P.funcs[f]? =some fn) (hb:fn.body=some M.body) (hne:(fn.name != "runtime.NumGoroutine")=true)
 (hnb:nbL H.length args) (DK: ∀x∈H,objNb H.length x) (hn:fn.ntmps=n) (Ph:fn.results=rs.toArray)
 (hout: ∀σ,M.out σ=some r→σ.df=[]∧ ∃xs,zE M.P σ rs=some xs∧Pp ⟨xs,σ.heap,σ.low,[]⟩ ⟨ys,H',σ.low,[]⟩)
 (h:run M [.at []] {slots:=args++fy (n-args.length) .any,heap:=H,low:=H.length}=some r) (hP: ∀x σ',M.wU x σ'=none:=by intros;rfl):Ob M.P f args H (fun o DE=>o= .ret (uR ys)∧DE=H'):=by
 refine Sm G hf hb hne hnb DK hn Ph (fun σ' hs=> ?_) (fun x σ' hx=>by rw[hP x σ'] at hx;cases hx) h
 obtain ⟨hd,xs,hx,himp⟩:=hout σ' hs
 rw[hd]
 exact Jx hx himp
end runG
section outG
variable {α β γ:Type}
def outG (P:Program) (rs:List ResultVar) (os:Jv β) (s:CF β α) (low:Nat) (σ:AState):Option (β×α):=
 (zE P σ rs).bind fun xs=>(os.dec σ.heap (σ.heap.take low)).bind fun b=>(s.dec b σ.heap xs).bind fun a=>bif (σ.low==low)&&decide (s.need≤low)&&decide (low≤σ.heap.length)&&σ.df.isEmpty then some (b,a) else none
theorem Ro {P:Program} {rs:List ResultVar} {os:Jv β} {s:CF β α} {low:Nat} {σ:AState} {r:β×α} (h:outG P rs os s low σ=some r):
 σ.df=[]∧ ∃xs,zE P σ rs=some xs∧Pp ⟨xs,σ.heap,σ.low,[]⟩ ⟨s.enc r.1 r.2,os.enc r.1,σ.low,[]⟩:=by
 unfold outG at h
 simp only[fc] at h
 obtain ⟨xs,hx,b,hb,a,ha,h⟩:=h
 cases hc:((σ.low==low)&&decide (s.need≤low)&&decide (low≤σ.heap.length)&&σ.df.isEmpty) with
 |false=>simp [hc] at h
 |true=>
  simp only[hc,cond_true,ff] at h
  subst h
  simp only[fF,beq_iff_eq,decide_eq_true_eq] at hc
  obtain ⟨⟨⟨h1,h2⟩,h3⟩,h4⟩:=hc
  refine ⟨by simpa using h4,xs,hx,Fi.e (Up.imp (σ:=⟨xs,σ.heap,σ.low,[]⟩) (σ':=⟨s.enc b a,os.enc b,σ.low,[]⟩) ⟨⟨⟨rfl,?_⟩,rfl,N5⟩,?_,?_⟩)⟩
  ·obtain ⟨_,h5⟩:=os.ok σ.heap 0 _ _ hb
   show σ.low≤(os.enc b).length
   rw[h5,ga];omega
  ·show zD σ.heap (os.enc b).length xs (s.enc b a)
   obtain ⟨_,h5⟩:=os.ok σ.heap 0 _ _ hb
   exact s.ok b σ.heap _ xs a (by rw[h5,ga];omega) ha
  ·show Ml σ.heap (os.enc b).length σ.heap (os.enc b)
   exact Ml.take low (os.ok σ.heap _ _ _ hb).1
end outG
section callG
theorem Sn: ∀ (ls:List Nat) (G:List AObj) (ys:List AObj) (l:Nat) (z:AObj),l ∉ ls→(tG G ls ys).set l z=tG (G.set l z) ls ys
 |[],_,_,_,_,_=>by simp [tG]
 |_::_,_,[],_,_,_=>by simp [tG]
 |k::ls,G,y::ys,l,z,h=>by
  simp only[fH,not_or] at h
  rw[tG,tG,Sn ls _ ys l z h.2,List.set_comm _ _ (fun e=>h.1 e.symm)]
theorem IE: ∀ (ls:List Nat) (G:List AObj) (ys ys':List AObj),ls.Nodup→ls.length≤ys'.length→tG (tG G ls ys) ls ys'=tG G ls ys'
 |[],_,_,_,_,_=>by simp [tG]
 |_::_,_,_,[],_,h=>by simp at h
 |l::ls,G,[],y'::ys',hnd,h=>by simp [tG]
 |l::ls,G,y::ys,y'::ys',hnd,h=>by
  rw[fO] at hnd
  simp only[fE,Nat.add_le_add_iff_right] at h
  simp only[tG]
  rw[Sn ls _ ys l y' hnd.1,List.set_set,IE ls _ ys ys' hnd.2 h]
theorem Kg {H:List AObj} {n:Nat}: ∀ {xs ys:List AObj},(∀ (k:Nat) (y:AObj),ys[k]? =some y→ ∃x,xs[k]? =some x∧GW H n x y)→Ml H n xs ys
 |_,[],_=>Ml.nil
 |[],y::ys,h=>by obtain ⟨x,hx,_⟩:=h 0 y (by simp);simp at hx
 |x::xs,y::ys,h=>by
  obtain ⟨x',hx,hc⟩:=h 0 y (by simp)
  simp at hx;subst hx
  exact ⟨hc,Kg fun k z hz=>by have:=h (k+1) z (by simpa using hz);simpa using this⟩
theorem zD.append {H:List AObj} {n:Nat}: ∀ {xs ys us vs:List AV},zD H n xs ys→zD H n us vs→zD H n (xs++us) (ys++vs)
 |[],_,_,_,rfl,h=>h
 |_::_,_,_,_,⟨y,zs,rfl,h,hs⟩,h2=>⟨y,zs++_,rfl,h,zD.append hs h2⟩
theorem callG {P:Program} {f:FuncId} {σ:AState} {Gt args:List AV} {Ys Ys':List AObj} {r:AV} {ρ:List Nat} (hG:Ob P f args Ys (fun o H'=>o= .ret r∧H'=Ys')) (hnd:ρ.Nodup) (hlen:ρ.length=Ys.length) (hlen':ρ.length≤Ys'.length)
 (DF: ∀ (i k:Nat),ρ[i]? =some k→ ∃x y,σ.heap[k]? =some x∧Ys[i]? =some y∧GW σ.heap σ.heap.length x y) (hargs:zD σ.heap σ.heap.length Gt (renL (qz ρ σ.heap.length) args))
 (hren: ∀y∈Ys++Ys',∀τ,y.ren τ=y):AU P f Gt σ (fun o H'=>o= .ret (r.ren (qz ρ σ.heap.length))∧H'=tG σ.heap ρ Ys'++Ys'.drop ρ.length):=by
 refine ⟨hG.1,fun C φ a w hP S vs hr=> ?_⟩
 let H1:=tG σ.heap ρ Ys
 have Xq:H1.length=σ.heap.length:=wH _ _ _
 have S0:qq C φ ⟨σ.slots++Gt,σ.heap,σ.low,σ.df⟩ {tmps:=a.tmps++vs,defers:=a.defers} w:={S with slots:=by simpa using S.slots.append hr,defers:=S.defers}
 have hat: ∀ (i k:Nat),ρ[i]? =some k→ ∃x y,σ.heap[k]? =some x∧Ys[i]? =some y∧GW σ.heap σ.heap.length x y∧H1[k]? =some y:=by
  intro i k hi
  obtain ⟨x,y,hx,hy,hc⟩:=DF i k hi
  exact ⟨x,y,hx,hy,hc,Jr ρ σ.heap Ys i k y hnd hi hy (fk.1 hx).1⟩
 have hw:Up ⟨σ.slots++Gt,σ.heap,σ.low,σ.df⟩ ⟨σ.slots++renL (qz ρ σ.heap.length) args,H1,σ.low,σ.df⟩:=by
  refine ⟨⟨⟨rfl,by show σ.low≤H1.length;rw[Xq];exact S.low.2⟩,rfl,by show Wf H1.length σ.df;rw[Xq];exact FB.nb S.defers.2.2⟩,?_,?_⟩
  ·show zD σ.heap H1.length _ _
   rw[Xq]
   exact zD.append (zD.same (m7.nb _ _ S.slots)) hargs
  ·show Ml σ.heap H1.length σ.heap H1
   rw[Xq]
   refine Kg fun k y hy=> ?_
   by_cases hk:k∈ρ
   ·obtain ⟨i,hi⟩:=gq hk
    obtain ⟨x,y',hx,_,hc,hy'⟩:=hat i k hi
    rw[hy'] at hy;cases hy
    exact ⟨x,hx,hc⟩
   ·have hy2:σ.heap[k]? =some y:=by rw[←hy];exact (B7 ρ σ.heap Ys k hk).symm
    exact ⟨y,hy2,.inr (.inl ⟨rfl,Jp (S.objs k y hy2)⟩)⟩
 obtain ⟨φ',S1⟩:=hw.imp C φ _ w S0
 have MA:=S1.slots
 simp only[fM] at MA
 have hsz:a.tmps.toList.length=σ.slots.length:=S.slots.length
 have h1:=MA.take σ.slots.length
 have h2:=MA.drop σ.slots.length
 rw[fI rfl,fI hsz] at h1
 rw[fJ rfl,fJ hsz] at h2
 have S2:qq C φ' {σ with heap:=H1} a w:={S1 with slots:=h1,defers:=S1.defers}
 have xX:AU P f (renL (qz ρ H1.length) args) {σ with heap:=H1} (fun o H'=>o= .ret (r.ren (qz ρ H1.length))∧H'=tG σ.heap ρ Ys'++Ys'.drop ρ.length):=by
  refine Wr (σ:={σ with heap:=H1}) hG ρ hlen hnd (tQ.refl _) ?_ ?_
  ·intro i k x hi hx
   obtain ⟨x',y,_,hy,_,hy'⟩:=hat i k hi
   rw[hy] at hx;cases hx
   show H1[k]? =some (x.ren _)
   rw[hy',hren x (gi.2 (.inl (fA hy)))]
  ·rintro o H' ⟨rfl,rfl⟩
   refine ⟨rfl,?_⟩
   have hid: ∀τ,H'.map (AObj.ren τ)=H':=by
    intro τ
    have:H'.map (AObj.ren τ)=H'.map id:=gw fun y hy=>hren y (gi.2 (.inr hy)) τ
    rw[this,List.map_id]
   have hid2: ∀τ,(H'.drop ρ.length).map (AObj.ren τ)=H'.drop ρ.length:=by
    intro τ;rw[List.map_drop,hid]
   show vo ρ H1 H'=_
   unfold vo
   rw[hid,hid2]
   simp only[H1]
   rw[IE ρ σ.heap Ys H' hnd hlen']
 rw[Xq] at xX
 exact xX.2 C φ' a w hP S2 vs h2
end callG
end Go.Abs
namespace Go.Abs
section args
variable {α β γ:Type}
structure DM (β α:Type) where
 enc:β→α→List AV
 dec:List Nat→β→List AObj→List AV→Option α
 ok: ∀ρ b H xs a,dec ρ b H xs=some a→zD H H.length xs (renL (qz ρ H.length) (enc b a))
def Mo:DM β Unit where
 enc _ _:=[]
 dec _ _ _
  |[]=>some ()
  |_=>none
 ok ρ b H xs a h:=by
  split at h
  ·exact zD.nil
  ·cases h
def dasT (t:Ty γ) (s:DM β α) (ρ:List Nat) (b:β) (H:List AObj):List AV→Option (γ×α)
 |x::xs=>(t.dec H x).bind fun y=>(s.dec ρ b H xs).bind fun a=>some (y,a)
 |[]=>none
def Ue (t:Ty γ) (s:DM β α):DM β (γ×α) where
 enc b a:=t.enc a.1::s.enc b a.2
 dec:=dasT t s
 ok ρ b H xs a h:=by
  unfold dasT at h
  split at h
  ·simp only[fc,ff] at h
   obtain ⟨y,hy,a,ha,rfl⟩:=h
   refine zD.cons ?_ (s.ok ρ b H _ _ ha)
   rw[ET _ _ (t.nb 0 y)]
   exact t.ok H _ _ _ hy
  ·cases h
def dasP (k:Nat) (s:DM β α) (ρ:List Nat) (b:β) (H:List AObj):List AV→Option α
 | .ptr l off::xs=>if off=0∧ρ[k]? =some l∧l<H.length then s.dec ρ b H xs else none
 |_=>none
theorem Vw {ρ:List Nat} {n k l:Nat} (h:ρ[k]? =some l):qz ρ n k=l:=by
 have hk:k<ρ.length:=(fk.1 h).1
 unfold qz
 rw[if_pos hk,gx,h];rfl
def Uu (k:Nat) (s:DM β α):DM β α where
 enc b a:= .ptr k 0::s.enc b a
 dec:=dasP k s
 ok ρ b H xs a h:=by
  unfold dasP at h
  split at h
  ·split at h
   ·rename_i hc
    obtain ⟨rfl,hc,hl⟩:=hc
    refine zD.cons ?_ (s.ok ρ b H _ _ h)
    show Co H H.length _ (.ptr (qz ρ H.length k) 0)
    rw[Vw hc]
    exact Co.same hl
   ·cases h
  ·cases h
def dasA (k:Nat) (len:β→Nat) (s:DM β α) (ρ:List Nat) (b:β) (H:List AObj):List AV→Option α
 | .acc l m::xs=>if m=len b∧ρ[k]? =some l∧l<H.length then s.dec ρ b H xs else none
 |_=>none
def asA (k:Nat) (len:β→Nat) (s:DM β α):DM β α where
 enc b a:= .acc k (len b)::s.enc b a
 dec:=dasA k len s
 ok ρ b H xs a h:=by
  unfold dasA at h
  split at h
  ·split at h
   ·rename_i hc
    obtain ⟨rfl,hc,hl⟩:=hc
    refine zD.cons ?_ (s.ok ρ b H _ _ h)
    show Co H H.length _ (.acc (qz ρ H.length k) _)
    rw[Vw hc]
    exact Co.same hl
   ·cases h
  ·cases h
theorem asN_f:(∀ (b:β) a,Mo.enc b a=[])∧(∀ρ (b:β) H,Mo.dec ρ b H []=some ()):=⟨fun _ _=>rfl,fun _ _ _=>rfl⟩
theorem asT_f {t:Ty γ} {s:DM β α}:(∀b a,(Ue t s).enc b a=t.enc a.1::s.enc b a.2)∧(∀ρ b H xs,(Ue t s).dec ρ b H xs=dasT t s ρ b H xs):=⟨fun _ _=>rfl,fun _ _ _ _=>rfl⟩
theorem asP_f {k:Nat} {s:DM β α}:(∀b a,(Uu k s).enc b a= .ptr k 0::s.enc b a)∧(∀ρ b H xs,(Uu k s).dec ρ b H xs=dasP k s ρ b H xs):=⟨fun _ _=>rfl,fun _ _ _ _=>rfl⟩
theorem asA_f {k:Nat} {len:β→Nat} {s:DM β α}:(∀b a,(asA k len s).enc b a= .acc k (len b)::s.enc b a)∧(∀ρ b H xs,(asA k len s).dec ρ b H xs=dasA k len s ρ b H xs):=⟨fun _ _=>rfl,fun _ _ _ _=>rfl⟩
end args
def nameOf:AV→Option Nat
 | .ptr l _=>some l
 | .acc l _=>some l
 |_=>none
def nameAt (args:List AV) (i:Nat):Option Nat:=(args[i]?).bind nameOf
def nodupB:List Nat→Bool
 |[]=>true
 |x::xs=> !xs.contains x&&nodupB xs
theorem GM: ∀ {xs:List Nat},nodupB xs=true→xs.Nodup
 |[],_=>List.nodup_nil
 |x::xs,h=>by
  simp only[nodupB,fF,Bool.not_eq_true',List.contains_eq_mem,decide_eq_false_iff_not] at h
  exact fO.2 ⟨h.1,GM h.2⟩
def Qn (H:List AObj) (k:Nat):Option AObj:=H[k]?
section entG
variable {α β α' β':Type}
def entG (pos:List Nat) (os:Jv β) (as:DM β α) (os':Jv β') (rs:CF β' α') (F:β→α→Option (β'×α')):Ent:=fun args H=>
 (mapO (nameAt args) pos).bind fun ρ=>bif nodupB ρ then (mapO (Qn H) ρ).bind fun xs=>(os.dec H xs).bind fun b=>(as.dec ρ b H args).bind fun a=>(F b a).bind fun r=>
   bif decide (ρ.length≤(os'.enc r.1).length) then some ((uR (rs.enc r.1 r.2)).ren (qz ρ H.length),tG H ρ (os'.enc r.1)++(os'.enc r.1).drop ρ.length) else none else none
theorem Jy {H:List AObj}: ∀ {ρ:List Nat} {xs:List AObj},mapO (Qn H) ρ=some xs→ρ.length=xs.length∧ ∀ (i k:Nat),ρ[i]? =some k→ ∃x,xs[i]? =some x∧H[k]? =some x
 |[],xs,h=>by simp only[mapO,ff] at h;subst h;simp
 |k::ρ,xs,h=>by
  simp only[mapO,fc,ff] at h
  obtain ⟨x,hx,ys,hys,rfl⟩:=h
  obtain ⟨h1,h2⟩:=Jy hys
  refine ⟨by simp [h1],fun i q hi=> ?_⟩
  cases i with
  |zero=>simp at hi;subst hi;exact ⟨x,by simp,hx⟩
  |succ i=>simp at hi;obtain ⟨y,hy,hy'⟩:=h2 i q hi;exact ⟨y,by simpa using hy,hy'⟩
theorem Kh {P:Program} {f:FuncId} {pos:List Nat} {os:Jv β} {as:DM β α} {os':Jv β'} {rs:CF β' α'} {F:β→α→Option (β'×α')}
 (h: ∀b a r,F b a=some r→Ob P f (as.enc b a) (os.enc b) (fun o H'=>o= .ret (uR (rs.enc r.1 r.2))∧H'=os'.enc r.1)):HR P f (entG pos os as os' rs F):=by
 intro args σ r H' he
 unfold entG at he
 simp only[fc] at he
 obtain ⟨ρ,_,he⟩:=he
 cases hnd:nodupB ρ with
 |false=>simp [hnd] at he
 |true=>
  simp only[hnd,cond_true,fc] at he
  obtain ⟨xs,hxs,b,hb,a,ha,q,hq,he⟩:=he
  cases hl:decide (ρ.length≤(os'.enc q.1).length) with
  |false=>simp [hl] at he
  |true=>
   simp only[hl,cond_true,ff,fq] at he
   obtain ⟨rfl,rfl⟩:=he
   obtain ⟨h1,h2⟩:=Jy hxs
   obtain ⟨h3,h4⟩:=os.ok σ.heap σ.heap.length _ _ hb
   refine callG (h b a q hq) (GM hnd) (by rw[h1,h4]) (of_decide_eq_true hl) ?_ (as.ok ρ b σ.heap _ _ ha) ?_
   ·intro i k hi
    obtain ⟨x,hx,hx'⟩:=h2 i k hi
    have hlt:i<(os.enc b).length:=by rw[h4,←h1];exact (fk.1 hi).1
    obtain ⟨x2,GP,hc⟩:=h3.get (fj hlt)
    rw[hx] at GP;cases GP
    exact ⟨x,_,hx',fj hlt,hc⟩
   ·intro y hy τ
    rcases gi.1 hy with hy|hy
    ·exact os.ren τ _ y hy
    ·exact os'.ren τ _ y hy
end entG
abbrev EntE:=List AV→List AObj→Option wg
section entE
variable {α α' β':Type}
theorem Co1L.toSub {n:Nat}: ∀ {xs ys:List AV},zD [] n xs ys→tQ xs ys
 |[],_,rfl=>tQ.nil
 |_::_,_,⟨y,zs,rfl,h,hs⟩=>tQ.cons h.toSub (Co1L.toSub hs)
noncomputable def entE (as:DM Unit α) (os':Jv β') (rs:CF β' α') (F:α→Option (β'×α')):EntE:=fun args H=>
 pcond (nbL 0 args) ((as.dec [] () [] args).bind fun a=>(F a).bind fun r=>bif (os'.enc r.1).isEmpty then none else some {val:=(uR (rs.enc r.1 r.2)).ren (qz [] H.length),nw:=os'.enc r.1})
theorem entE_ok {P:Program} {f:FuncId} {as:DM Unit α} {os':Jv β'} {rs:CF β' α'} {F:α→Option (β'×α')} (hnb: ∀a,nbL 0 (as.enc () a))
 (h: ∀a r,F a=some r→Ob P f (as.enc () a) [] (fun o H'=>o= .ret (uR (rs.enc r.1 r.2))∧H'=os'.enc r.1)):
 ∀args σ e,entE as os' rs F args σ.heap=some e→DH P f args σ e:=by
 intro args σ e he
 unfold entE at he
 rw[pZ] at he
 obtain ⟨hb,he⟩:=he
 simp only[fc] at he
 obtain ⟨a,ha,r,hr,he⟩:=he
 cases hemp:(os'.enc r.1).isEmpty with
 |true=>rw[hemp] at he;cases he
 |false=>
  rw[hemp,cond_false,ff] at he
  subst he
  have hne:os'.enc r.1≠[]:=by intro hn;rw[hn] at hemp;cases hemp
  refine ⟨⟨by simp,by simp⟩,fun σ' _ hlen _=> ?_⟩
  have hlen:=hlen hne
  have hsub:tQ args (as.enc () a):=by
   have:=Co1L.toSub (as.ok [] () [] args a ha)
   rw[tR _ _ (hnb a)] at this
   exact this
  have hG:=h a r hr
  have hG':Ob P f args [] (fun o H'=>o= .ret (uR (rs.enc r.1 r.2))∧H'=os'.enc r.1):=
   ⟨hG.1,hb,hG.2.2.1,fun C φ w hP h0 hN hφ hM HS vs hr=>hG.2.2.2 C φ w hP h0 hN hφ hM HS vs (hsub _ _ hr)⟩
  have:=callG (σ:=σ') (Gt:=args) (ρ:=[]) hG' List.nodup_nil rfl (fW _) (by simp) (by rw[tR _ _ hb];exact zD.same (sE (fW _) _ hb)) (by
   intro y hy τ
   simp only[fU] at hy
   exact os'.ren τ _ y hy)
  rw[hlen] at this
  refine AU.mono this ?_
  rintro o H ⟨rfl,rfl⟩
  refine ⟨rfl,?_⟩
  show tG σ'.heap [] (os'.enc r.1)++_=σ'.heap++os'.enc r.1
  cases os'.enc r.1<;>rfl
noncomputable def entR (e:EntD):EntE:=fun args H=>(NT H args).bind fun p=>(e p.1).bind fun r=>some {val:=r,rd:=p.2}
theorem entR_ok {P:Program} {f:FuncId} {e:EntD} (h:NG P f e): ∀ (args:List AV) (σ:AState) (ef:wg),entR e args σ.heap=some ef→DH P f args σ ef:=by
 intro args σ ef he
 simp only[entR,fc] at he
 obtain ⟨⟨ds,ns⟩,hv,r,hr,he⟩:=he
 cases he
 refine ⟨⟨fun l hl=>Wd hv l hl,by simp⟩,fun σ' hrd _ _=> ?_⟩
 have hv':=Mk hv hrd
 obtain ⟨hen,hc⟩:=J5 (σ:=σ') (K:=fun o H'=>o= .ret r∧H'=σ'.heap) (h ds r hr) (by rintro _ rfl;exact ⟨rfl,rfl⟩)
 refine ⟨hen,fun C φ a w hP S vs uM=>(hc C φ a w hP S vs (ES S hv' uM)).mono ?_⟩
 rintro e' w' ⟨o,φ',H',⟨rfl,rfl⟩,h1,h2⟩
 exact ⟨_,φ',_,⟨rfl,by simp [p4]⟩,h1,h2⟩
def Uv:List (Nat×EntE)→FuncId→List AV→List AObj→Option wg
 |[],_,_,_=>none
 |(g,e)::t,f,args,H=>if f=g then e args H else Uv t f args H
def nj:List Nat→FuncId→Bool
 |[],_=>false
 |g::t,f=>f==g||nj t f
theorem oH {P:Program}: ∀ (f:FuncId) (args:List AV) (σ:AState) (e:wg),(fun _ _ _=>none:FuncId→List AV→List AObj→Option wg) f args σ.heap=some e→DH P f args σ e:=by
 intro f args σ e h;cases h
theorem Qo {P:Program}: ∀ (f:FuncId) (args:List AV) (σ:AState) (e:wg),Uv [] f args σ.heap=some e→DH P f args σ e:=by
 intro f args σ e h;cases h
theorem Ki {P:Program} {g:Nat} {e:EntE} {t:List (Nat×EntE)} (h1: ∀args σ ef,e args σ.heap=some ef→DH P g args σ ef)
 (h2: ∀ (f:FuncId) (args:List AV) (σ:AState) (ef:wg),Uv t f args σ.heap=some ef→DH P f args σ ef): ∀ (f:FuncId) (args:List AV) (σ:AState) (ef:wg),Uv ((g,e)::t) f args σ.heap=some ef→DH P f args σ ef:=by
 intro f args σ ef h
 simp only[Uv] at h
 split at h
 ·rename_i hg;subst hg;exact h1 _ _ _ h
 ·exact h2 _ _ _ _ h
end entE
section handout
variable {C:Ctx} {φ:Nat→Value} {σ:AState} {a:Act} {w:World}
theorem So {xs:List AV} {H:List AObj} {low l:Nat} {y:AObj} (hl:H[l]? =some y) (DD:low≤l) (hnb: ∀z∈H.take low,objNb low z) (hy:objNb low y) (hr:nbL (low+1) (renL (outX low l) xs)):
 Pp ⟨xs,H,low,[]⟩ ⟨renL (outX low l) xs,H.take low++[y],low,[]⟩:=by
 intro C φ tmps w S
 obtain ⟨φ',S',uM⟩:=export_one (σ:=⟨xs,H,low,[]⟩) (x:= .tup xs) hl DD hnb hy hr C φ _ w S (.tuple tmps) ⟨tmps,rfl,S.slots⟩
 obtain ⟨vs,hv,rl⟩:=uM
 simp only[Value.tuple.injEq] at hv
 subst hv
 exact ⟨φ',{S' with slots:=rl,defers:=uG.nil}⟩
variable {α γ:Type}
noncomputable def WD (P:Program) (rs:List ResultVar) (j:Nat) (r:Row γ) (s:CF (List γ×Unit) α) (σ:AState):Option ((List γ×Unit)×α):=
 bif σ.df.isEmpty then (zE P σ rs).bind fun xs=>outH1 (QT (FG j r.sz true ⟨xs,σ.heap,0,[]⟩) (FG j r.sz true ⟨xs,σ.heap,0,[]⟩).slots[j]?) j r s σ.low else none
where
 outH1 (τ:AState) (j:Nat) (r:Row γ) (s:CF (List γ×Unit) α) (low:Nat):Option ((List γ×Unit)×α):=
  match τ.slots[j]? with
  |some (.acc l _)=>match τ.heap[l]? with
   |some y=>pcond (low=0∧objNb 0 y∧nbL 1 (renL (outX 0 l) τ.slots)) (((B9 (NQ true r) Ba).dec [y] [y]).bind fun b=>(s.dec b [y] (renL (outX 0 l) τ.slots)).bind fun a=>bif decide (s.need≤1) then some (b,a) else none)
   |none=>none
  |_=>none
theorem Mp {P:Program} {rs:List ResultVar} {j:Nat} {r:Row γ} {s:CF (List γ×Unit) α} {σ:AState} {q:(List γ×Unit)×α} (h:WD P rs j r s σ=some q):
 σ.df=[]∧ ∃xs,zE P σ rs=some xs∧Pp ⟨xs,σ.heap,σ.low,[]⟩ ⟨s.enc q.1 q.2,(B9 (NQ true r) Ba).enc q.1,σ.low,[]⟩:=by
 unfold WD at h
 cases hd0:σ.df with
 |cons p q=>rw[hd0] at h;cases h
 |nil=>
 rw[hd0] at h
 simp only[fR,cond_true] at h
 simp only[fc] at h
 obtain ⟨xs,hx,h⟩:=h
 refine ⟨rfl,xs,hx,?_⟩
 unfold WD.outH1 at h
 split at h
 case h_2=>cases h
 rename_i l m hs
 split at h
 case h_2=>cases h
 rename_i y hl
 rw[pZ] at h
 obtain ⟨⟨DD,h1,h2⟩,h⟩:=h
 simp only[fc] at h
 obtain ⟨b,hb,a,ha,h⟩:=h
 cases hd:decide (s.need≤1) with
 |false=>simp [hd] at h
 |true=>
  simp only[hd,cond_true,ff] at h
  subst h
  rw[DD]
  have i1:Fi ⟨xs,σ.heap,0,[]⟩ (QT (FG j r.sz true ⟨xs,σ.heap,0,[]⟩) (FG j r.sz true ⟨xs,σ.heap,0,[]⟩).slots[j]?):=YF.trans immV_ok
  have hlow0:(QT (FG j r.sz true ⟨xs,σ.heap,0,[]⟩) (FG j r.sz true ⟨xs,σ.heap,0,[]⟩).slots[j]?).low=0:=by rw[immV_low];unfold FG;split<;>rfl
  have hdf0:(QT (FG j r.sz true ⟨xs,σ.heap,0,[]⟩) (FG j r.sz true ⟨xs,σ.heap,0,[]⟩).slots[j]?).df=[]:=by rw[immV_df];unfold FG;split<;>rfl
  generalize hτ:QT (FG j r.sz true ⟨xs,σ.heap,0,[]⟩) (FG j r.sz true ⟨xs,σ.heap,0,[]⟩).slots[j]? =τ at*
  have i2:Pp ⟨τ.slots,τ.heap,0,[]⟩ ⟨renL (outX 0 l) τ.slots,τ.heap.take 0++[y],0,[]⟩:=So hl (fW _) (by simp) h1 h2
  have e:τ=⟨τ.slots,τ.heap,0,[]⟩:=by cases τ;simp only at hlow0 hdf0;subst hlow0 hdf0;rfl
  rw[e] at i1
  refine (i1.e.trans i2).trans ?_
  simp only[gp,fU]
  obtain ⟨h5,h6⟩:=(B9 (NQ true r) Ba).ok [y] 1 _ _ hb
  refine Fi.e (Up.imp (σ:=⟨renL (outX 0 l) τ.slots,[y],0,[]⟩) (σ':=⟨s.enc b a,(B9 (NQ true r) Ba).enc b,0,[]⟩) ⟨⟨⟨rfl,fW _⟩,rfl,N5⟩,?_,?_⟩)
  ·show zD [y] ((B9 (NQ true r) Ba).enc b).length _ _
   rw[h6]
   exact s.ok b [y] 1 _ a (of_decide_eq_true hd) ha
  ·show Ml [y] ((B9 (NQ true r) Ba).enc b).length [y] _
   rw[h6]
   exact h5
end handout
end Go.Abs
namespace Go.Abs
def Oh (i:Nat) (uO:Bool) (sz:Nat) (e:Ent):Ent:=fun args H=>
 match args[i]? with
 |some (.nE true _ [])=>e (args.set i (.acc H.length 0)) (H++[.acc uO sz []])
 |_=>e args H
theorem Sp {P:Program} {f:FuncId} {i:Nat} {uO:Bool} {sz:Nat} {e:Ent} (h:HR P f e):HR P f (Oh i uO sz e):=by
 intro args σ r H' he
 unfold Oh at he
 split at he
 ·rename_i s hi
  have hc:=h (args.set i (.acc σ.heap.length 0)) {σ with heap:=σ.heap++[.acc uO sz []]} r H' he
  refine ⟨hc.1,fun C φ a w hP S vs hr=> ?_⟩
  have S0:qq C φ ⟨σ.slots++args,σ.heap,σ.low,σ.df⟩ {tmps:=a.tmps++vs,defers:=a.defers} w:={S with slots:=by simpa using S.slots.append hr,defers:=S.defers}
  have ql:(σ.slots++args)[σ.slots.length+i]? =some (.nE true s []):=by
   rw[fC (by omega),gb];exact hi
  obtain ⟨φ',S1⟩:=XN (σ:=⟨σ.slots++args,σ.heap,σ.low,σ.df⟩) (sz:=sz) (uO:=uO) ql C φ _ w S0
  have Uq:(σ.slots++args).set (σ.slots.length+i) (.acc σ.heap.length 0)=σ.slots++args.set i (.acc σ.heap.length 0):=by
   rw[List.set_append_right _ _ (by omega),gb]
  have MA:=S1.slots
  simp only[Uq,fM] at MA
  have hsz:a.tmps.toList.length=σ.slots.length:=S.slots.length
  have h1:=MA.take σ.slots.length
  have h2:=MA.drop σ.slots.length
  rw[fI rfl,fI hsz] at h1
  rw[fJ rfl,fJ hsz] at h2
  have S2:qq C φ' {σ with heap:=σ.heap++[.acc uO sz []]} a w:={S1 with slots:=h1,defers:=S1.defers}
  exact hc.2 C φ' a w hP S2 vs h2
 ·exact h args σ r H' he
def entAlt (e e':Ent):Ent:=fun args H=>(e args H).or (e' args H)
theorem entAlt_ok {P:Program} {f:FuncId} {e e':Ent} (h:HR P f e) (h':HR P f e'):HR P f (entAlt e e'):=by
 intro args σ r H' he
 unfold entAlt at he
 rw[Option.or_eq_some_iff] at he
 rcases he with he|⟨_,he⟩
 ·exact h args σ r H' he
 ·exact h' args σ r H' he
end Go.Abs
namespace Go.Abs
section
variable {R:Type} {M:pO R} {k:List Kt} {σ:AState}
theorem stepZ_move {ops:Array Oper} {dst:Option Tmp} {rest:List Oper} {x}:tZ M ops dst rest k σ (.move x)=su M ops dst rest k σ (Gd M.P σ (.move x)):=by rw[←sv];rfl
theorem WE {ops:Array Oper} {dst:Option Tmp} {rest:List Oper} {x}:tZ M ops dst rest k σ (.assign x)=su M ops dst rest k σ (Gd M.P σ (.assign x)):=by rw[←sv];rfl
theorem stepZ_pick {ops:Array Oper} {dst:Option Tmp} {rest:List Oper} {c} {a} {b}:tZ M ops dst rest k σ (.pick c a b)=su M ops dst rest k σ (Gd M.P σ (.pick c a b)):=by rw[←sv];rfl
theorem YK {ops:Array Oper} {dst:Option Tmp} {rest:List Oper} {t}:tZ M ops dst rest k σ (.alloc t)=su M ops dst rest k σ (Gd M.P σ (.alloc t)):=by rw[←sv];rfl
theorem stepZ_box {ops:Array Oper} {dst:Option Tmp} {rest:List Oper} {t} {v}:tZ M ops dst rest k σ (.box t v)=su M ops dst rest k σ (Gd M.P σ (.box t v)):=by rw[←sv];rfl
theorem YL {ops:Array Oper} {dst:Option Tmp} {rest:List Oper} {t} {ps}:tZ M ops dst rest k σ (.build t ps)=su M ops dst rest k σ (Gd M.P σ (.build t ps)):=by rw[←sv];rfl
theorem Pq {ops:Array Oper} {dst:Option Tmp} {rest:List Oper} {t} {n} {ps}:tZ M ops dst rest k σ (.buildSlice t n ps)=su M ops dst rest k σ (Gd M.P σ (.buildSlice t n ps)):=by rw[←sv];rfl
theorem WG {ops:Array Oper} {dst:Option Tmp} {rest:List Oper} {m} {a} {b} {c}:tZ M ops dst rest k σ (.insert m a b c)=su M ops dst rest k σ (Gd M.P σ (.insert m a b c)):=by rw[←sv];rfl
theorem stepZ_load {ops:Array Oper} {dst:Option Tmp} {rest:List Oper} {t} {a}:tZ M ops dst rest k σ (.load t a)=su M ops dst rest k σ (Gd M.P σ (.load t a)):=by rw[←sv];rfl
theorem YM {ops:Array Oper} {dst:Option Tmp} {rest:List Oper} {t} {a} {v}:tZ M ops dst rest k σ (.store t a v)=su M ops dst rest k σ (Gd M.P σ (.store t a v)):=by rw[←sv];rfl
theorem YN {ops:Array Oper} {dst:Option Tmp} {rest:List Oper} {g}:tZ M ops dst rest k σ (.ready g)=su M ops dst rest k σ (Gd M.P σ (.ready g)):=by rw[←sv];rfl
theorem YO {ops:Array Oper} {dst:Option Tmp} {rest:List Oper} {g}:tZ M ops dst rest k σ (.waits g)=su M ops dst rest k σ (Gd M.P σ (.waits g)):=by rw[←sv];rfl
theorem Sq {ops:Array Oper} {dst:Option Tmp} {rest:List Oper} {x}:tZ M ops dst rest k σ (.nilCheck x)=su M ops dst rest k σ (Gd M.P σ (.nilCheck x)):=by rw[←sv];rfl
theorem YP {ops:Array Oper} {dst:Option Tmp} {rest:List Oper} {o} {t} {x} {y} {u}:tZ M ops dst rest k σ (.binOp o t x y u)=su M ops dst rest k σ (Gd M.P σ (.binOp o t x y u)):=by rw[←sv];rfl
theorem stepZ_unOp {ops:Array Oper} {dst:Option Tmp} {rest:List Oper} {o} {t} {x}:tZ M ops dst rest k σ (.unOp o t x)=su M ops dst rest k σ (Gd M.P σ (.unOp o t x)):=by rw[←sv];rfl
theorem Uw {ops:Array Oper} {dst:Option Tmp} {rest:List Oper} {s} {d} {x}:tZ M ops dst rest k σ (.convert s d x)=su M ops dst rest k σ (Gd M.P σ (.convert s d x)):=by rw[←sv];rfl
theorem Hz {ops:Array Oper} {dst:Option Tmp} {rest:List Oper} {d} {x}:tZ M ops dst rest k σ (.sliceToArrayPointer d x)=su M ops dst rest k σ (Gd M.P σ (.sliceToArrayPointer d x)):=by rw[←sv];rfl
theorem MC {ops:Array Oper} {dst:Option Tmp} {rest:List Oper} {t} {x}:tZ M ops dst rest k σ (.makeInterface t x)=su M ops dst rest k σ (Gd M.P σ (.makeInterface t x)):=by rw[←sv];rfl
theorem Ss {ops:Array Oper} {dst:Option Tmp} {rest:List Oper} {f} {a} {b}:tZ M ops dst rest k σ (.makeFunc f a b)=su M ops dst rest k σ (Gd M.P σ (.makeFunc f a b)):=by rw[←sv];rfl
theorem Ux {ops:Array Oper} {dst:Option Tmp} {rest:List Oper} {t} {r}:tZ M ops dst rest k σ (.makeMap t r)=su M ops dst rest k σ (Gd M.P σ (.makeMap t r)):=by rw[←sv];rfl
theorem St {ops:Array Oper} {dst:Option Tmp} {rest:List Oper} {t} {x}:tZ M ops dst rest k σ (.makeChan t x)=su M ops dst rest k σ (Gd M.P σ (.makeChan t x)):=by rw[←sv];rfl
theorem QU {ops:Array Oper} {dst:Option Tmp} {rest:List Oper} {t} {l} {c}:tZ M ops dst rest k σ (.makeSlice t l c)=su M ops dst rest k σ (Gd M.P σ (.makeSlice t l c)):=by rw[←sv];rfl
theorem YQ {ops:Array Oper} {dst:Option Tmp} {rest:List Oper} {t} {x} {l} {h} {m}:tZ M ops dst rest k σ (.slice t x l h m)=su M ops dst rest k σ (Gd M.P σ (.slice t x l h m)):=by rw[←sv];rfl
theorem QV {ops:Array Oper} {dst:Option Tmp} {rest:List Oper} {t} {x} {f}:tZ M ops dst rest k σ (.fieldAddr t x f)=su M ops dst rest k σ (Gd M.P σ (.fieldAddr t x f)):=by rw[←sv];rfl
theorem YR {ops:Array Oper} {dst:Option Tmp} {rest:List Oper} {t} {x} {f}:tZ M ops dst rest k σ (.field t x f)=su M ops dst rest k σ (Gd M.P σ (.field t x f)):=by rw[←sv];rfl
theorem QW {ops:Array Oper} {dst:Option Tmp} {rest:List Oper} {t} {x} {i}:tZ M ops dst rest k σ (.indexAddr t x i)=su M ops dst rest k σ (Gd M.P σ (.indexAddr t x i)):=by rw[←sv];rfl
theorem YS {ops:Array Oper} {dst:Option Tmp} {rest:List Oper} {t} {x} {i}:tZ M ops dst rest k σ (.index t x i)=su M ops dst rest k σ (Gd M.P σ (.index t x i)):=by rw[←sv];rfl
theorem WH {ops:Array Oper} {dst:Option Tmp} {rest:List Oper} {t} {x} {i} {b}:tZ M ops dst rest k σ (.lookup t x i b)=su M ops dst rest k σ (Gd M.P σ (.lookup t x i b)):=by rw[←sv];rfl
theorem QX {ops:Array Oper} {dst:Option Tmp} {rest:List Oper} {t} {m} {kk} {v}:tZ M ops dst rest k σ (.mapUpdate t m kk v)=su M ops dst rest k σ (Gd M.P σ (.mapUpdate t m kk v)):=by rw[←sv];rfl
theorem Su {ops:Array Oper} {dst:Option Tmp} {rest:List Oper} {t} {m} {kk}:tZ M ops dst rest k σ (.mapEntry t m kk)=su M ops dst rest k σ (Gd M.P σ (.mapEntry t m kk)):=by rw[←sv];rfl
theorem Pr {ops:Array Oper} {dst:Option Tmp} {rest:List Oper} {t} {m} {s} {v}:tZ M ops dst rest k σ (.entryStore t m s v)=su M ops dst rest k σ (Gd M.P σ (.entryStore t m s v)):=by rw[←sv];rfl
theorem YT {ops:Array Oper} {dst:Option Tmp} {rest:List Oper} {t} {x}:tZ M ops dst rest k σ (.range t x)=su M ops dst rest k σ (Gd M.P σ (.range t x)):=by rw[←sv];rfl
theorem stepZ_next {ops:Array Oper} {dst:Option Tmp} {rest:List Oper} {i} {b}:tZ M ops dst rest k σ (.next i b)=su M ops dst rest k σ (Gd M.P σ (.next i b)):=by rw[←sv];rfl
theorem YU {ops:Array Oper} {dst:Option Tmp} {rest:List Oper} {i}:tZ M ops dst rest k σ (.entry i)=su M ops dst rest k σ (Gd M.P σ (.entry i)):=by rw[←sv];rfl
theorem Pt {ops:Array Oper} {dst:Option Tmp} {rest:List Oper} {x} {t} {u} {b}:tZ M ops dst rest k σ (.typeAssert x t u b)=su M ops dst rest k σ (Gd M.P σ (.typeAssert x t u b)):=by rw[←sv];rfl
theorem Uy {ops:Array Oper} {dst:Option Tmp} {rest:List Oper} {t} {i}:tZ M ops dst rest k σ (.extract t i)=su M ops dst rest k σ (Gd M.P σ (.extract t i)):=by rw[←sv];rfl
theorem stepZ_call {ops:Array Oper} {dst:Option Tmp} {rest:List Oper} {c}:tZ M ops dst rest k σ (.call c)=su M ops dst rest k σ (Gd M.P σ (.call c)):=by rw[←sv];rfl
theorem stepZ_go {ops:Array Oper} {dst:Option Tmp} {rest:List Oper} {c}:tZ M ops dst rest k σ (.go c)=su M ops dst rest k σ (Gd M.P σ (.go c)):=by rw[←sv];rfl
theorem stepZ_send {ops:Array Oper} {dst:Option Tmp} {rest:List Oper} {c} {x}:tZ M ops dst rest k σ (.send c x)=su M ops dst rest k σ (Gd M.P σ (.send c x)):=by rw[←sv];rfl
theorem stepZ_recv {ops:Array Oper} {dst:Option Tmp} {rest:List Oper} {t} {c} {b}:tZ M ops dst rest k σ (.recv t c b)=su M ops dst rest k σ (Gd M.P σ (.recv t c b)):=by rw[←sv];rfl
theorem WI {ops:Array Oper} {dst:Option Tmp} {rest:List Oper} {c} {b}:tZ M ops dst rest k σ (.select c b)=su M ops dst rest k σ (Gd M.P σ (.select c b)):=by rw[←sv];rfl
theorem YV {ops:Array Oper} {dst:Option Tmp} {rest:List Oper} {c:Call}:tZ M ops dst rest k σ (.defer c)=Yi M ops dst rest k σ (Av σ (.defer c)):=rfl
theorem YW {ops:Array Oper} {dst:Option Tmp} {rest:List Oper} {x:Operand}:tZ M ops dst rest k σ (.panic x)=Yj M k σ (Gr σ (.panic x)):=rfl
theorem NH {α:Type} {a:α} {x:Option R}:pcond (a=a) x=x:=by simp [pcond]
theorem stepDC_opX {p:List Nat} {o:Oper} {rest:List Oper} {j:Nat} {tr:List Tr}:ND M p o rest j tr k σ none=wq M p o.dst rest j tr k σ (Gd M.P σ o.op):=by rw[←sv];rfl
end
section
variable {R:Type} {M:pO R} {k:List Kt} {σ:AState}
theorem stepE_cond {ops:Array Oper} {dst:Option Tmp} {rest:List Oper} {b:Bool} {x y:Option wg}:su M ops dst rest k σ (bif b then x else y)=bif b then su M ops dst rest k σ x else su M ops dst rest k σ y:=by cases b<;>rfl
theorem stepA_cond {ops:Array Oper} {dst:Option Tmp} {rest:List Oper} {b:Bool} {x y:Option (AV×List AObj)}:G0 M ops dst rest k σ (bif b then x else y)=bif b then G0 M ops dst rest k σ x else G0 M ops dst rest k σ y:=by cases b<;>rfl
theorem YX {p:List Nat} {dst:Option Tmp} {rest:List Oper} {j:Nat} {tr:List Tr} {b:Bool} {x y:Option wg}:wq M p dst rest j tr k σ (bif b then x else y)=bif b then wq M p dst rest j tr k σ x else wq M p dst rest j tr k σ y:=by cases b<;>rfl
theorem YY {p:List Nat} {dst:Option Tmp} {rest:List Oper} {j:Nat} {tr:List Tr} {b:Bool} {x y:Option AV}:G1 M p dst rest j tr k σ (bif b then x else y)=bif b then G1 M p dst rest j tr k σ x else G1 M p dst rest j tr k σ y:=by cases b<;>rfl
end
theorem undef_eq:undef= .tuple #[]:=rfl
theorem not_true':(¬ True)=False:=by simp
theorem not_false':(¬ False)=True:=by simp
theorem int_nonneg (n:Nat):(0≤(n:Int))=True:=by simp
theorem YZ:((0:Int)≤0)=True:=by simp
theorem cond_not' {α:Type} {b:Bool} {x y:α}:(bif !b then x else y)=bif b then y else x:=by cases b<;>rfl
theorem cond_same {α:Type} {b:Bool} {x:α}:(bif b then x else x)=x:=by cases b<;>rfl
theorem cond_tf {b:Bool}:(bif b then true else false)=b:=by cases b<;>rfl
theorem cond_ft {b:Bool}:(bif b then false else true)= !b:=by cases b<;>rfl
theorem beq_tt {b:Bool}:(b==true)=b:=by cases b<;>rfl
theorem beq_ff {b:Bool}:(b==false)= !b:=by cases b<;>rfl
theorem beq_tt' {b:Bool}:(true==b)=b:=by cases b<;>rfl
theorem beq_ff' {b:Bool}:(false==b)= !b:=by cases b<;>rfl
theorem bind_ite' {α β:Type} {p:Prop} [Decidable p] {a b:Option α} {f:α→Option β}:(if p then a else b).bind f=bif decide p then a.bind f else b.bind f:=by
 by_cases h:p<;>simp [h]
theorem mp_get {α β:Type} (f:α→β) (xs:List α) (i:Nat):(mp f xs)[i]? =gz f xs[i]? :=by rw[uc,fL]
theorem mp_set {α β:Type} (f:α→β) (xs:List α) (i:Nat) (x:α):(mp f xs).set i (f x)=mp f (xs.set i x):=by rw[uc,uc,List.map_set]
theorem pcond_room {R:Type} {a b:Nat} {x:Option R}:pcond (room a b) x=bif decide (a*b≤17592186044416) then x else none:=by
 unfold room
 exact Pg
theorem pcond_ror {R:Type} {a b:Nat} {x:Option R}:pcond (a=0∨0<b) x=bif decide (a=0∨0<b) then x else none:=Pg
theorem pcond_ilt {R:Type} {a b:Int} {x:Option R}:pcond (a<b) x=bif decide (a<b) then x else none:=Pg
theorem Rp (s:Str):(sb s).size=s.length:=by simp [sb,ByteArray.size]
theorem sb_get (s:Str) (i:Nat):(sb s)[i]? =s[i]? :=by
 by_cases h:i<s.length
 ·have h':i<(sb s).size:=by rw[Rp];exact h
  rw[fj h,getElem?_pos (sb s) i h']
  rfl
 ·have h': ¬ i<(sb s).size:=by rw[Rp];exact h
  rw[fS (by omega),getElem?_neg (sb s) i h']
theorem sb_idx (s:Str) (n:Int):idxB (sb s) n=zj s n:=by
 simp only[idxB,sb_get];rfl
theorem EY (s:Str):(sb s).toList=s:=by
 rw[ByteArray.toList_eq];rfl
theorem sb_extract (s:Str) (a b:Nat):(sb s).extract a b=sb ((s.take b).drop a):=by
 apply ByteArray.ext
 simp only[sb,ByteArray.data_extract]
 apply Array.ext'
 simp [Array.toList_extract,List.extract]
 rw[List.drop_take]
theorem sb_append (s t:Str):sb s++sb t=sb (s++t):=by
 apply ByteArray.ext
 simp [sb]
theorem sb_empty:ByteArray.empty=sb []:=rfl
theorem sb_emptyL:(⟨#[]⟩:ByteArray)=sb []:=rfl
theorem sb_lit (l:List UInt8):(⟨l.toArray⟩:ByteArray)=sb l:=rfl
attribute [go_sem] run_nil run_blk X6 Wv behind exitK_some exitK_none Yd Ww run_at stepN_skip Wx stepN_draw stepN_seq stepN_cond Ye stepN_loop stepN_exit Yg Yh stepN_ret Yf stepR_func X9 Ya Yb Yc stepJ_none stepJ_ret stepJ_exit stepJ_cond retK X7 isRd run_rb run_rd Pj beginO stP KZ NH
 run_cut run_lp run_ops run_dops stepW_true Yl stepC_some stepC_none stepY_some stepY_none stepZ_move WE stepZ_pick YK stepZ_box YL Pq WG stepZ_load YM YN YO Sq YP stepZ_unOp Uw Hz MC Ss Ux St QU YQ QV YR QW YS WH QX Su Pr YT stepZ_next YU Pt Uy stepZ_call stepZ_go stepZ_send stepZ_recv WI YV YW stepP_ret stepP_pan stepP_none stepP_bind stepP_cond stepF_some stepQ_some X8 Av Gr AState.dfr YE WB stepDP_ret stepDP_pan Yo Yp Gc restP_nil yieldOf stepE_none stepE_some stepE_bind stepE_ite stepA_some stepA_none stepA_bind Ym Wy Yn stepDC_opX Yr Yt Yu Yv stepDE_ite Yw Yx Yy stepE_cond stepA_cond YX YY
 sub child R1 uy pcond_true Jq pcond_room pcond_ror pcond_ilt
attribute [go_sem low] stepIf_sym stepW_sym stepDW_sym
attribute [go_sem] mapO_nil mapO_cons Qm bind_map' bind_bind' bind_cond bind_none' zi idxA_mp GL mp_take mp_drop mp_get mp_set bind_ite' Sg idxA_zero idxA_one idxA_two EW dL tyL_enc tyL_dec Of Kb GB dS_empty dS_emptyL tyI_enc tyI_dec tyB_enc tyB_dec tyS_enc tyS_dec dF_lit tyF_enc tyF_dec
 YB dB1 dS1 rowI_f rowU_f rowB_f Sj FF dC tyC_enc tyC_dec tyU_enc tyU_dec d2 d3 d4 d5 ty2_enc ty2_dec ty3_enc ty3_dec ty4_enc ty4_dec ty5_enc ty5_dec pW G2 qj tH Lz ent4 ent5 ent6 vY om oo zA_f zK_f zT_f zL_f dLt QS oD_f oK_f oC_f oT_f oA_f zipO nrmZ FG gCell WC Sk nrmN ot selO isLstS selM isMapS
 ixA ixS ldA ldV NT stA Gd cond_not' cond_same cond_tf cond_ft beq_tt beq_ff beq_tt' beq_ff' Rp sb_idx sb_get EY sb_append sb_extract sb_empty sb_emptyL sb_lit
attribute [go_sem] RA ixP selI ktab kcell Mh
attribute [go_sem] immV_f immO_f fzX_f entE entR Uv nj YG Vv ou rp1 Z5 rpO cI_f cB_f cS_f cL_f cF_f dL1 dF1 dP tyP_enc tyP_dec dK1 dK2 dK3 tyK1_f tyK2_f tyK3_f daT dcT oaT_f ocT_f osN_f osC_f dosC rsN_f rsT_f drsT rsA_f drsA uR outG
 asN_f asT_f dasT asP_f dasP asA_f dasA nameOf nameAt nodupB Qn entG Oh entAlt Option.or_none Option.none_or WD WD.outH1 tG qz AV.ren renL Bw outX
attribute [go_sem] sr qu nW AState.ev AState.put p4 AV.scalar J0 J1 rowsOf U8 Nv U9 O6 Xn eq1 bound Mf NS J2 Jk Va EO
 Gs zE R0 O1 Ny chunks undef_eq
attribute [go_sem] gu List.all_nil Bool.and_true gr Bool.and_false Bool.false_and if_true if_false List.getD_cons_zero List.getD_cons_succ fE List.length_nil fy List.cons_append fU
 List.set_cons_zero List.set_cons_succ reduceCtorEq and_true true_and List.append_nil Nat.zero_add fQ gd List.getElem?_nil fG List.drop_zero List.drop_succ_cons List.drop_nil
 List.take_succ_cons gp List.take_nil ne_eq not_true' not_false' fY Option.isSome_none Option.isNone_some Option.isNone_none gv List.map_nil List.getElem?_toArray Bool.not_true gm cond_true cond_false
 Int.toNat_natCast int_nonneg YZ true_or or_true and_self false_or or_false gf List.set_nil decide_true decide_false Bool.not_not and_false false_and
 fX fN List.length_replicate beq_self_eq_true
attribute [go_sem] compatP_eq tD regOps wg.idle C5 zQ Dm List.contains_cons List.contains_nil fR List.isEmpty_cons Bool.or_false Bool.false_or Bool.or_true Bool.true_or fz Bool.false_eq_true Int.cast_ofNat_Int Int.toNat_zero Int.toNat_one List.flatten_cons List.flatten_nil
 fK gh Option.map_none
theorem Sv {n:Nat}: ∀ {a b:List (List AV)},GJ n (a++b)=(GJ n a∧GJ n b)
 |[],_=>by simp [GJ]
 |x::a,b=>by simp [GJ,Sv (a:=a),and_assoc]
theorem Y0 {n:Nat} {c:AV} {cs:List AV}:qo false n (c::cs)=some c:=rfl
theorem Y1 {n:Nat} {c:AV} {cs:List AV}:qo true n (c::cs)=if n≤(c::cs).length then some (.agg ((c::cs).take n)) else none:=rfl
theorem Y2 {c:AV} {cs:List AV}:cellsOf (.agg (c::cs))=if (c::cs).all AV.scalar then some (c::cs) else none:=rfl
theorem Y3:(∀b,cellsOf (.bool b)=some [.bool b])∧(∀k n,cellsOf (.int k n)=some [.int k n])∧(∀s,cellsOf (.str s)=some [.str s])∧(∀t sz r,cellsOf (.nE t sz r)=some [.nE t sz r])∧
 (∀l n,cellsOf (.acc l n)=some [.acc l n])∧(∀a b c d e,cellsOf (.own a b c d e)=some [.own a b c d e])∧(∀a b,cellsOf (.ptr a b)=some [.ptr a b])∧(∀a,cellsOf (.map a)=some [.map a])∧
 (∀cs,cellsOf (.pp cs)=some [.pp cs])∧(∀fn f c,cellsOf (.func fn f c)=some [.func fn f c])∧(∀t x,cellsOf (.iface t x)=some [.iface t x])∧cellsOf (.raw .nilFunc)=some [.raw .nilFunc]∧cellsOf (.raw .nilIface)=some [.raw .nilIface]∧
 (∀a,cellsOf (.raw (.pointer a))=some [.raw (.pointer a)])∧(∀a,cellsOf (.raw (.map a))=some [.raw (.map a)]):=
 ⟨fun _=>rfl,fun _ _=>rfl,fun _=>rfl,fun _ _ _=>rfl,fun _ _=>rfl,fun _ _ _ _ _=>rfl,fun _ _=>rfl,fun _=>rfl,fun _=>rfl,fun _ _ _=>rfl,fun _ _=>rfl,rfl,rfl,fun _=>rfl,fun _=>rfl⟩
theorem splice_lit {c:AV} {cs:List AV} {o:Nat} {xs:List AV}:splice (c::cs) o xs=(c::cs).take o++xs++(c::cs).drop (o+xs.length):=rfl
theorem splice_all {cs xs:List AV} (h:xs.length=cs.length):splice cs 0 xs=xs:=by
 simp only[splice,gp,fU,Nat.zero_add,h,List.drop_length,List.append_nil]
attribute [go_sem] Y0 Y1 Y2 Y3 splice_all
attribute [go_sem low] splice_lit
attribute [go_sem] AV.nb nbL GJ objNb Sv
theorem nb_if {n:Nat} {c:Prop} [Decidable c] {a:AV}:AV.nb n (if c then a else .any)=(¬ c∨AV.nb n a):=by
 by_cases h:c<;>simp [h,AV.nb]
theorem dL_if {α:Type} {r:Row α} {H:List AObj} {c:Prop} [Decidable c] {a:AV}:dL r H (if c then a else .any)=bif decide c then dL r H a else none:=by
 by_cases h:c<;>simp [h,dL]
attribute [go_sem high] nb_if dL_if
attribute [go_sem] or_true
theorem rp1_of_nb {l:Nat} {cs:List AV}: ∀x:AV,x.nb 0→rp1 l cs x=x
 | .ptr _ _,h=>absurd h (fT _)
 | .any,_| .bool _,_| .int _ _,_| .str _,_| .raw _,_| .agg _,_| .tup _,_| .nE _ _ _,_| .acc _ _,_| .own _ _ _ _ _,_| .map _,_| .pp _,_| .func _ _ _,_| .iface _ _,_=>rfl
theorem NI {l:Nat} {cs:List AV}: ∀xs:List AV,nbL 0 xs→xs.map (rp1 l cs)=xs
 |[],_=>rfl
 |x::xs,h=>by rw[gv,rp1_of_nb x h.1,NI xs h.2]
theorem rpV_of_nb {l:Nat} {cs:List AV}: ∀x:AV,x.nb 0→Z5 l cs x=x
 | .ptr _ _,h=>absurd h (fT _)
 | .func _ f c,h=>by simp only[Z5];rw[NI f h.1,NI c h.2]
 | .any,_| .bool _,_| .int _ _,_| .str _,_| .raw _,_| .agg _,_| .tup _,_| .nE _ _ _,_| .acc _ _,_| .own _ _ _ _ _,_| .map _,_| .pp _,_| .iface _ _,_=>rfl
theorem BE {l:Nat} {cs:List AV}: ∀xs:List AV,nbL 0 xs→xs.map (Z5 l cs)=xs
 |[],_=>rfl
 |x::xs,h=>by rw[gv,rpV_of_nb x h.1,BE xs h.2]
end Go.Abs
namespace Go.Abs
def Sw (P:Program):Nat→List Field→List AV→List AV→Prop
 |_,[],[],[]=>True
 |o,f::fs,c::cs,d::ds=>(f.name≠ "_" ∧f.offset=o∧P.plainKey f.type=true∧(match c,d with
  | .int k _,.int k' _=>k=k'∧ ∃q,P.underlying f.type=some (.int q)
  | .bool _,.bool _=>P.underlying f.type=some .bool
  | .str _,.str _=>P.underlying f.type=some .string
  |_,_=>False))∧Sw P (o+1) fs cs ds
 |_,_,_,_=>False
theorem MU {P:Program} {E:Env} {vs us:Array Value} {w:World} {d:Nat}: ∀ (fs:List Field) (o:Nat) (cs ds:List AV),Sw P o fs cs ds→m7 E cs (vs.toList.drop o)→m7 E ds (us.toList.drop o)→
 (Op.eqFields (d+1) vs us fs).run P w= .ok (Xn cs ds) w
 |[],_,[],[],_,_,_=>by simp [Op.eqFields,Xn]
 |[],_,_::_,_,h,_,_=>h.elim
 |[],_,[],_::_,h,_,_=>h.elim
 |_::_,_,[],_,h,_,_=>h.elim
 |_::_,_,_::_,[],h,_,_=>h.elim
 |f::fs,o,c::cs,e::ds,⟨⟨h1,h2,h3,h4⟩,h5⟩,r1,r2=>by
  obtain ⟨u,us',e1,r1,r1'⟩:=r1
  obtain ⟨v,vs',e2,r2,r2'⟩:=r2
  have g1:vs[f.offset]? =some u:=by
   have:=congrArg (fun l:List Value=>l[0]?) e1
   rw[h2];simpa using this
  have g2:us[f.offset]? =some v:=by
   have:=congrArg (fun l:List Value=>l[0]?) e2
   rw[h2];simpa using this
  have t1:vs.toList.drop (o+1)=us':=by
   have:=congrArg List.tail e1
   simpa using this
  have t2:us.toList.drop (o+1)=vs':=by
   have:=congrArg List.tail e2
   simpa using this
  have ih:=MU (d:=d) (w:=w) fs (o+1) cs ds h5 (by rw[t1];exact r1') (by rw[t2];exact r2')
  have hone:(Op.equalIn (d+1) f.type u v).run P w= .ok (eq1 c e) w:=by
   cases c<;>cases e<;>try exact h4.elim
   ·cases r1;cases r2;exact run_equalIn_bool _ d f.type _ _ h4
   ·obtain ⟨rfl,q,hq⟩:=h4
    cases r1;cases r2;exact run_equalIn_int _ d f.type _ q _ _ hq
   ·cases r1;cases r2;exact run_equalIn_string _ d f.type _ _ h4
  simp only[Op.eqFields,h1,ne_eq,not_false_eq_true,if_true,Sem.run_bind,run_part_plain w h3 g1,run_part_plain w h3 g2,hone,Result.andThen_ok,Xn]
  cases eq1 c e
  ·simp
  ·simpa using ih
theorem aggEq_flat {P:Program} {t:TypeId} {cs ds:List AV} (ht:P.underlying t=some (.struct (P.fieldsOf t))) (hp:P.stoodInHeld t=false) (hg:P.eqGuardType P.depth t=false)
 (hf:Sw P 0 (P.fieldsOf t).toList cs ds):Ry P t cs ds:=by
 intro E vs us w x y h1 h2
 have hq:(Op.equal t (.agg vs) (.agg us)).run P w= .ok (Xn cs ds) w:=by
  show (Op.equalIn (9999+1) t _ _).run P w=_
  rw[run_equalIn_struct w 9999 t vs us ht hp]
  exact MU (d:=9998) _ 0 cs ds hf (by simpa using h1) (by simpa using h2)
 constructor
 ·simp [eqGuard,binOp,hg,hq]
 ·simp [eqGuard,binOp,hg,hq]
end Go.Abs
namespace Go.Abs
mutual
theorem Mq {τ τ':Nat→Nat} {n:Nat} (h: ∀l,l<n→τ l=τ' l): ∀x:AV,x.nb n→x.ren τ=x.ren τ'
 | .agg cs,k| .tup cs,k| .pp cs,k=>by simp only[AV.ren];rw[Az h cs k]
 | .nE _ _ rows,k=>by simp only[AV.ren];rw[NJ h rows k]
 | .acc l _,k| .own l _ _ _ _,k| .ptr l _,k| .map l,k=>by simp only[AV.ren];rw[h l k]
 | .func _ f c,k=>by simp only[AV.ren];rw[Az h f k.1,Az h c k.2]
 | .iface _ x,k=>by simp only[AV.ren];rw[Mq h x k]
 | .any,_| .bool _,_| .int _ _,_| .str _,_| .raw _,_=>rfl
theorem Az {τ τ':Nat→Nat} {n:Nat} (h: ∀l,l<n→τ l=τ' l): ∀xs:List AV,nbL n xs→renL τ xs=renL τ' xs
 |[],_=>rfl
 |x::xs,k=>by simp only[renL];rw[Mq h x k.1,Az h xs k.2]
theorem NJ {τ τ':Nat→Nat} {n:Nat} (h: ∀l,l<n→τ l=τ' l): ∀xs:List (List AV),GJ n xs→Bw τ xs=Bw τ' xs
 |[],_=>rfl
 |x::xs,k=>by simp only[Bw];rw[Az h x k.1,NJ h xs k.2]
end
mutual
theorem nb_ren {τ:Nat→Nat} {n m:Nat} (h: ∀l,l<n→τ l<m): ∀x:AV,x.nb n→(x.ren τ).nb m
 | .agg cs,k| .tup cs,k| .pp cs,k=>Mr h cs k
 | .nE _ _ rows,k=>nbR_ren h rows k
 | .acc l _,k| .own l _ _ _ _,k| .ptr l _,k| .map l,k=>h l k
 | .func _ f c,k=>⟨Mr h f k.1,Mr h c k.2⟩
 | .iface _ x,k=>nb_ren h x k
 | .any,_| .bool _,_| .int _ _,_| .str _,_| .raw _,_=>trivial
theorem Mr {τ:Nat→Nat} {n m:Nat} (h: ∀l,l<n→τ l<m): ∀xs:List AV,nbL n xs→nbL m (renL τ xs)
 |[],_=>trivial
 |x::xs,k=>⟨nb_ren h x k.1,Mr h xs k.2⟩
theorem nbR_ren {τ:Nat→Nat} {n m:Nat} (h: ∀l,l<n→τ l<m): ∀xs:List (List AV),GJ n xs→GJ m (Bw τ xs)
 |[],_=>trivial
 |x::xs,k=>⟨Mr h x k.1,nbR_ren h xs k.2⟩
end
theorem objRen_congr {τ τ':Nat→Nat} {n:Nat} (h: ∀l,l<n→τ l=τ' l) (x:AObj) (k:objNb n x):x.ren τ=x.ren τ':=by
 cases x with
 |cells cs=>simp only[AObj.ren];rw[Az h cs k]
 |acc uO sz rows=>simp only[AObj.ren];rw[NJ h rows k]
 |map es=>
  simp only[AObj.ren]
  congr 1
  refine gw fun p hp=> ?_
  rw[Mq h _ (k p hp).1,Mq h _ (k p hp).2]
 |loop lk slots st uL=>simp only[AObj.ren];rw[Az h slots k]
 |iter s p=>rfl
 |dead=>rfl
theorem Vk.Kj {n:Nat} {x y:AV} (h:Vk [] n x y):Sub x y:=by
 rcases h with h|⟨l,m,sz,rows,_,h,_⟩
 ·exact h.1
 ·simp at h
theorem sW.Kj {n:Nat}: ∀ {xs ys:List AV},sW [] n xs ys→tQ xs ys
 |[],_,rfl=>tQ.nil
 |_::_,_,⟨_,_,rfl,h,hs⟩=>tQ.cons h.Kj hs.Kj
theorem Co.Kj {n:Nat} {x y:AV} (h:Co [] n x y):Sub x y:=by
 rcases h with h|⟨cs,ds,rfl,rfl,h⟩
 ·exact h.Kj
 ·rintro E v ⟨vs,rfl,hv⟩
  exact ⟨vs,rfl,h.Kj E _ hv⟩
theorem tQ.func {f:Fn} {xs ys:List AV} (h:tQ xs ys):Sub (.func f [] xs) (.func f [] ys):=by
 rintro E v ⟨a,b,rfl,h1,h2⟩
 exact ⟨a,b,rfl,h1,h E _ h2⟩
abbrev Bx:=Nat→Nat
def Oi (ρ:List Nat) (k:Nat):Nat:=ρ.getD k 0
def Cov (ρ:List Nat) (need n:Nat):Prop:= ∀k,k<need→ ∃l,ρ[k]? =some l∧l<n
theorem Cov.mono {ρ:List Nat} {a b n:Nat} (h:Cov ρ b n) (k:a≤b):Cov ρ a n:=fun i hi=>h i (by omega)
theorem Cov.lt {ρ:List Nat} {a n:Nat} (h:Cov ρ a n): ∀l,l<a→Oi ρ l<n:=by
 intro l hl
 obtain ⟨k,hk,hn⟩:=h l hl
 unfold Oi;rw[gx,hk];exact hn
theorem NK {ρ:List Nat} {k l:Nat} (h:ρ[k]? =some l):Oi ρ k=l:=by unfold Oi;rw[gx,h];rfl
section specs
variable {α β γ δ:Type}
structure VL (γ:Type) where
 enc:Bx→γ→List AV
 dec:List Nat→Bx→List AV→Option γ
 need:Nat
 nb: ∀L g,nbL need (enc L g)
 ok: ∀ρ L vs g,dec ρ L vs=some g→tQ vs (renL (Oi ρ) (enc L g))
def dvlN:List AV→Option Unit
 |[]=>some ()
 |_=>none
def vlN:VL Unit where
 enc _ _:=[]
 dec _ _:=dvlN
 need:=0
 nb _ _:=trivial
 ok ρ L vs g h:=by
  unfold dvlN at h
  split at h
  ·exact tQ.nil
  ·cases h
def dvlT (t:Ty γ) (s:VL δ) (ρ:List Nat) (L:Bx):List AV→Option (γ×δ)
 |x::xs=>(t.dec [] x).bind fun y=>(s.dec ρ L xs).bind fun a=>some (y,a)
 |[]=>none
def vlT (t:Ty γ) (s:VL δ):VL (γ×δ) where
 enc L g:=t.enc g.1::s.enc L g.2
 dec:=dvlT t s
 need:=s.need
 nb L g:=⟨t.nb _ _,s.nb L g.2⟩
 ok ρ L vs g h:=by
  unfold dvlT at h
  split at h
  ·simp only[fc,ff] at h
   obtain ⟨y,hy,a,ha,rfl⟩:=h
   refine tQ.cons ?_ (s.ok ρ L _ _ ha)
   rw[ET _ _ (t.nb 0 y)]
   exact (t.ok [] 0 _ _ hy).Kj
  ·cases h
def dvlP (k:Nat) (s:VL δ) (ρ:List Nat) (L:Bx):List AV→Option δ
 | .ptr l off::xs=>bif decide (off=0∧ρ[k]? =some l) then s.dec ρ L xs else none
 |_=>none
def vlP (k:Nat) (s:VL δ):VL δ where
 enc L g:= .ptr k 0::s.enc L g
 dec:=dvlP k s
 need:=max (k+1) s.need
 nb L g:=⟨show k<_ by omega,sE (by omega) _ (s.nb L g)⟩
 ok ρ L vs g h:=by
  unfold dvlP at h
  split at h
  ·rename_i l off xs
   cases hc:decide (off=0∧ρ[k]? =some l) with
   |false=>simp [hc] at h
   |true=>
    simp only[hc,cond_true] at h
    obtain ⟨rfl,Ub⟩:=of_decide_eq_true hc
    refine tQ.cons ?_ (s.ok ρ L _ _ h)
    simp only[AV.ren,NK Ub]
    exact Sub.refl _
  ·cases h
def dvlM (k:Nat) (s:VL δ) (ρ:List Nat) (L:Bx):List AV→Option δ
 | .map l::xs=>bif decide (ρ[k]? =some l) then s.dec ρ L xs else none
 |_=>none
def vlM (k:Nat) (s:VL δ):VL δ where
 enc L g:= .map k::s.enc L g
 dec:=dvlM k s
 need:=max (k+1) s.need
 nb L g:=⟨show k<_ by omega,sE (by omega) _ (s.nb L g)⟩
 ok ρ L vs g h:=by
  unfold dvlM at h
  split at h
  ·rename_i l xs
   cases hc:decide (ρ[k]? =some l) with
   |false=>simp [hc] at h
   |true=>
    simp only[hc,cond_true] at h
    have hc:=of_decide_eq_true hc
    refine tQ.cons ?_ (s.ok ρ L _ _ h)
    simp only[AV.ren,NK hc]
    exact Sub.refl _
  ·cases h
def dvlF (f:FuncId) (c:VL γ) (s:VL δ) (ρ:List Nat) (L:Bx):List AV→Option (γ×δ)
 | .func (.func f') [] cs::xs=>bif decide (f'=f) then (c.dec ρ L cs).bind fun y=>(s.dec ρ L xs).bind fun a=>some (y,a) else none
 |_=>none
def vlF (f:FuncId) (c:VL γ) (s:VL δ):VL (γ×δ) where
 enc L g:= .func (.func f) [] (c.enc L g.1)::s.enc L g.2
 dec:=dvlF f c s
 need:=max c.need s.need
 nb L g:=⟨⟨trivial,sE (by omega) _ (c.nb L g.1)⟩,sE (by omega) _ (s.nb L g.2)⟩
 ok ρ L vs g h:=by
  unfold dvlF at h
  split at h
  ·rename_i f' cs xs
   cases hc:decide (f'=f) with
   |false=>simp [hc] at h
   |true=>
    simp only[hc,cond_true,fc,ff] at h
    obtain ⟨y,hy,a,ha,rfl⟩:=h
    obtain rfl:=of_decide_eq_true hc
    refine tQ.cons ?_ (s.ok ρ L _ _ ha)
    simp only[AV.ren,renL]
    exact (c.ok ρ L _ _ hy).func
  ·cases h
theorem vlN_f:(∀L g,vlN.enc L g=[])∧ ∀ρ L xs,vlN.dec ρ L xs=dvlN xs:=⟨fun _ _=>rfl,fun _ _ _=>rfl⟩
theorem vlT_f {t:Ty γ} {s:VL δ}:(∀L g,(vlT t s).enc L g=t.enc g.1::s.enc L g.2)∧ ∀ρ L xs,(vlT t s).dec ρ L xs=dvlT t s ρ L xs:=⟨fun _ _=>rfl,fun _ _ _=>rfl⟩
theorem vlP_f {k:Nat} {s:VL δ}:(∀L g,(vlP k s).enc L g= .ptr k 0::s.enc L g)∧ ∀ρ L xs,(vlP k s).dec ρ L xs=dvlP k s ρ L xs:=⟨fun _ _=>rfl,fun _ _ _=>rfl⟩
theorem vlM_f {k:Nat} {s:VL δ}:(∀L g,(vlM k s).enc L g= .map k::s.enc L g)∧ ∀ρ L xs,(vlM k s).dec ρ L xs=dvlM k s ρ L xs:=⟨fun _ _=>rfl,fun _ _ _=>rfl⟩
theorem vlF_f {f:FuncId} {c:VL γ} {s:VL δ}:(∀L g,(vlF f c s).enc L g= .func (.func f) [] (c.enc L g.1)::s.enc L g.2)∧ ∀ρ L xs,(vlF f c s).dec ρ L xs=dvlF f c s ρ L xs:=⟨fun _ _=>rfl,fun _ _ _=>rfl⟩
structure AL (γ:Type) where
 enc:Bx→γ→List AV
 dec:List Nat→Bx→List AObj→List AV→Option γ
 need:Nat
 nb: ∀L g,nbL need (enc L g)
 ok: ∀ρ L H n vs g,Cov ρ need n→dec ρ L H vs=some g→zD H n vs (renL (Oi ρ) (enc L g))
def pP:AL Unit where
 enc _ _:=[]
 dec _ _ _:=dvlN
 need:=0
 nb _ _:=trivial
 ok ρ L H n vs g _ h:=by
  unfold dvlN at h
  split at h
  ·exact zD.nil
  ·cases h
def dalT (t:Ty γ) (s:AL δ) (ρ:List Nat) (L:Bx) (H:List AObj):List AV→Option (γ×δ)
 |x::xs=>(t.dec H x).bind fun y=>(s.dec ρ L H xs).bind fun a=>some (y,a)
 |[]=>none
def qy (t:Ty γ) (s:AL δ):AL (γ×δ) where
 enc L g:=t.enc g.1::s.enc L g.2
 dec:=dalT t s
 need:=s.need
 nb L g:=⟨t.nb _ _,s.nb L g.2⟩
 ok ρ L H n vs g hc h:=by
  unfold dalT at h
  split at h
  ·simp only[fc,ff] at h
   obtain ⟨y,hy,a,ha,rfl⟩:=h
   refine zD.cons ?_ (s.ok ρ L H n _ _ hc ha)
   rw[ET _ _ (t.nb 0 y)]
   exact t.ok H n _ _ hy
  ·cases h
def dalC (c:Mn γ) (k:Nat) (s:AL δ) (ρ:List Nat) (L:Bx) (H:List AObj) (xs:List AV):Option (γ×δ):=
 (c.dec H (xs.take k)).bind fun y=>(s.dec ρ L H (xs.drop k)).bind fun a=>some (y,a)
theorem sW.append' {H:List AObj} {n:Nat}: ∀ {xs ys us vs:List AV},sW H n xs ys→zD H n us vs→zD H n (xs++us) (ys++vs)
 |[],_,_,_,rfl,h=>h
 |_::_,_,_,_,⟨y,zs,rfl,h,hs⟩,h2=>⟨y,zs++_,rfl,.inl h,sW.append' hs h2⟩
def Y4 (c:Mn γ) (k:Nat) (s:AL δ):AL (γ×δ) where
 enc L g:=c.enc g.1++s.enc L g.2
 dec:=dalC c k s
 need:=s.need
 nb L g:=GV (c.nb _ _) (s.nb L g.2)
 ok ρ L H n vs g hc h:=by
  unfold dalC at h
  simp only[fc,ff] at h
  obtain ⟨y,hy,a,ha,rfl⟩:=h
  rw[Ls,tR _ _ (c.nb 0 y),←List.take_append_drop k vs]
  exact sW.append' (c.ok H n _ _ hy) (s.ok ρ L H n _ _ hc ha)
def dalP (k:Nat) (s:AL δ) (ρ:List Nat) (L:Bx) (H:List AObj):List AV→Option δ
 | .ptr l off::xs=>bif decide (off=0∧ρ[k]? =some l) then s.dec ρ L H xs else none
 |_=>none
def tI (k:Nat) (s:AL δ):AL δ where
 enc L g:= .ptr k 0::s.enc L g
 dec:=dalP k s
 need:=max (k+1) s.need
 nb L g:=⟨show k<_ by omega,sE (by omega) _ (s.nb L g)⟩
 ok ρ L H n vs g hv h:=by
  unfold dalP at h
  split at h
  ·rename_i l off xs
   cases hc:decide (off=0∧ρ[k]? =some l) with
   |false=>simp [hc] at h
   |true=>
    simp only[hc,cond_true] at h
    obtain ⟨rfl,Ub⟩:=of_decide_eq_true hc
    refine zD.cons ?_ (s.ok ρ L H n _ _ (hv.mono (by omega)) h)
    have hl:=hv.lt k (by omega)
    simp only[AV.ren]
    rw[NK Ub] at hl ⊢
    exact Co.same hl
  ·cases h
def dalM (k:Nat) (s:AL δ) (ρ:List Nat) (L:Bx) (H:List AObj):List AV→Option δ
 | .map l::xs=>bif decide (ρ[k]? =some l) then s.dec ρ L H xs else none
 |_=>none
def xg (k:Nat) (s:AL δ):AL δ where
 enc L g:= .map k::s.enc L g
 dec:=dalM k s
 need:=max (k+1) s.need
 nb L g:=⟨show k<_ by omega,sE (by omega) _ (s.nb L g)⟩
 ok ρ L H n vs g hv h:=by
  unfold dalM at h
  split at h
  ·rename_i l xs
   cases hc:decide (ρ[k]? =some l) with
   |false=>simp [hc] at h
   |true=>
    simp only[hc,cond_true] at h
    have Ub:=of_decide_eq_true hc
    refine zD.cons ?_ (s.ok ρ L H n _ _ (hv.mono (by omega)) h)
    have hl:=hv.lt k (by omega)
    simp only[AV.ren]
    rw[NK Ub] at hl ⊢
    exact Co.same hl
  ·cases h
def dalA (k:Nat) (s:AL δ) (ρ:List Nat) (L:Bx) (H:List AObj):List AV→Option δ
 | .acc l m::xs=>bif decide (m=L k∧ρ[k]? =some l) then s.dec ρ L H xs else none
 |_=>none
def alA (k:Nat) (s:AL δ):AL δ where
 enc L g:= .acc k (L k)::s.enc L g
 dec:=dalA k s
 need:=max (k+1) s.need
 nb L g:=⟨show k<_ by omega,sE (by omega) _ (s.nb L g)⟩
 ok ρ L H n vs g hv h:=by
  unfold dalA at h
  split at h
  ·rename_i l m xs
   cases hc:decide (m=L k∧ρ[k]? =some l) with
   |false=>simp [hc] at h
   |true=>
    simp only[hc,cond_true] at h
    obtain ⟨rfl,Ub⟩:=of_decide_eq_true hc
    refine zD.cons ?_ (s.ok ρ L H n _ _ (hv.mono (by omega)) h)
    have hl:=hv.lt k (by omega)
    simp only[AV.ren]
    rw[NK Ub] at hl ⊢
    exact Co.same hl
  ·cases h
def dalF (f:FuncId) (c:VL γ) (s:AL δ) (ρ:List Nat) (L:Bx) (H:List AObj):List AV→Option (γ×δ)
 | .func (.func f') [] cs::xs=>bif decide (f'=f) then (c.dec ρ L cs).bind fun y=>(s.dec ρ L H xs).bind fun a=>some (y,a) else none
 |_=>none
def alF (f:FuncId) (c:VL γ) (s:AL δ):AL (γ×δ) where
 enc L g:= .func (.func f) [] (c.enc L g.1)::s.enc L g.2
 dec:=dalF f c s
 need:=max c.need s.need
 nb L g:=⟨⟨trivial,sE (by omega) _ (c.nb L g.1)⟩,sE (by omega) _ (s.nb L g.2)⟩
 ok ρ L H n vs g hv h:=by
  unfold dalF at h
  split at h
  ·rename_i f' cs xs
   cases hc:decide (f'=f) with
   |false=>simp [hc] at h
   |true=>
    simp only[hc,cond_true,fc,ff] at h
    obtain ⟨y,hy,a,ha,rfl⟩:=h
    obtain rfl:=of_decide_eq_true hc
    refine zD.cons ?_ (s.ok ρ L H n _ _ (hv.mono (by omega)) ha)
    simp only[AV.ren,renL]
    exact Co.sub (c.ok ρ L _ _ hy).func ⟨trivial,Mr (hv.mono (a:=c.need) (by omega)).lt _ (c.nb L y)⟩
  ·cases h
def dalZ (s:AL δ) (ρ:List Nat) (L:Bx) (H:List AObj):List AV→Option δ
 |_::xs=>s.dec ρ L H xs
 |_=>none
def alZ (s:AL δ):AL δ where
 enc L g:= .any::s.enc L g
 dec:=dalZ s
 need:=s.need
 nb L g:=⟨trivial,s.nb L g⟩
 ok ρ L H n vs g hv h:=by
  unfold dalZ at h
  split at h
  ·exact zD.cons Co.any (s.ok ρ L H n _ _ hv h)
  ·cases h
def Y5:Nat→AL δ→AL δ
 |0,s=>s
 |n+1,s=>alZ (Y5 n s)
theorem alN_f:(∀L g,pP.enc L g=[])∧(∀ρ L H xs,pP.dec ρ L H xs=dvlN xs)∧pP.need=0:=⟨fun _ _=>rfl,fun _ _ _ _=>rfl,rfl⟩
theorem alT_f {t:Ty γ} {s:AL δ}:(∀L g,(qy t s).enc L g=t.enc g.1::s.enc L g.2)∧(∀ρ L H xs,(qy t s).dec ρ L H xs=dalT t s ρ L H xs)∧(qy t s).need=s.need:=⟨fun _ _=>rfl,fun _ _ _ _=>rfl,rfl⟩
theorem alC_f {c:Mn γ} {k:Nat} {s:AL δ}:(∀L g,(Y4 c k s).enc L g=c.enc g.1++s.enc L g.2)∧(∀ρ L H xs,(Y4 c k s).dec ρ L H xs=dalC c k s ρ L H xs)∧(Y4 c k s).need=s.need:=⟨fun _ _=>rfl,fun _ _ _ _=>rfl,rfl⟩
theorem alP_f {k:Nat} {s:AL δ}:(∀L g,(tI k s).enc L g= .ptr k 0::s.enc L g)∧(∀ρ L H xs,(tI k s).dec ρ L H xs=dalP k s ρ L H xs)∧(tI k s).need=max (k+1) s.need:=⟨fun _ _=>rfl,fun _ _ _ _=>rfl,rfl⟩
theorem alM_f {k:Nat} {s:AL δ}:(∀L g,(xg k s).enc L g= .map k::s.enc L g)∧(∀ρ L H xs,(xg k s).dec ρ L H xs=dalM k s ρ L H xs)∧(xg k s).need=max (k+1) s.need:=⟨fun _ _=>rfl,fun _ _ _ _=>rfl,rfl⟩
theorem alA_f {k:Nat} {s:AL δ}:(∀L g,(alA k s).enc L g= .acc k (L k)::s.enc L g)∧(∀ρ L H xs,(alA k s).dec ρ L H xs=dalA k s ρ L H xs)∧(alA k s).need=max (k+1) s.need:=⟨fun _ _=>rfl,fun _ _ _ _=>rfl,rfl⟩
theorem alF_f {f:FuncId} {c:VL γ} {s:AL δ}:(∀L g,(alF f c s).enc L g= .func (.func f) [] (c.enc L g.1)::s.enc L g.2)∧(∀ρ L H xs,(alF f c s).dec ρ L H xs=dalF f c s ρ L H xs)∧(alF f c s).need=max c.need s.need:=⟨fun _ _=>rfl,fun _ _ _ _=>rfl,rfl⟩
theorem alZ_f {s:AL δ}:(∀L g,(alZ s).enc L g= .any::s.enc L g)∧(∀ρ L H xs,(alZ s).dec ρ L H xs=dalZ s ρ L H xs)∧(alZ s).need=s.need:=⟨fun _ _=>rfl,fun _ _ _ _=>rfl,rfl⟩
end specs
end Go.Abs
namespace Go.Abs
theorem tN {n m:Nat} (h:n≤m) (x:AObj) (k:objNb n x):objNb m x:=by
 cases x with
 |cells cs=>exact sE h _ k
 |acc uO sz rows=>exact V6 h _ k
 |map es=>exact fun p hp=>⟨AV.P9 h _ (k p hp).1,AV.P9 h _ (k p hp).2⟩
 |loop lk slots st uL=>exact sE h _ k
 |iter s p=>trivial
 |dead=>trivial
theorem imp_select {ys:List AV} {H Ys:List AObj} {ρ:List Nat} {low:Nat} (hlen:ρ.length=Ys.length) (hnd:ρ.Nodup) (hid: ∀k,k<low→ρ[k]? =some k)
 (hl:low≤Ys.length) (hnb:nbL Ys.length ys) (DK: ∀y∈Ys,objNb Ys.length y)
 (DF: ∀ (i k:Nat) (y:AObj),ρ[i]? =some k→Ys[i]? =some y→H[k]? =some (y.ren (Oi ρ))):
 Fi ⟨renL (Oi ρ) ys,H,low,[]⟩ ⟨ys,Ys,low,[]⟩:=by
 intro C φ a w S
 let φ':Nat→Value:=fun k=>φ (Oi ρ k)
 have hρ: ∀k,k<Ys.length→ρ[k]? =some (Oi ρ k):=by
  intro k hk
  have hk':k<ρ.length:=by omega
  rw[NK (fj hk')]
  exact fj hk'
 have ql: ∀ (k:Nat) (y:AObj),Ys[k]? =some y→k<Ys.length∧H[Oi ρ k]? =some (y.ren (Oi ρ)):=by
  intro k y hy
  have hk:=(fk.1 hy).1
  exact ⟨hk,DF k _ y (hρ k hk) hy⟩
 have hfix: ∀k,k<low→Oi ρ k=k:=fun k hk=>NK (hid k hk)
 have hinj: ∀k k',k<Ys.length→k'<Ys.length→Oi ρ k=Oi ρ k'→k=k':=by
  intro k k' hk hk' he
  have h1:=hρ k hk
  have h2:=hρ k' hk'
  rw[←he] at h2
  have e1:=Oc ρ k _ hnd h1
  have e2:=Oc ρ k' _ hnd h2
  rw[e1] at e2;exact gy e2
 have B6: ∀b o,Ck φ' Ys b o→Ck φ H b o:=by
  rintro b o ⟨k,z,hz,hm⟩
  exact ⟨_,_,(ql k z hz).2,Jo.2 hm⟩
 have un:UnLe Ys.length (Oi ρ) (C.env φ H w) (C.env φ' Ys w):=by
  refine ⟨fz _,fun k hk=>⟨rfl,?_⟩,fun b o u hm hc=>⟨fun h=>hm (h.imp (B6 b o) id),hc⟩⟩
  show oR Ys[k]? =oR H[Oi ρ k]?
  have hy:=fj hk
  rw[(ql k _ hy).2,hy,BA]
 have At:uG C φ' Ys w [] a.defers:=S.defers.step' (fun xs vs ⟨f,hf⟩ _=>(by cases hf)) (fun _ _ _=>rfl) (fun k z b hz hb=> .inl ⟨_,_,(ql k z hz).2,zR.2 hb⟩)
 refine ⟨φ',{slots:=m7.Aq un _ _ hnb S.slots,defers:=At,objs:= ?_,apart:= ?_,vk:= ?_,size:=S.size,old:=S.old,qQ:=S.qQ,A9:= ?_,wG:=S.wG,rest:=S.rest,low:=⟨S.low.1,hl⟩,names:= ?_}⟩
 ·intro k z hz
  exact qV.Aq un (DK z (fA hz)) (fun _ _=>rfl) (S.objs _ _ (ql k z hz).2)
 ·intro k k' z z' b hz XB hb hb'
  refine hinj k k' (ql k z hz).1 (ql k' z' XB).1 (S.apart _ _ _ _ b (ql k z hz).2 (ql k' z' XB).2 (zR.2 hb) (zR.2 hb'))
 ·intro k z b o hz hb
  exact S.vk _ _ b o (ql k z hz).2 (zR.2 hb)
 ·intro k z b o hz hm hb
  exact S.A9 _ _ b o (ql k z hz).2 (Jo.2 hm) hb
 ·intro k hk
  have hk':k<low:=by have:=S.low.1;simp only at this;omega
  have hn:=S.names k hk
  have e1:φ' k=φ k:=by show φ (Oi ρ k)=φ k;rw[hfix k hk']
  have e2:oR Ys[k]? =oR H[k]? :=by
   have hy:=fj (show k<Ys.length by omega)
   have:=(ql k _ hy).2
   rw[hfix k hk'] at this
   rw[this,hy,BA]
  show (φ' k=_∧(oR Ys[k]? =_∨oR Ys[k]? =none))∨((∃m,_∧ ∀m',oR Ys[k]? =some m'→_)∧_)
  rw[e1,e2]
  exact hn
section objs
variable {α β γ δ:Type}
structure OG (γ:Type) where
 enc:Bx→γ→AObj
 dec:List Nat→Bx→List AObj→AObj→Option γ
 len:γ→Nat
 need:Nat
 nb: ∀L g,objNb need (enc L g)
 ok: ∀ρ L H n x g,Cov ρ need n→dec ρ L H x=some g→GW H n x ((enc L g).ren (Oi ρ))
 Sx: ∀ρ L H x g,dec ρ L H x=some g→len g=(oR (some x)).getD 0
theorem Qp {α β:Type} {f:α→Option β}: ∀ {xs:List α} {ys:List β},mapO f xs=some ys→ys.length=xs.length
 |[],ys,h=>by simp only[mapO,ff] at h;subst h;rfl
 |x::xs,ys,h=>by
  simp only[mapO,fc,ff] at h
  obtain ⟨y,hy,zs,hz,rfl⟩:=h
  simp [Qp hz]
def ogA (uO:Bool) (r:Row α):OG (List α) where
 enc _ xs:= .acc uO r.sz (mp r.enc xs)
 dec _ _ _:=daT uO r
 len xs:=xs.length
 need:=0
 nb L g:=wN g
 ok ρ L H n x g _ h:=by
  have:=(NQ uO r).ok H n x g h
  rw[show (AObj.acc uO r.sz (mp r.enc g)).ren (Oi ρ)= .acc uO r.sz (mp r.enc g) from (NQ uO r).ren _ g]
  exact this
 Sx ρ L H x g h:=by
  unfold daT at h
  split at h
  ·split at h
   ·exact Qp h
   ·cases h
  ·cases h
def docC (c:AL γ) (ρ:List Nat) (L:Bx) (H:List AObj):AObj→Option γ
 | .cells cs=>c.dec ρ L H cs
 |_=>none
def BF (c:AL γ):OG γ where
 enc L g:= .cells (c.enc L g)
 dec:=docC c
 len _:=0
 need:=c.need
 nb L g:=c.nb L g
 ok ρ L H n x g hv h:=by
  unfold docC at h
  split at h
  ·exact .inr (.inr (.inl ⟨_,_,rfl,rfl,c.ok ρ L H n _ _ hv h⟩))
  ·cases h
 Sx ρ L H x g h:=by
  unfold docC at h
  split at h
  ·rfl
  ·cases h
theorem ogA_f {uO:Bool} {r:Row α}:(∀L g,(ogA uO r).enc L g= .acc uO r.sz (mp r.enc g))∧(∀ρ L H x,(ogA uO r).dec ρ L H x=daT uO r x)∧(∀g,(ogA uO r).len g=g.length)∧(ogA uO r).need=0:=⟨fun _ _=>rfl,fun _ _ _ _=>rfl,fun _=>rfl,rfl⟩
theorem ogC_f {c:AL γ}:(∀L g,(BF c).enc L g= .cells (c.enc L g))∧(∀ρ L H x,(BF c).dec ρ L H x=docC c ρ L H x)∧(∀g,(BF c).len g=0)∧(BF c).need=c.need:=⟨fun _ _=>rfl,fun _ _ _ _=>rfl,fun _=>rfl,rfl⟩
structure OL (β:Type) where
 enc:Bx→β→List AObj
 dec:List Nat→Bx→List AObj→List AObj→Option β
 lens:β→Bx
 size:Nat
 need:Nat
 sz: ∀L b,(enc L b).length=size
 nb: ∀L b,∀y∈enc L b,objNb need y
 ok: ∀ρ L H n xs b,Cov ρ need n→dec ρ L H xs=some b→xs.length=size∧ ∀ (i:Nat) (y:AObj),(enc L b)[i]? =some y→ ∃x,xs[i]? =some x∧GW H n x (y.ren (Oi ρ))
 EW: ∀ρ L H xs b,dec ρ L H xs=some b→xs.length=size
 Pu: ∀ρ L H xs b,dec ρ L H xs=some b→ ∀k,lens b k=(oR xs[k]?).getD 0
def dolN:List AObj→Option Unit
 |[]=>some ()
 |_=>none
def wX:OL Unit where
 enc _ _:=[]
 dec _ _ _:=dolN
 lens _ _:=0
 size:=0
 need:=0
 sz _ _:=rfl
 nb _ _:=by simp
 ok ρ L H n xs b _ h:=by
  unfold dolN at h
  split at h
  ·exact ⟨rfl,by simp⟩
  ·cases h
 EW ρ L H xs b h:=by
  unfold dolN at h
  split at h
  ·rfl
  ·cases h
 Pu ρ L H xs b h k:=by
  unfold dolN at h
  split at h
  ·rfl
  ·cases h
def dolC (o:OG γ) (s:OL β) (ρ:List Nat) (L:Bx) (H:List AObj):List AObj→Option (γ×β)
 |x::xs=>(o.dec ρ L H x).bind fun y=>(s.dec ρ L H xs).bind fun b=>some (y,b)
 |[]=>none
def QY (a:Nat) (f:Bx):Bx
 |0=>a
 |k+1=>f k
def sZ (o:OG γ) (s:OL β):OL (γ×β) where
 enc L b:=o.enc L b.1::s.enc L b.2
 dec:=dolC o s
 lens b:=QY (o.len b.1) (s.lens b.2)
 size:=s.size+1
 need:=max o.need s.need
 sz L b:=by rw[fE,s.sz]
 nb L b y hy:=by
  simp only[fH] at hy
  rcases hy with rfl|hy
  ·exact tN (by omega) _ (o.nb L _)
  ·exact tN (by omega) _ (s.nb L _ y hy)
 ok ρ L H n xs b hv h:=by
  unfold dolC at h
  split at h
  ·rename_i x xs
   simp only[fc,ff] at h
   obtain ⟨y,hy,b,hb,rfl⟩:=h
   obtain ⟨h1,h2⟩:=s.ok ρ L H n _ _ (hv.mono (by omega)) hb
   refine ⟨by rw[fE,h1],fun i z hz=> ?_⟩
   cases i with
   |zero=>simp at hz;subst hz;exact ⟨x,by simp,o.ok ρ L H n _ _ (hv.mono (by omega)) hy⟩
   |succ i=>simp at hz;obtain ⟨q,hq,hc⟩:=h2 i z hz;exact ⟨q,by simpa using hq,hc⟩
  ·cases h
 EW ρ L H xs b h:=by
  unfold dolC at h
  split at h
  ·simp only[fc,ff] at h
   obtain ⟨y,hy,b,hb,rfl⟩:=h
   rw[fE,s.EW _ _ _ _ _ hb]
  ·cases h
 Pu ρ L H xs b h k:=by
  unfold dolC at h
  split at h
  ·simp only[fc,ff] at h
   obtain ⟨y,hy,b,hb,rfl⟩:=h
   cases k with
   |zero=>simp only[QY,fQ];exact o.Sx ρ L H _ _ hy
   |succ k=>simp only[QY,gd];exact s.Pu ρ L H _ _ hb k
  ·cases h
theorem olN_f:(∀L b,wX.enc L b=[])∧(∀ρ L H xs,wX.dec ρ L H xs=dolN xs)∧(∀b k,wX.lens b k=0)∧wX.size=0∧wX.need=0:=⟨fun _ _=>rfl,fun _ _ _ _=>rfl,fun _ _=>rfl,rfl,rfl⟩
theorem olC_f {o:OG γ} {s:OL β}:(∀L b,(sZ o s).enc L b=o.enc L b.1::s.enc L b.2)∧(∀ρ L H xs,(sZ o s).dec ρ L H xs=dolC o s ρ L H xs)∧(∀b,(sZ o s).lens b=QY (o.len b.1) (s.lens b.2))∧(sZ o s).size=s.size+1∧(sZ o s).need=max o.need s.need:=⟨fun _ _=>rfl,fun _ _ _ _=>rfl,fun _=>rfl,rfl,rfl⟩
end objs
end Go.Abs
