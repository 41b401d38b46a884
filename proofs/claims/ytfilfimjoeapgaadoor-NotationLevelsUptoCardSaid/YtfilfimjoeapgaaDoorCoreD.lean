/- A part of the proof: abstract states and the rules for them. -/
import Derived.Test.YtfilfimjoeapgaaDoorCoreC
import Derived.Below
import Derived.Laws.AppendOwn
import Derived.Lib.Join
import Derived.Lib.SplitLaws
import Derived.Lib.IndexAny
import Derived.Lib.IndexMore
import Derived.Deep.Draws
import Derived.RecoverIn
set_option linter.all false
open Option renaming bind_eq_some_iff → gA,map_eq_some_iff → gG
open Option.some renaming injEq → gB
open List renaming getElem?_eq_some_iff → gC,getElem?_eq_getElem → gD,replicate → gE,range → gH,getElem?_map → gJ,getElem?_of_mem → gL,take_left' → gM,drop_left' → gN,map_congr_left → gO,take_of_length_le → gQ,drop_eq_nil_of_le → gR,getElem?_set_self → gS,getElem?_eq_none → gT,mem_of_getElem? → gU,mem_map → gW,map_map → gX,range' → gY
open Bool renaming and_eq_true → gF,eq_iff_iff → gP
open Array renaming replicate → gI,toList_append → gV
open Prod.mk renaming injEq → gK
namespace Go.Abs
inductive Loc where
 |arg (i:Nat) (cs:List Nat)
 |obj (k c:Nat) (cs:List Nat)
def nameV:AV→Option Nat
 | .ptr l _=>some l
 | .acc l _=>some l
 | .map l=>some l
 |_=>none
def down:List Nat→AV→Option AV
 |[],v=>some v
 |i::is,.func _ _ cap=>match cap[i]? with
  |some u=>down is u
  |none=>none
 |_::_,_=>none
def cellAt (c:Nat):Option AObj→Option AV
 |some (.cells xs)=>xs[c]?
 |some (.loop _ xs _ _)=>xs[c]?
 |_=>none
def locN (args:List AV) (H:List AObj) (ρ:List Nat):Loc→Option Nat
 | .arg i cs=>(args[i]?).bind fun v=>(down cs v).bind nameV
 | .obj k c cs=>(ρ[k]?).bind fun l=>(cellAt c H[l]?).bind fun v=>(down cs v).bind nameV
def Uz (args:List AV) (H:List AObj):List Loc→List Nat→Option (List Nat)
 |[],ρ=>some ρ
 |p::ps,ρ=>(locN args H ρ p).bind fun l=>Uz args H ps (ρ++[l])
theorem Sy {args:List AV} {H:List AObj}: ∀ {ps:List Loc} {ρ ρ':List Nat},Uz args H ps ρ=some ρ'→ ∃ls,ρ'=ρ++ls
 |[],ρ,ρ',h=>by simp only[Uz,gB] at h;exact ⟨[],by rw[h,List.append_nil]⟩
 |p::ps,ρ,ρ',h=>by
  simp only[Uz,gA] at h
  obtain ⟨l,_,h⟩:=h
  obtain ⟨ls,hl⟩:=Sy h
  exact ⟨l::ls,by rw[hl,List.append_assoc];rfl⟩
def Oj (xs:List AObj) (k:Nat):Nat:=(oR xs[k]?).getD 0
theorem callXT {P:Program} {T:Value→World→Array Value→(Ending→World→Prop)→Prop} (hT:MT T) {l0:Nat} {σ:AState} {Gt args:List AV} {Ys Ys':List AObj} {O:wo} {ρ:List Nat} (hG:XY P T args Ys (fun o H'=>o=O∧H'=Ys')) (hnd:ρ.Nodup) (hlen:ρ.length=Ys.length) (hlen':ρ.length≤Ys'.length)
 (hz: ∀φ:Nat→Value,T (φ (qz ρ σ.heap.length 0))=T (φ l0))
 (DF: ∀ (i k:Nat),ρ[i]? =some k→ ∃x y,σ.heap[k]? =some x∧Ys[i]? =some y∧GW σ.heap σ.heap.length x (y.ren (qz ρ σ.heap.length))) (hargs:zD σ.heap σ.heap.length Gt (renL (qz ρ σ.heap.length) args)):
 Js P T l0 Gt σ (fun o H'=>o=O.ren (qz ρ σ.heap.length)∧H'=vo ρ σ.heap Ys'):=by
 intro C φ a w hP S vs hr
 let H1:=tG σ.heap ρ (Ys.map (AObj.ren (qz ρ σ.heap.length)))
 have Xq:H1.length=σ.heap.length:=wH _ _ _
 have S0:qq C φ ⟨σ.slots++Gt,σ.heap,σ.low,σ.df⟩ {tmps:=a.tmps++vs,defers:=a.defers} w:={S with slots:=by simpa using S.slots.append hr,defers:=S.defers}
 have hat: ∀ (i k:Nat),ρ[i]? =some k→ ∃x y,σ.heap[k]? =some x∧Ys[i]? =some y∧GW σ.heap σ.heap.length x (y.ren (qz ρ σ.heap.length))∧H1[k]? =some (y.ren (qz ρ σ.heap.length)):=by
  intro i k hi
  obtain ⟨x,y,hx,hy,hc⟩:=DF i k hi
  exact ⟨x,y,hx,hy,hc,Jr ρ σ.heap _ i k _ hnd hi (by rw[gJ,hy];rfl) (gC.1 hx).1⟩
 have hw:Up ⟨σ.slots++Gt,σ.heap,σ.low,σ.df⟩ ⟨σ.slots++renL (qz ρ σ.heap.length) args,H1,σ.low,σ.df⟩:=by
  refine ⟨⟨⟨rfl,by show σ.low≤H1.length;rw[Xq];exact S.low.2⟩,rfl,by show Wf H1.length σ.df;rw[Xq];exact FB.nb S.defers.2.2⟩,?_,?_⟩
  ·show zD σ.heap H1.length _ _
   rw[Xq]
   exact zD.append (zD.same (m7.nb _ _ S.slots)) hargs
  ·show Ml σ.heap H1.length σ.heap H1
   rw[Xq]
   refine Kg fun k y hy=> ?_
   by_cases hk:k∈ρ
   ·obtain ⟨i,hi⟩:=gL hk
    obtain ⟨x,y',hx,_,hc,hy'⟩:=hat i k hi
    rw[hy'] at hy;cases hy
    exact ⟨x,hx,hc⟩
   ·have hy2:σ.heap[k]? =some y:=by rw[←hy];exact (B7 ρ σ.heap _ k hk).symm
    exact ⟨y,hy2,.inr (.inl ⟨rfl,Jp (S.objs k y hy2)⟩)⟩
 have S1:=hw.sim S0
 have MA:=S1.slots
 simp only[gV] at MA
 have hsz:a.tmps.toList.length=σ.slots.length:=S.slots.length
 have h1:=MA.take σ.slots.length
 have h2:=MA.drop σ.slots.length
 rw[gM rfl,gM hsz] at h1
 rw[gN rfl,gN hsz] at h2
 have S2:qq C φ {σ with heap:=H1} a w:={S1 with slots:=h1,defers:=S1.defers}
 have xX:Js P T l0 (renL (qz ρ H1.length) args) {σ with heap:=H1} (fun o H'=>o=O.ren (qz ρ H1.length)∧H'=vo ρ σ.heap Ys'):=by
  refine Od (σ:={σ with heap:=H1}) hT hG ρ hlen hnd (by show ∀φ:Nat→Value,T (φ (qz ρ H1.length 0))=T (φ l0);rw[Xq];exact hz) (tQ.refl _) ?_ ?_
  ·intro i k x hi hx
   obtain ⟨x',y,_,hy,_,hy'⟩:=hat i k hi
   rw[hy] at hx;cases hx
   show H1[k]? =some (x.ren (qz ρ H1.length))
   rw[hy',Xq]
  ·rintro o H' ⟨rfl,rfl⟩
   refine ⟨rfl,?_⟩
   show vo ρ H1 H'=_
   unfold vo
   rw[Xq]
   simp only[H1]
   rw[IE ρ σ.heap _ _ hnd (by rw[List.length_map];exact hlen')]
 rw[Xq] at xX
 exact xX C φ a w hP S2 vs h2
section entX
variable {α β α' β':Type}
def Sz (base:List Nat) (pos:List Loc) (os:OL β) (as:AL α) (os':OL β') (rs:AL α') (F:β→α→Option (β'×α')):Ent:=fun args H=>
 (Uz args H pos base).bind fun ρ=>bif nodupB ρ&&(decide (os.need≤ρ.length)&&(decide (as.need≤ρ.length)&&decide (ρ.length≤os'.size))) then
   (mapO (Qn H) ρ).bind fun xs=>(os.dec ρ (Oj xs) H xs).bind fun b=>(as.dec ρ (Oj xs) H args).bind fun a=>(F b a).bind fun r=>
     some ((uR (rs.enc (os'.lens r.1) r.2)).ren (qz ρ H.length),vo ρ H (os'.enc (os'.lens r.1) r.1)) else none
def entX (pos:List Loc) (os:OL β) (as:AL α) (os':OL β') (rs:AL α') (F:β→α→Option (β'×α')):Ent:=Sz [] pos os as os' rs F
noncomputable def entY (pos:List Loc) (os:OL β) (as:AL α) (os':OL β') (rs:AL α') (F:β→α→Option (β'×α')) (l:Nat):Ent:=fun args H=>
 match H[l]? with
 |some (.loop k _ _ _)=>pcond (args.length=k.ps.size) (Sz [l] pos os as os' rs F args H)
 |_=>none
theorem Y6 {P:Program} {T:Value→World→Array Value→(Ending→World→Prop)→Prop} (hT:MT T) {l0:Nat} {base:List Nat} {pos:List Loc} {os:OL β} {as:AL α} {os':OL β'} {rs:AL α'} {F:β→α→Option (β'×α')}
 (hz: ∀ (ls:List Nat) (n:Nat) (φ:Nat→Value),T (φ (qz (base++ls) n 0))=T (φ l0)) {args:List AV} {σ:AState} {r:AV} {H':List AObj} (he:Sz base pos os as os' rs F args σ.heap=some (r,H')):
 ∃b a q,F b a=some q∧(XY P T (as.enc (os.lens b) a) (os.enc (os.lens b) b) (fun o H'=>o= .ret (uR (rs.enc (os'.lens q.1) q.2))∧H'=os'.enc (os'.lens q.1) q.1)→Js P T l0 args σ (fun o DE=>o= .ret r∧DE=H')):=by
 unfold Sz at he
 simp only[gA] at he
 obtain ⟨ρ,hρ,he⟩:=he
 cases hc:(nodupB ρ&&(decide (os.need≤ρ.length)&&(decide (as.need≤ρ.length)&&decide (ρ.length≤os'.size)))) with
 |false=>simp [hc] at he
 |true=>
  simp only[hc,cond_true,gA,gB,gK] at he
  obtain ⟨xs,hxs,b,hb,a,ha,q,hq,rfl,rfl⟩:=he
  refine ⟨b,a,q,hq,fun hfn=> ?_⟩
  simp only[gF,decide_eq_true_eq] at hc
  obtain ⟨hnd,n1,n2,n3⟩:=hc
  obtain ⟨h1,h2⟩:=Jy hxs
  have Y7: ∀m,m≤ρ.length→Cov ρ m σ.heap.length:=by
   intro m hm k hk
   have hk':k<ρ.length:=by omega
   obtain ⟨x,hx,hx'⟩:=h2 k _ (gD hk')
   exact ⟨_,gD hk',(gC.1 hx').1⟩
  have hL:os.lens b=Oj xs:=funext fun k=>os.Pu ρ _ _ _ _ hb k
  obtain ⟨h3,h4⟩:=os.ok ρ _ σ.heap σ.heap.length _ _ (Y7 _ n1) hb
  have Lr: ∀l,l<ρ.length→Oi ρ l=qz ρ σ.heap.length l:=fun l hl=>by unfold qz Oi;rw[if_pos hl]
  rw[←hL] at ha h4
  obtain ⟨ls,hls⟩:=Sy hρ
  refine callXT hT hfn (GM hnd) (by rw[h1,h3,os.sz]) (by rw[os'.sz];exact n3) (fun φ=>by rw[hls];exact hz ls _ φ) ?_ ?_
  ·intro i k hi
   obtain ⟨x,hx,hx'⟩:=h2 i k hi
   have hlt:i<(os.enc (os.lens b) b).length:=by rw[os.sz,←h3,←h1];exact (gC.1 hi).1
   have hy:=gD hlt
   obtain ⟨x2,GP,hcc⟩:=h4 i _ hy
   rw[hx] at GP;cases GP
   refine ⟨x,_,hx',hy,?_⟩
   rw[←objRen_congr (n:=os.need) (fun l hl=>Lr l (by omega)) _ (os.nb _ _ _ (gU hy))]
   exact hcc
  ·rw[←Az (n:=as.need) (fun l hl=>Lr l (by omega)) _ (as.nb _ _)]
   exact as.ok ρ _ σ.heap _ _ _ (Y7 _ n2) ha
theorem zF {P:Program} {f:FuncId} {pos:List Loc} {os:OL β} {as:AL α} {os':OL β'} {rs:AL α'} {F:β→α→Option (β'×α')}
 (h: ∀b a r,F b a=some r→Ob P f (as.enc (os.lens b) a) (os.enc (os.lens b) b) (fun o H'=>o= .ret (uR (rs.enc (os'.lens r.1) r.2))∧H'=os'.enc (os'.lens r.1) r.1)):HR P f (entX pos os as os' rs F):=by
 intro args σ r H' he
 obtain ⟨b,a,q,hq,xX⟩:=Y6 (P:=P) (T:=fun _ w vs R=>Calls P f vs w R) (l0:=0) NB (fun _ _ _=>rfl) he
 exact ⟨(h b a q hq).1,xX (h b a q hq).2⟩
theorem entY_ok {P:Program} {pos:List Loc} {os:OL β} {as:AL α} {os':OL β'} {rs:AL α'} {F:β→α→Option (β'×α')}
 (h: ∀b a r,F b a=some r→XY P (Nx P) (as.enc (os.lens b) a) (os.enc (os.lens b) b) (fun o H'=>o= .ret (uR (rs.enc (os'.lens r.1) r.2))∧H'=os'.enc (os'.lens r.1) r.1))
 {l:Nat} {args:List AV} {σ:AState} {r:AV} {H':List AObj} (he:entY pos os as os' rs F l args σ.heap=some (r,H')):GR P l args σ (fun o DE=>o= .ret r∧DE=H'):=by
 unfold entY at he
 split at he
 ·rename_i k slots st uL hk
  rw[pZ] at he
  obtain ⟨hlen,he⟩:=he
  obtain ⟨b,a,q,hq,xX⟩:=Y6 (P:=P) (T:=Nx P) (l0:=l) XZ (fun ls n φ=>by simp [qz]) he
  exact ⟨⟨k,slots,st,uL,hk,hlen⟩,xX (h b a q hq)⟩
 ·cases he
noncomputable def Y8:List (Nat×(Nat→Ent))→Nat→Ent
 |[],_,_,_=>none
 |(l',e)::t,l,args,H=>bif l==l' then e l args H else Y8 t l args H
theorem Y9 {P:Program}: ∀ (l:Nat) (args:List AV) (σ:AState) (r:AV) (H':List AObj),Y8 [] l args σ.heap=some (r,H')→GR P l args σ (fun o DE=>o= .ret r∧DE=H'):=by
 intro l args σ r H' h;cases h
theorem WJ {P:Program} {l':Nat} {e:Nat→Ent} {t:List (Nat×(Nat→Ent))} (h1: ∀ (l:Nat) (args:List AV) (σ:AState) (r:AV) (H':List AObj),e l args σ.heap=some (r,H')→GR P l args σ (fun o DE=>o= .ret r∧DE=H'))
 (h2: ∀ (l:Nat) (args:List AV) (σ:AState) (r:AV) (H':List AObj),Y8 t l args σ.heap=some (r,H')→GR P l args σ (fun o DE=>o= .ret r∧DE=H')):
 ∀ (l:Nat) (args:List AV) (σ:AState) (r:AV) (H':List AObj),Y8 ((l',e)::t) l args σ.heap=some (r,H')→GR P l args σ (fun o DE=>o= .ret r∧DE=H'):=by
 intro l args σ r H' h
 simp only[Y8] at h
 cases hl:l==l' with
 |true=>rw[hl,cond_true] at h;exact h1 l args σ r H' h
 |false=>rw[hl,cond_false] at h;exact h2 l args σ r H' h
end entX
section outX
variable {α β γ:Type}
def outL (xs:List AV) (pos:List Loc) (base:List Nat) (low:Nat) (os:OL β) (s:AL α) (σ:AState):Option (β×α):=
 (Uz xs σ.heap pos base).bind fun ρ=>bif nodupB ρ&&((σ.low==low)&&(σ.df.isEmpty&&(decide (low≤os.size)&&(decide (os.need≤os.size)&&decide (s.need≤os.size))))) then
   (mapO (Qn σ.heap) ρ).bind fun ys=>(os.dec ρ (Oj ys) σ.heap ys).bind fun b=>(s.dec ρ (Oj ys) σ.heap xs).bind fun a=>some (b,a) else none
def Ca (P:Program) (rs:List ResultVar) (pos:List Loc) (base:List Nat) (low:Nat) (os:OL β) (s:AL α) (σ:AState):Option (β×α):=
 (zE P σ rs).bind fun xs=>outL xs pos base low os s σ
theorem Rq {xs:List AV} {pos:List Loc} {base:List Nat} {low:Nat} {os:OL β} {s:AL α} {σ:AState} {r:β×α} (hbase:base=gH low) (h:outL xs pos base low os s σ=some r):
 σ.df=[]∧Fi ⟨xs,σ.heap,σ.low,[]⟩ ⟨s.enc (os.lens r.1) r.2,os.enc (os.lens r.1) r.1,σ.low,[]⟩:=by
 unfold outL at h
 simp only[gA] at h
 obtain ⟨ρ,hρ,h⟩:=h
 cases hc:(nodupB ρ&&((σ.low==low)&&(σ.df.isEmpty&&(decide (low≤os.size)&&(decide (os.need≤os.size)&&decide (s.need≤os.size)))))) with
 |false=>simp [hc] at h
 |true=>
  simp only[hc,cond_true,gA,gB] at h
  obtain ⟨ys,hys,b,hb,a,ha,rfl⟩:=h
  simp only[gF,decide_eq_true_eq,beq_iff_eq] at hc
  obtain ⟨hnd,h1,hdf,n1,n2,n3⟩:=hc
  refine ⟨by simpa using hdf,?_⟩
  obtain ⟨ls,hls⟩:=Sy hρ
  obtain ⟨g1,g2⟩:=Jy hys
  have hL:os.lens b=Oj ys:=funext fun k=>os.Pu ρ _ _ _ _ hb k
  rw[←hL] at hb ha
  have hsize:ρ.length=os.size:=by
   have:ys.length=os.size:=os.EW _ _ _ _ _ hb
   rw[g1,this]
  intro C φ a' w S
  have Y7: ∀m,m≤ρ.length→Cov ρ m σ.heap.length:=by
   intro m hm k hk
   have hk':k<ρ.length:=by omega
   obtain ⟨x,hx,hx'⟩:=g2 k _ (gD hk')
   exact ⟨_,gD hk',(gC.1 hx').1⟩
  let Ys:=os.enc (os.lens b) b
  have hYl:Ys.length=os.size:=os.sz _ _
  let H1:=tG σ.heap ρ (Ys.map (AObj.ren (Oi ρ)))
  have Xq:H1.length=σ.heap.length:=wH _ _ _
  obtain ⟨_,h4⟩:=os.ok ρ _ σ.heap σ.heap.length _ _ (Y7 _ (by omega)) hb
  have hat: ∀ (i k:Nat) (y:AObj),ρ[i]? =some k→Ys[i]? =some y→ ∃x,σ.heap[k]? =some x∧GW σ.heap σ.heap.length x (y.ren (Oi ρ))∧H1[k]? =some (y.ren (Oi ρ)):=by
   intro i k y hi hy
   obtain ⟨x,hx,hx'⟩:=g2 i k hi
   obtain ⟨x2,GP,hcc⟩:=h4 i y hy
   rw[hx] at GP;cases GP
   exact ⟨x,hx',hcc,Jr ρ σ.heap _ i k _ (GM hnd) hi (by rw[gJ,hy];rfl) (gC.1 hx').1⟩
  have hw:Up ⟨xs,σ.heap,σ.low,[]⟩ ⟨renL (Oi ρ) (s.enc (os.lens b) a),H1,σ.low,[]⟩:=by
   refine ⟨⟨⟨rfl,by show σ.low≤H1.length;rw[Xq];exact S.low.2⟩,rfl,N5⟩,?_,?_⟩
   ·show zD σ.heap H1.length _ _
    rw[Xq]
    exact s.ok ρ _ σ.heap _ _ _ (Y7 _ (by omega)) ha
   ·show Ml σ.heap H1.length σ.heap H1
    rw[Xq]
    refine Kg fun k y hy=> ?_
    by_cases hk:k∈ρ
    ·obtain ⟨i,hi⟩:=gL hk
     have hlt:i<Ys.length:=by rw[hYl,←hsize];exact (gC.1 hi).1
     obtain ⟨x,hx,hc,hy'⟩:=hat i k _ hi (gD hlt)
     rw[hy'] at hy;cases hy
     exact ⟨x,hx,hc⟩
    ·have hy2:σ.heap[k]? =some y:=by rw[←hy];exact (B7 ρ σ.heap _ k hk).symm
     exact ⟨y,hy2,.inr (.inl ⟨rfl,Jp (S.objs k y hy2)⟩)⟩
  obtain ⟨φ',S1⟩:=hw.imp C φ _ w S
  refine imp_select (ρ:=ρ) (Ys:=Ys) (by rw[hsize,hYl]) (GM hnd) ?_ (by rw[hYl];omega) (sE (by omega) _ (s.nb _ _)) (fun y hy=>tN (by omega) _ (os.nb _ _ y hy)) ?_ C φ' a' w S1
  ·intro k hk
   rw[hls,hbase,List.getElem?_append_left (by rw[List.length_range];omega),List.getElem?_range (by omega)]
  ·intro i k y hi hy
   obtain ⟨x,_,_,hy'⟩:=hat i k y hi hy
   exact hy'
theorem AA {P:Program} {rs:List ResultVar} {pos:List Loc} {base:List Nat} {low:Nat} {os:OL β} {s:AL α} {σ:AState} {r:β×α} (hbase:base=gH low) (h:Ca P rs pos base low os s σ=some r):
 σ.df=[]∧ ∃xs,zE P σ rs=some xs∧Pp ⟨xs,σ.heap,σ.low,[]⟩ ⟨s.enc (os.lens r.1) r.2,os.enc (os.lens r.1) r.1,σ.low,[]⟩:=by
 unfold Ca at h
 simp only[gA] at h
 obtain ⟨xs,hx,h⟩:=h
 exact ⟨(Rq hbase h).1,xs,hx,(Rq hbase h).2.e⟩
end outX
end Go.Abs
namespace Go.Abs
theorem max_le_dec {a b c:Nat}:decide (max a b≤c)=(decide (a≤c)&&decide (b≤c)):=by
 rw[gP]
 simp only[decide_eq_true_eq,gF]
 exact Nat.max_le
theorem lnOf_def {xs:List AObj} {k:Nat}:Oj xs k=(oR xs[k]?).getD 0:=rfl
theorem accLen_f:(∀i s r,oR (some (.acc i s r))=some r.length)∧(∀c,oR (some (.cells c))=none)∧(∀e,oR (some (.map e))=none)∧oR (some .dead)=none∧oR none=none:=⟨fun _ _ _=>rfl,fun _=>rfl,fun _=>rfl,rfl,rfl⟩
theorem lolC_f {a:Nat} {f:Bx}:QY a f 0=a∧ ∀k,QY a f (k+1)=f k:=⟨rfl,fun _=>rfl⟩
theorem lolC_1 {a:Nat} {f:Bx}:QY a f 1=f 0:=rfl
theorem lolC_2 {a:Nat} {f:Bx}:QY a f 2=f 1:=rfl
theorem lolC_3 {a:Nat} {f:Bx}:QY a f 3=f 2:=rfl
theorem lolC_4 {a:Nat} {f:Bx}:QY a f 4=f 3:=rfl
theorem lolC_5 {a:Nat} {f:Bx}:QY a f 5=f 4:=rfl
theorem lolC_6 {a:Nat} {f:Bx}:QY a f 6=f 5:=rfl
theorem vlN_n:vlN.need=0:=rfl
theorem vlT_n {α β:Type} {t:Ty α} {s:VL β}:(vlT t s).need=s.need:=rfl
theorem vlP_n {β:Type} {k:Nat} {s:VL β}:(vlP k s).need=max (k+1) s.need:=rfl
theorem vlM_n {β:Type} {k:Nat} {s:VL β}:(vlM k s).need=max (k+1) s.need:=rfl
theorem vlF_n {α β:Type} {f:FuncId} {c:VL α} {s:VL β}:(vlF f c s).need=max c.need s.need:=rfl
attribute [go_sem] vlN_n vlT_n vlP_n vlM_n vlF_n vlN_f vlT_f vlP_f vlM_f vlF_f alN_f alT_f alC_f alP_f alM_f alA_f alF_f alZ_f Y5 ogA_f ogC_f olN_f olC_f dvlN dvlT dvlP dvlM dvlF dalT dalC dalP dalM dalA dalF dalZ docC dolN dolC
 entX Ca Uz locN nameV down cellAt lnOf_def accLen_f Option.getD_some Option.getD_none lolC_f lolC_1 lolC_2 lolC_3 lolC_4 lolC_5 lolC_6 max_le_dec gB
end Go.Abs
namespace Go.Abs
def WK (lk:xl) (j:Int):LoopState:=stP (sH lk.js j)
theorem stJ_zero {lk:xl}:WK lk 0= .ready:=rfl
section ogL
variable {γ β:Type}
noncomputable def dogL (lk:xl) (c:AL γ) (ρ:List Nat) (L:Bx) (H:List AObj):AObj→Option (γ×Int)
 | .loop lk' slots st j=>pcond (lk'=lk∧st=WK lk j) ((c.dec ρ L H slots).bind fun g=>some (g,j))
 |_=>none
noncomputable def ogL (lk:xl) (c:AL γ):OG (γ×Int) where
 enc L g:= .loop lk (c.enc L g.1) (WK lk g.2) g.2
 dec:=dogL lk c
 len _:=0
 need:=c.need
 nb L g:=c.nb L g.1
 ok ρ L H n x g hv h:=by
  unfold dogL at h
  split at h
  ·simp only[pZ,gA,gB] at h
   obtain ⟨⟨rfl,rfl⟩,y,hy,rfl⟩:=h
   exact .inr (.inr (.inr (.inr ⟨_,_,_,_,_,rfl,rfl,c.ok ρ L H n _ _ hv hy⟩)))
  ·cases h
 Sx ρ L H x g h:=by
  unfold dogL at h
  split at h
  ·rfl
  ·cases h
noncomputable def Za (lk:xl) (c:AL γ) (ρ:List Nat) (L:Bx) (H:List AObj):AObj→Option γ
 | .loop lk' slots st j=>bif j==0 then pcond (lk'=lk∧st=WK lk j) (c.dec ρ L H slots) else none
 |_=>none
noncomputable def ogL0 (lk:xl) (c:AL γ):OG γ where
 enc L g:= .loop lk (c.enc L g) .ready 0
 dec:=Za lk c
 len _:=0
 need:=c.need
 nb L g:=c.nb L g
 ok ρ L H n x g hv h:=by
  unfold Za at h
  split at h
  ·rename_i lk' slots st j
   cases hj:j==0 with
   |false=>rw[hj] at h;cases h
   |true=>
    rw[hj,cond_true] at h
    have hj':j=0:=by simpa using hj
    subst hj'
    simp only[pZ] at h
    obtain ⟨⟨rfl,rfl⟩,hy⟩:=h
    exact .inr (.inr (.inr (.inr ⟨_,_,_,_,_,rfl,rfl,c.ok ρ L H n _ _ hv hy⟩)))
  ·cases h
 Sx ρ L H x g h:=by
  unfold Za at h
  split at h
  ·rfl
  ·cases h
theorem dogL_f {lk lk':xl} {c:AL γ} {ρ:List Nat} {L:Bx} {H:List AObj} {s:List AV} {st:LoopState} {j:Int}:dogL lk c ρ L H (.loop lk' s st j)=pcond (lk'=lk∧st=WK lk j) ((c.dec ρ L H s).bind fun g=>some (g,j)):=rfl
theorem dogL0_f {lk lk':xl} {c:AL γ} {ρ:List Nat} {L:Bx} {H:List AObj} {s:List AV} {st:LoopState} {j:Int}:Za lk c ρ L H (.loop lk' s st j)=bif j==0 then pcond (lk'=lk∧st=WK lk j) (c.dec ρ L H s) else none:=rfl
theorem ogL_f {lk:xl} {c:AL γ}:(∀L g,(ogL lk c).enc L g= .loop lk (c.enc L g.1) (WK lk g.2) g.2)∧(∀ρ L H x,(ogL lk c).dec ρ L H x=dogL lk c ρ L H x)∧(∀g,(ogL lk c).len g=0)∧(ogL lk c).need=c.need:=⟨fun _ _=>rfl,fun _ _ _ _=>rfl,fun _=>rfl,rfl⟩
theorem ogL0_f {lk:xl} {c:AL γ}:(∀L g,(ogL0 lk c).enc L g= .loop lk (c.enc L g) .ready 0)∧(∀ρ L H x,(ogL0 lk c).dec ρ L H x=Za lk c ρ L H x)∧(∀g,(ogL0 lk c).len g=0)∧(ogL0 lk c).need=c.need:=⟨fun _ _=>rfl,fun _ _ _ _=>rfl,fun _=>rfl,rfl⟩
end ogL
def IF:List (Int×Code)→qL→Int
 |(k,.ret)::_,.ret=>k
 |(k,.exit n)::t,.exit m=>bif n==m then k else IF t (.exit m)
 |_::t,e=>IF t e
 |[],_=>0
section outRd
variable {β:Type}
noncomputable def outR2 (js:List (Int×Code)) (pos:List Loc) (base:List Nat) (low:Nat) (os:OL β) (e:qL) (σ:AState):Option AObj→Option (β×(Bool×Unit))
 |some (.loop lk sl .busy 0)=>pcond (R8 e=some (sH lk.js (IF js e))) (outL [.bool (sH lk.js (IF js e)).isNone] pos base low os (qy pe pP) {σ with heap:=σ.heap.set 0 (.loop lk sl (WK lk (IF js e)) (IF js e))})
 |_=>none
noncomputable def outRd (js:List (Int×Code)) (pos:List Loc) (base:List Nat) (low:Nat) (os:OL β) (e:qL) (σ:AState):Option (β×(Bool×Unit)):=outR2 js pos base low os e σ σ.heap[0]?
theorem outR2_f {js:List (Int×Code)} {pos:List Loc} {base:List Nat} {low:Nat} {os:OL β} {e:qL} {σ:AState} {lk:xl} {sl:List AV}:outR2 js pos base low os e σ (some (.loop lk sl .busy 0))=
 pcond (R8 e=some (sH lk.js (IF js e))) (outL [.bool (sH lk.js (IF js e)).isNone] pos base low os (qy pe pP) {σ with heap:=σ.heap.set 0 (.loop lk sl (WK lk (IF js e)) (IF js e))}):=rfl
theorem UA {σ:AState} {x r:AV} {H':List AObj} (h:Fi ⟨[x],σ.heap,σ.low,[]⟩ ⟨[r],H',σ.low,[]⟩):IB σ x r H':=by
 intro C φ a w S v hv
 obtain ⟨φ',S'⟩:=h C φ {tmps:= #[v],defers:=[]} w {S with slots:=⟨v,[],rfl,hv,rfl⟩,defers:=uG.nil}
 obtain ⟨v',_,e,hr,_⟩:=S'.slots
 simp only[List.cons.injEq] at e
 obtain ⟨rfl,_⟩:=e
 exact ⟨φ',{S' with slots:=rfl,defers:=uG.nil},hr⟩
theorem outRd_ok {js:List (Int×Code)} {pos:List Loc} {base:List Nat} {low:Nat} {os:OL β} {e:qL} {σ:AState} {r:β×(Bool×Unit)} (hbase:base=gH low) (h:outRd js pos base low os e σ=some r):
 rPost (fun o H'=>o= .ret (uR ((qy pe pP).enc (os.lens r.1) r.2))∧H'=os.enc (os.lens r.1) r.1) e σ:=by
 unfold outRd outR2 at h
 split at h
 ·rename_i lk sl hk
  simp only[pZ] at h
  obtain ⟨hj,h⟩:=h
  have:=Rq hbase h
  exact ⟨_,lk,sl,hj,hk,_,_,UA (σ:={σ with heap:=σ.heap.set 0 (.loop lk sl (WK lk (IF js e)) (IF js e))}) this.2,rfl,rfl⟩
 ·cases h
end outRd
section rules
variable {R:Type} {M:pO R} {k:List Kt} {σ:AState}
theorem stepR2_J {H':List AObj} {lk:xl} {s:List AV} {j:Int}:Pk M k σ H' (some (.loop lk s (WK lk j) j))=Lv M k {σ with heap:=H'.set σ.heap.length .dead} (sH lk.js j):=by
 rw[Ql];exact NH
theorem stepR2_0 {H':List AObj} {lk:xl} {s:List AV}:Pk M k σ H' (some (.loop lk s .ready 0))=Lv M k {σ with heap:=H'.set σ.heap.length .dead} none:=by
 rw[Ql];exact NH
end rules
theorem renObj_L {τ:Nat→Nat} {lk:xl} {s:List AV} {st:LoopState} {j:Int}:(AObj.loop lk s st j).ren τ= .loop lk (renL τ s) st j:=rfl
theorem accLen_L {lk:xl} {s:List AV} {st:LoopState} {j:Int}:oR (some (.loop lk s st j))=none:=rfl
theorem cellAt_f {c:Nat}:(∀xs,cellAt c (some (.cells xs))=xs[c]?)∧(∀lk xs st j,cellAt c (some (.loop lk xs st j))=xs[c]?):=⟨fun _=>rfl,fun _ _ _ _=>rfl⟩
theorem jumpE_f:R8 .normal=some none∧R8 .ret=some (some .ret)∧ ∀id,R8 (.exit id)=some (some (.exit id)):=⟨rfl,rfl,fun _=>rfl⟩
theorem numJ_f:(∀k t,IF ((k,.ret)::t) .ret=k)∧(∀k n t,IF ((k,.exit n)::t) .ret=IF t .ret)∧(∀k t m,IF ((k,.ret)::t) (.exit m)=IF t (.exit m))∧(∀k n t m,IF ((k,.exit n)::t) (.exit m)=bif n==m then k else IF t (.exit m))∧
 (∀js,IF js .normal=0)∧(∀e,IF [] e=0):=
 ⟨fun _ _=>rfl,fun _ _ _=>rfl,fun _ _ _=>rfl,fun _ _ _ _=>rfl,fun js=>by induction js with|nil=>rfl|cons x t ih=>obtain ⟨k,c⟩:=x;cases c<;>exact ih,fun _=>rfl⟩
noncomputable def entYo {α β α' β':Type} (pos:List Loc) (os:OL β) (as:AL α) (os':OL β') (rs:AL α') (F:β→α→Option (β'×α')) (l:Nat) (args:List AV) (H:List AObj):Option AObj→Option (AV×List AObj)
 |some (.loop k _ _ _)=>pcond (args.length=k.ps.size) (Sz [l] pos os as os' rs F args H)
 |_=>none
theorem entY_o {α β α' β':Type} {pos:List Loc} {os:OL β} {as:AL α} {os':OL β'} {rs:AL α'} {F:β→α→Option (β'×α')} {l:Nat} {args:List AV} {H:List AObj}:
 entY pos os as os' rs F l args H=entYo pos os as os' rs F l args H H[l]? :=rfl
theorem entYo_f {α β α' β':Type} {pos:List Loc} {os:OL β} {as:AL α} {os':OL β'} {rs:AL α'} {F:β→α→Option (β'×α')} {l:Nat} {args:List AV} {H:List AObj} {k:xl} {s:List AV} {st:LoopState} {j:Int}:
 entYo pos os as os' rs F l args H (some (.loop k s st j))=pcond (args.length=k.ps.size) (Sz [l] pos os as os' rs F args H):=rfl
def asgnC:Code→Code
 | .rangeFunc _ _ a _=>a
 |_=> .skip
def bdyC:Code→Code
 | .rangeFunc _ _ _ b=>b
 |_=> .skip
attribute [go_sem] asgnC bdyC
def tabJ:List (List Nat×List (Int×Code))→List Nat→List (Int×Code)
 |[],_=>[]
 |(p',js)::t,p=>if p=p' then js else tabJ t p
theorem ready_J {lk:xl}:(LoopState.ready=WK lk 0)=True:=by simp [stJ_zero]
noncomputable def oLf (zs:List NZ) (H:List AObj) (n:Nat):AObj→Option AObj
 | .loop lk s st j=>pcond (st=WK lk j) ((QS zs H n s).bind fun ds=>some (.loop lk ds (WK lk j) j))
 |_=>none
noncomputable def oL (zs:List NZ):ZO:=⟨oLf zs,fun H n x y h=>by
 unfold oLf at h
 split at h
 ·simp only[pZ,gA,gB] at h
  obtain ⟨rfl,ds,hd,rfl⟩:=h
  exact .inr (.inr (.inr (.inr ⟨_,_,_,_,_,rfl,rfl,Rn hd⟩)))
 ·cases h⟩
theorem oL_f {zs:List NZ} {H:List AObj} {n:Nat} {lk:xl} {s:List AV} {st:LoopState} {j:Int}:(oL zs).f H n (.loop lk s st j)=pcond (st=WK lk j) ((QS zs H n s).bind fun ds=>some (.loop lk ds (WK lk j) j)):=rfl
attribute [go_sem] ready_J oL_f ogL_f ogL0_f dogL_f dogL0_f outRd outR2_f outL Sz stepR2_J stepR2_0 renObj_L accLen_L cellAt_f jumpE_f numJ_f entY_o entYo_f Y8
end Go.Abs
namespace Go.Abs
def mcB (p:Str×Bool):AV×AV:=(.str (sb p.1),.bool p.2)
def sI {α:Type} (s:Str):List (Str×α)→Option α
 |[]=>none
 |(k,v)::es=>bif s==k then some v else sI s es
def zW {α:Type} (s:Str) (v:α):List (Str×α)→List (Str×α)
 |[]=>[(s,v)]
 |(k,u)::es=>bif s==k then (k,v)::es else (k,u)::zW s v es
theorem WL (a b:Str):(sb a==sb b)=(a==b):=by
 rw[gP,MapKept.bytes_beq,beq_iff_eq]
 constructor
 ·intro h
  have:=congrArg ByteArray.toList h
  rwa [EY,EY] at this
 ·rintro rfl;rfl
theorem SA: ∀xs:List (Str×Bool),F7 (xs.map mcB)=true
 |[]=>rfl
 |_::xs=>SA xs
theorem Vx (xs:List (Str×Bool)):F7 (mp mcB xs)=true:=by rw[uc];exact SA xs
theorem Qq (s:Str): ∀xs:List (Str×Bool),xC (sb s) (xs.map mcB)=(sI s xs).map AV.bool
 |[]=>rfl
 |(k,v)::xs=>by
  show (bif sb s==sb k then some (AV.bool v) else xC (sb s) (xs.map mcB))=_
  rw[WL,Qq s xs]
  simp only[sI]
  cases s==k<;>rfl
theorem mapFind_mp (s:Str) (xs:List (Str×Bool)):xC (sb s) (mp mcB xs)=(sI s xs).map AV.bool:=by rw[uc];exact Qq s xs
theorem SB (s:Str) (v:Bool): ∀xs:List (Str×Bool),EP (sb s) (.bool v) (xs.map mcB)=(zW s v xs).map mcB
 |[]=>rfl
 |(k,u)::xs=>by
  show (bif sb s==sb k then (AV.str (sb k),AV.bool v)::xs.map mcB else (AV.str (sb k),AV.bool u)::EP (sb s) (.bool v) (xs.map mcB))=_
  rw[WL,SB s v xs]
  simp only[zW]
  cases s==k<;>rfl
theorem mapSet_mp (s:Str) (v:Bool) (xs:List (Str×Bool)):EP (sb s) (.bool v) (mp mcB xs)=mp mcB (zW s v xs):=by rw[uc,uc];exact SB s v xs
theorem Zb (o:Option Bool) (z:Bool):(o.map AV.bool).getD (.bool z)= .bool (o.getD z):=by cases o<;>rfl
theorem map_nil_mp:AObj.map []= .map (mp mcB []):=by rw[uc];rfl
theorem lookEff_mp {z:AV} {l:Nat} {s:Str} {xs:List (Str×Bool)}:Mg z l (sb s) (some (.map (mp mcB xs)))=some {val:=((sI s xs).map AV.bool).getD z,rd:=[l]}:=by
 simp only[Mg,Vx,if_true,mapFind_mp]
theorem Zc {l:Nat} {s:Str} {v:Bool} {xs:List (Str×Bool)}:mapUpEff l (sb s) (.bool v) (some (.map (mp mcB xs)))=some {val:= .any,rd:=[l],up:=[(l,.map (mp mcB (zW s v xs)))]}:=by
 simp only[mapUpEff,Vx,if_true,mapSet_mp]
theorem Ol (n:Nat) (xs:List (Str×Bool)):objNb n (.map (mp mcB xs))=True:=by
 refine eq_true fun p hp=> ?_
 rw[uc,gW] at hp
 obtain ⟨q,_,rfl⟩:=hp
 exact ⟨trivial,trivial⟩
theorem mapRen_mp (ρ:Nat→Nat) (xs:List (Str×Bool)):(mp mcB xs).map (fun p=>(AV.ren ρ p.1,AV.ren ρ p.2))=mp mcB xs:=by
 rw[uc,gX]
 exact gO fun _ _=>rfl
theorem mapNbF_mp (n:Nat) (xs:List (Str×Bool)):(∀p:AV×AV,p∈mp mcB xs→AV.nb n p.1∧AV.nb n p.2)=True:=Ol n xs
attribute [go_sem high] mapRen_mp mapNbF_mp
def ddB:AV×AV→Option (Str×Bool)
 |(.str s,.bool b)=>some (s.toList,b)
 |_=>none
theorem ddB_ok {p:AV×AV} {q:Str×Bool} (h:ddB p=some q):p=mcB q:=by
 unfold ddB at h
 split at h
 ·rename_i s b
  simp only[gB] at h
  subst h
  simp only[mcB,gK,AV.str.injEq,and_true]
  obtain ⟨⟨l⟩⟩:=s
  rw[ByteArray.toList_eq];rfl
 ·cases h
theorem Vy: ∀ {es:List (AV×AV)} {xs:List (Str×Bool)},mapO ddB es=some xs→es=xs.map mcB
 |[],xs,h=>by simp only[mapO,gB] at h;subst h;rfl
 |p::es,xs,h=>by
  simp only[mapO,gA,gB] at h
  obtain ⟨q,hq,ys,hys,rfl⟩:=h
  rw[ddB_ok hq,Vy hys];rfl
theorem mapO_ddB {es:List (AV×AV)} {xs:List (Str×Bool)} (h:mapO ddB es=some xs):es=mp mcB xs:=by rw[uc];exact Vy h
theorem map_ren (τ:Nat→Nat) (xs:List (Str×Bool)):(AObj.map (mp mcB xs)).ren τ= .map (mp mcB xs):=by
 rw[uc]
 show AObj.map ((xs.map mcB).map _)=_
 congr 1
 rw[gX]
 exact gO fun p _=>by obtain ⟨s,b⟩:=p;rfl
def daM:AObj→Option (List (Str×Bool))
 | .map es=>mapO ddB es
 |_=>none
theorem daM_mp {xs:List (Str×Bool)}:daM (.map (mp mcB xs))=some xs:=by
 show mapO ddB (mp mcB xs)=some xs
 exact B8 (fun x=>by obtain ⟨s,b⟩:=x;show some ((sb s).toList,b)=_;rw[EY]) xs
theorem daM_ok {x:AObj} {xs:List (Str×Bool)} (h:daM x=some xs):x= .map (mp mcB xs):=by
 unfold daM at h
 split at h
 ·rw[mapO_ddB h]
 ·cases h
def K1:OG (List (Str×Bool)) where
 enc _ xs:= .map (mp mcB xs)
 dec _ _ _:=daM
 len _:=0
 need:=0
 nb L g:=of_eq_true (Ol 0 g)
 ok ρ L H n x g _ h:=by
  rw[daM_ok h]
  rw[map_ren]
  exact .inr (.inl ⟨rfl,of_eq_true (Ol n g)⟩)
 Sx ρ L H x g h:=by
  rw[daM_ok h];rfl
theorem ogM_f:(∀L g,K1.enc L g= .map (mp mcB g))∧(∀ρ L H x,K1.dec ρ L H x=daM x)∧(∀g,K1.len g=0)∧K1.need=0:=⟨fun _ _=>rfl,fun _ _ _ _=>rfl,fun _=>rfl,rfl⟩
def gAt:List (List Nat×List (Nat×Nat×Nat))→List Nat→AState→AState
 |[],_,σ=>σ
 |(q,g)::t,p,σ=>if p=q then Sk g σ else gAt t p σ
theorem gAt_ok: ∀ {t:List (List Nat×List (Nat×Nat×Nat))} {p:List Nat} {σ:AState},Fi σ (gAt t p σ)
 |[],_,_=>Fi.refl _
 |(q,g)::t,p,σ=>by
  unfold gAt
  split
  ·exact Po
  ·exact gAt_ok
noncomputable def tabG (fs:List (List Nat×List Nat)) (gs:List (List Nat×List (Nat×Nat×Nat))) (p:List Nat) (σ:AState):Option AState:=(ou fs p σ).map (gAt gs p)
theorem tabG_ok (fs:List (List Nat×List Nat)) (gs:List (List Nat×List (Nat×Nat×Nat))): ∀p σ σ',tabG fs gs p σ=some σ'→Fi σ σ':=by
 intro p σ σ' h
 simp only[tabG,gG] at h
 obtain ⟨σ1,h1,rfl⟩:=h
 exact (nI _ _ _ _ h1).trans gAt_ok
attribute [go_sem] gAt tabG
attribute [go_sem] lookEff_mp Zc Zb map_nil_mp daM_mp ogM_f map_ren
attribute [go_sem high] Ol
end Go.Abs
namespace Go.Abs
def Tup (α:Type):Nat→Type
 |0=>Unit
 |n+1=>α×Tup α n
section tup
variable {α:Type}
def SC (c:α→List AV):(n:Nat)→Tup α n→List AV
 |0,_=>[]
 |n+1,x=>c x.1++SC c n x.2
def Pv (d:List AV→Option α) (sz:Nat):(n:Nat)→List AV→Option (Tup α n)
 |0,cs=>if cs.isEmpty=true then some () else none
 |n+1,cs=>(d (cs.take sz)).bind fun x=>(Pv d sz n (cs.drop sz)).bind fun t=>some (x,t)
theorem tupNb {c:α→List AV} (h: ∀n x,nbL n (c x)) (k:Nat): ∀ (n:Nat) (v:Tup α n),nbL k (SC c n v)
 |0,_=>trivial
 |n+1,v=>GV (h k v.1) (tupNb h k n v.2)
theorem tupOk {c:Mn α} {H:List AObj} {m sz:Nat}: ∀ {n:Nat} {cs:List AV} {v:Tup α n},Pv (c.dec H) sz n cs=some v→sW H m cs (SC c.enc n v)
 |0,cs,v,h=>by
  simp only[Pv] at h
  split at h
  ·rename_i he
   rw[List.isEmpty_iff] at he
   subst he;exact sW.nil
  ·cases h
 |n+1,cs,v,h=>by
  simp only[Pv,gA] at h
  obtain ⟨x,hx,t,ht,he⟩:=h
  obtain rfl:(x,t)=v:=Option.some.inj he
  have:=sW.append (c.ok H m _ _ hx) (tupOk (c:=c) (m:=m) ht)
  rw[List.take_append_drop] at this
  exact this
def cA (c:Mn α) (sz n:Nat):Mn (Tup α n) where
 enc v:=SC c.enc n v
 dec H cs:=Pv (c.dec H) sz n cs
 ok H m cs v h:=tupOk h
 nb k v:=tupNb c.nb k n v
theorem cA_f {c:Mn α} {sz n:Nat}:(∀v,(cA c sz n).enc v=SC c.enc n v)∧ ∀H cs,(cA c sz n).dec H cs=Pv (c.dec H) sz n cs:=⟨fun _=>rfl,fun _ _=>rfl⟩
end tup
attribute [go_sem] cA_f
def Kk (xs:List Str):List AV:=[.nE false 1 (mp n4 xs)]
def dSS1:List AV→Option (List Str)
 |[c]=>dL p8 [] c
 |_=>none
theorem scell_nbR (n:Nat) (xs:List Str):GJ n (mp n4 xs):=wN (r:=p8) xs
def Zd:Row (List Str) where
 enc:=Kk
 dec:=dSS1
 sz:=1
 ok r x h:=by
  unfold dSS1 at h
  split at h
  ·exact zB.cons (Vk.toSub (n:=0) (Jt h)) zB.nil
  ·cases h
 nb n x:=⟨scell_nbR n x,trivial⟩
theorem rowSS_f:Zd.enc=Kk∧Zd.dec=dSS1∧Zd.sz=1:=⟨rfl,rfl,rfl⟩
theorem dSS1_cell (x:List Str):dSS1 (Kk x)=some x:=by
 simp only[dSS1,Kk,dL,EW,Sj,beq_self_eq_true,Bool.true_or,cond_true,FF]
theorem mapO_ss (xs:List (List Str)):mapO dSS1 (mp Kk xs)=some xs:=B8 dSS1_cell xs
theorem ss_nbs: ∀ (n:Nat) (xs:List (List Str)),GJ n (mp Kk xs)=True:=fun n xs=>eq_true (wN (r:=Zd) xs)
theorem ss_rens: ∀ (ρ:Nat→Nat) (xs:List (List Str)),Bw ρ (mp Kk xs)=mp Kk xs:=fun ρ xs=>vG ρ _ (wN (r:=Zd) xs)
attribute [go_sem] Kk dSS1 rowSS_f mapO_ss ss_nbs ss_rens
end Go.Abs
namespace Go.Abs
end Go.Abs
namespace Go.Abs
section lend
variable {C:Ctx} {φ:Nat→Value} {σ:AState} {a:Act} {w:World}
def toImm:AObj→AObj
 | .acc _ sz rows=> .acc true sz rows
 |x=>x
theorem qq.immN (S:qq C φ σ a w): ∀n:Nat,qq C φ {σ with heap:=(σ.heap.take n).map toImm++σ.heap.drop n} a w
 |0=>by simpa using S
 |n+1=>by
  have ih:=qq.immN S n
  by_cases hn:n<σ.heap.length
  ·have hlen:((σ.heap.take n).map toImm).length=n:=by rw[List.length_map,List.length_take];omega
   have hd:=List.drop_eq_getElem_cons hn
   have ht:(σ.heap.take (n+1)).map toImm=(σ.heap.take n).map toImm++[toImm σ.heap[n]]:=by
    rw[List.take_succ_eq_append_getElem hn,List.map_append];rfl
   rw[ht,List.append_assoc,List.singleton_append]
   cases hx:σ.heap[n] with
   |acc uO sz rows=>
    cases uO with
    |true=>
     rw[hd,hx] at ih
     exact ih
    |false=>
     rw[hd,hx] at ih
     have hl:((σ.heap.take n).map toImm++AObj.acc false sz rows::σ.heap.drop (n+1))[n]? =some (.acc false sz rows):=by
      rw[List.getElem?_append_right (by omega),hlen,Nat.sub_self];rfl
     have:=qq.uO hl ih
     rw[show ((σ.heap.take n).map toImm++AObj.acc false sz rows::σ.heap.drop (n+1)).set n (.acc true sz rows)=(σ.heap.take n).map toImm++AObj.acc true sz rows::σ.heap.drop (n+1) from by
      rw[List.set_append_right _ _ (by omega),hlen,Nat.sub_self];rfl] at this
     exact this
   |cells cs=>rw[hd,hx] at ih;exact ih
   |map es=>rw[hd,hx] at ih;exact ih
   |loop k s t p=>rw[hd,hx] at ih;exact ih
   |iter s p=>rw[hd,hx] at ih;exact ih
   |dead=>rw[hd,hx] at ih;exact ih
  ·have e1:σ.heap.take (n+1)=σ.heap.take n:=by rw[gQ (by omega),gQ (by omega)]
   have e2:σ.heap.drop (n+1)=σ.heap.drop n:=by rw[gR (by omega),gR (by omega)]
   rw[e1,e2];exact ih
theorem qq.immAll (S:qq C φ σ a w):qq C φ {σ with heap:=σ.heap.map toImm} a w:=by
 have:=qq.immN S σ.heap.length
 rwa [List.take_length,List.drop_length,List.append_nil] at this
theorem toImm_muts {x:AObj} {h:Value} {b o:Nat} (hm:(toImm x).muts h b o):x.muts h b o:=by
 cases x with
 |acc uO sz rows=>
  cases uO with
  |true=>exact hm
  |false=>exact Sl hm
 |_=>exact hm
theorem immAll_le (C:Ctx) (φ:Nat→Value) (H:List AObj) (w:World):(C.env φ H w).Le H.length (C.env φ (H.map toImm) w):=by
 refine Ctx.zP (by simp) (fun k _=>⟨rfl,?_⟩) (fun b o u hm hc=>⟨fun h=>hm (h.imp ?_ id),hc⟩)
 ·rw[gJ]
  cases H[k]? with
  |none=>rfl
  |some x=>cases x<;>rfl
 ·rintro ⟨k,y,hy,hmm⟩
  rw[gJ,gG] at hy
  obtain ⟨x,hx,rfl⟩:=hy
  exact ⟨k,x,hx,toImm_muts hmm⟩
def vwN (H:List AObj):List AV→Option (List AV)
 |[]=>some []
 | .agg cs::r=>(NT H cs).bind fun p=>(vwN H r).bind fun q=>some (.agg p.1::q)
 |c::r=>(NT H [c]).bind fun p=>(vwN H r).bind fun q=>some (p.1++q)
theorem Pw (S:qq C φ σ a w): ∀ {cs ds:List AV} {vs:List Value},vwN σ.heap cs=some ds→m7 (C.env φ σ.heap w) cs vs→m7 (C.env φ σ.heap w) ds vs
 |[],ds,vs,h,r=>by simp only[vwN,gB] at h;subst h;exact r
 |c::cs,ds,vs,h,⟨u,us,hv,r1,r2⟩=>by
  have other:(NT σ.heap [c]).bind (fun p=>(vwN σ.heap cs).bind fun q=>some (p.1++q))=some ds→m7 (C.env φ σ.heap w) ds vs:=by
   intro h
   rw[gA] at h
   obtain ⟨p,hp,h⟩:=h
   rw[gA] at h
   obtain ⟨q,hq,h⟩:=h
   cases h
   have:=ES (vs:=[u]) S (show NT σ.heap [c]=some (p.1,p.2) from hp) ⟨u,[],rfl,r1,rfl⟩
   have h2:=this.append (Pw S hq r2)
   rw[hv];exact h2
  cases c with
  |agg xs=>
   simp only[vwN] at h
   rw[gA] at h
   obtain ⟨p,hp,h⟩:=h
   rw[gA] at h
   obtain ⟨q,hq,h⟩:=h
   cases h
   obtain ⟨ys,hy,rl⟩:=r1
   exact ⟨u,us,hv,⟨ys,hy,ES S (show NT σ.heap xs=some (p.1,p.2) from hp) rl⟩,Pw S hq r2⟩
  |_=>exact other (by simpa only[vwN] using h)
def num1 (l:Nat):AV→AV
 | .int k n=> .int k n
 | .bool b=> .bool b
 | .str s=> .str s
 | .nE _ _ _=> .acc l 0
 |_=> .any
def num2 (l:Nat):AV→AV
 | .agg cs=> .agg (cs.map (num1 l))
 |x=>num1 l x
def num (l:Nat):AV→AV
 | .tup cs=> .tup (cs.map (num2 l))
 |x=>num2 l x
def firstC:List AObj→Nat→Option Nat
 |[],_=>none
 | .cells _::_,n=>some n
 |_::r,n=>firstC r (n+1)
theorem Vz: ∀ {H:List AObj} {n l:Nat},firstC H n=some l→ ∃k cs,l=n+k∧H[k]? =some (.cells cs)
 |x::r,n,l,h=>by
  cases x with
  |cells cs=>simp only[firstC,gB] at h;exact ⟨0,cs,by omega,rfl⟩
  |_=>
   obtain ⟨k,cs,e,hk⟩:=Vz (show firstC r (n+1)=some l from h)
   exact ⟨k+1,cs,by omega,hk⟩
section
variable {E E':Env} {l:Nat}
theorem Ze (h1:l<E'.n) (h2:E'.ln l=none): ∀ {x:AV} {v:Value},rB E x v→rB E' (num1 l x) v:=by
 intro x v h
 cases x with
 |nE t sz rows=>
  obtain ⟨base,cap,hv,_⟩:=h
  exact ⟨h1,⟨_,_,_,hv⟩,fun k hk=>by rw[h2] at hk;cases hk⟩
 |int=>exact h
 |bool=>exact h
 |str=>exact h
 |_=>exact trivial
theorem VA (h1:l<E'.n) (h2:E'.ln l=none): ∀ {xs:List AV} {vs:List Value},m7 E xs vs→m7 E' (xs.map (num1 l)) vs
 |[],_,h=>h
 |_::_,_,⟨u,us,hv,r1,r2⟩=>⟨u,us,hv,Ze h1 h2 r1,VA h1 h2 r2⟩
theorem Zf (h1:l<E'.n) (h2:E'.ln l=none) {x:AV} {v:Value} (h:rB E x v):rB E' (num2 l x) v:=by
 cases x with
 |agg cs=>obtain ⟨vs,hv,hr⟩:=h;exact ⟨vs,hv,VA h1 h2 hr⟩
 |_=>exact Ze h1 h2 h
theorem VB (h1:l<E'.n) (h2:E'.ln l=none): ∀ {xs:List AV} {vs:List Value},m7 E xs vs→m7 E' (xs.map (num2 l)) vs
 |[],_,h=>h
 |_::_,_,⟨u,us,hv,r1,r2⟩=>⟨u,us,hv,Zf h1 h2 r1,VB h1 h2 r2⟩
theorem num_rep (h1:l<E'.n) (h2:E'.ln l=none) {x:AV} {v:Value} (h:rB E x v):rB E' (num l x) v:=by
 cases x with
 |tup cs=>obtain ⟨vs,hv,hr⟩:=h;exact ⟨vs,hv,VB h1 h2 hr⟩
 |_=>exact Zf h1 h2 h
end
noncomputable def entB (e:EntD):Ent:=fun args H=>pcond (¬ nbL 0 args) ((firstC H 0).bind fun l=>(vwN (H.map toImm) args).bind fun as=>(e as).bind fun r=>some (num l r,H))
theorem entB_ok {P:Program} {f:FuncId} {e:EntD} (h:NG P f e):HR P f (entB e):=by
 intro args σ r H' he
 unfold entB at he
 have he:=(pZ.1 he).2
 rw[gA] at he
 obtain ⟨l,hl,he⟩:=he
 obtain ⟨k,cs,hk,hl⟩:=Vz hl
 obtain rfl:l=k:=by omega
 rw[gA] at he
 obtain ⟨as,hv,he⟩:=he
 rw[gA] at he
 obtain ⟨q,hq,he⟩:=he
 cases he
 obtain ⟨hen,hnb,hc⟩:=h as q hq
 refine ⟨hen,fun C φ a w hP S vs hr=> ?_⟩
 have S':=S.immAll
 have hr':m7 (C.env φ (σ.heap.map toImm) w) args vs.toList:=m7.mono (immAll_le C φ σ.heap w) _ _ (m7.nb _ _ hr) hr
 have hd:=Pw S' hv hr'
 refine (hc S'.callee φ w hP rfl rfl (fun _ _ h=>h) vs (m7.mono (S'.Vj φ w) _ _ hnb hd)).mono ?_
 rintro e' w' ⟨r,v,φ',rfl,rfl,rep,hs,hh,hf,ho⟩
 exact ⟨.ret (num l r),φ,σ.heap,⟨rfl,rfl⟩,S.grown hs hh hf ho,num_rep (gC.1 hl).1 (by show oR σ.heap[l]? =none;rw[hl];rfl) rep⟩
end lend
end Go.Abs
namespace Go.Abs
theorem pcond_no {R:Type} {x:Option R}:pcond False x=none:=by simp [pcond]
theorem not_nb:(¬ True)=False∧(¬ False)=True:=⟨by simp,by simp⟩
theorem nbR_set {n:Nat} {r:List AV}: ∀ {rows:List (List AV)} {i:Nat},GJ n rows→GJ n (rows.set i r)=(rows.length≤i∨nbL n r)
 |[],_,_=>eq_true trivial|>.trans (eq_true (.inl (Nat.zero_le _))).symm
 |_::_,0,h=>by
  have e:(nbL n r∧GJ n _)=nbL n r:=propext ⟨fun q=>q.1,fun q=>⟨q,h.2⟩⟩
  show (nbL n r∧GJ n _)=_
  rw[e]
  exact propext ⟨.inr,fun q=>q.elim (fun q=>absurd q (Nat.not_succ_le_zero _)) id⟩
 |_::rows,i+1,h=>by
  show (nbL n _∧GJ n (rows.set i r))=_
  rw[nbR_set (rows:=rows) (i:=i) h.2]
  exact propext ⟨fun q=>q.2.imp Nat.succ_le_succ id,fun q=>⟨h.1,q.imp Nat.le_of_succ_le_succ id⟩⟩
theorem pcond_bind {R S:Type} {p:Prop} {x:Option R} {f:R→Option S}:(pcond p x).bind f=pcond p (x.bind f):=by
 unfold pcond
 split<;>rfl
theorem idxA_set {α β:Type} {xs:List α} {r:α} {n:Int} {f:α→Option β}:(zj (xs.set n.toNat r) n).bind f=bif decide (0≤n)&&decide (n.toNat<xs.length) then f r else none:=by
 unfold zj
 by_cases h0:0≤n
 ·by_cases h1:n.toNat<xs.length
  ·rw[if_pos h0,gS h1,decide_eq_true h0,decide_eq_true h1];rfl
  ·rw[if_pos h0,gT (by rw[List.length_set];omega),decide_eq_true h0,decide_eq_false h1];rfl
 ·rw[if_neg h0,decide_eq_false h0];rfl
theorem get_set {α β:Type} {xs:List α} {r:α} {i:Nat} {f:α→Option β}:((xs.set i r)[i]?).bind f=bif decide (i<xs.length) then f r else none:=by
 by_cases h1:i<xs.length
 ·rw[gS h1,decide_eq_true h1];rfl
 ·rw[gT (by rw[List.length_set];omega),decide_eq_false h1];rfl
theorem Zg (n:Nat) (xs:List Str) (i:Nat) (r:List AV):GJ n ((mp n4 xs).set i r)=(xs.length≤i∨nbL n r):=by
 rw[nbR_set (rows:=mp n4 xs) (wN (r:=p8) xs),GL]
def runeB (n:Int):Str:=(Utf8.encode n).data.toList
theorem encode_sb (n:Int):Utf8.encode n=sb (runeB n):=(Wz _).symm
theorem WM {α β:Type} {x y:Option α} {g:α→β}:(x.bind fun r=>some (g r)).or (y.bind fun r=>some (g r))=(x.or y).bind fun r=>some (g r):=by cases x<;>rfl
def dLt' {α:Type} (r:Row α):AV→Option (List α)
 | .nE true sz rows=>bif EW sz r.sz rows then mapO r.dec rows else none
 |_=>none
theorem UB {sz k:Nat} {rows vF:List (List AV)} (h:EW sz k rows=true) (hs:J7 rows vF):Sub (.nE true sz rows) (.nE true k vF):=by
 intro E v r
 obtain ⟨base,cap,h1,h2,_,h4,h5,h6⟩:=Ka (t:=true) h hs E v r
 obtain ⟨base',cap',h1',_,h3',_⟩:=r
 have e:=h1.symm.trans h1'
 simp only[Value.slice.injEq] at e
 obtain ⟨rfl,_,rfl⟩:=e
 exact ⟨base,cap,h1,h2,fun _=>by rw[h3' rfl,hs.1],h4,h5,h6⟩
def UC {α:Type} (r:Row α):Ty (List α) where
 enc xs:= .nE true r.sz (mp r.enc xs)
 dec _:=dLt' r
 ok H n v xs h:=by
  unfold dLt' at h
  split at h
  ·rename_i sz rows
   cases hs:EW sz r.sz rows with
   |false=>rw[hs] at h;cases h
   |true=>
    rw[hs,cond_true] at h
    exact Co.sub (UB hs (EX h).1) (wN xs)
  ·cases h
 nb _ xs:=wN xs
theorem tyLt_f {α:Type} {r:Row α}:(∀xs,(UC r).enc xs= .nE true r.sz (mp r.enc xs))∧ ∀H v,(UC r).dec H v=dLt' r v:=⟨fun _=>rfl,fun _ _=>rfl⟩
theorem stepN_goto {R:Type} {M:pO R} {p:List Nat} {k:List Kt} {σ:AState} {l:Nat}:BC M p k σ (.goto l)=none:=rfl
attribute [go_sem] entB vwN toImm num num1 num2 firstC immF opTmp pcond_bind or_true idxA_set get_set stepN_goto Zg encode_sb WM tyLt_f dLt' Bool.not_true Bool.not_false pcond_no not_nb and_false false_and and_true true_and
end Go.Abs
namespace Go.Abs
theorem sb_dtl (s:Str):(sb s).data.toList=s:=by simp [sb]
theorem args2 {E:Env} {x y:AV} {vs:Array Value} {u v:Value} (h:m7 E [x,y] vs.toList) (hx: ∀w,rB E x w→w=u) (hy: ∀w,rB E y w→w=v):vs= #[u,v]:=by
 obtain ⟨v0,us,hvs,r0,v1,us1,Uk,r1,hnil⟩:=h
 have hus1:us1=[]:=hnil
 have e0:=hx _ r0
 have e1:=hy _ r1
 subst hus1 Uk e0 e1
 cases vs;simp_all
theorem WN {P:Program} {f:FuncId} {g:Nat} (he:enters P f=true) (hk:kdom g 0) (hkv: ∀v,kval g 0 v→ ∃m,v= .int .i64 m)
 (h: ∀ (s sub:ByteArray) (m:Int) (w:World),s.size<4294967281→w.cell? ⟨g,0,none⟩=some (.int .i64 m)→Calls P f #[.string s,.string sub] w fun e w'=>e= .returned (.bool (Lib.contains s.data.toList sub.data.toList))∧w'=w)
 (s sub:Str) (hs:s.length<4294967281):xS P f [sD.enc s,sD.enc sub] (fun v=>v=pe.enc (Lib.contains s sub)):=by
 refine ⟨he,⟨sD.nb 0 _,sD.nb 0 _,trivial⟩,fun C φ w hP hw hN0 hM vs hr=> ?_⟩
 obtain rfl:=args2 hr (u:= .string (sb s)) (v:= .string (sb sub)) (fun _ h=>h) (fun _ h=>h)
 obtain ⟨v,hv,hkval,_⟩:=C.hk g 0 hk
 obtain ⟨m,rfl⟩:=hkv v hkval
 rw[hw] at hv
 have:=h (sb s) (sb sub) m w (by rw[Rp];exact hs) hv
 rw[sb_dtl,sb_dtl] at this
 refine this.mono ?_
 rintro e w' ⟨rfl,rfl⟩
 exact ⟨_,_,φ,rfl,rfl,rfl,Nat.le_refl _,fun _ _=>rfl,fun _ _=>rfl,rfl,rfl⟩
end Go.Abs
namespace Go.Abs
section marks
variable {C:Ctx} {φ:Nat→Value} {σ:AState} {F:Fence} {n:Nat}
theorem Px (hdf:σ.df=[]): ∀ (ds:List Deferred) (w:World) (fr:Frame) (cs:List Frame),fr.mode= .returning→fr.defers=ds→F.fn fr.fn→F.room (cs.length+1+n)→qq C φ σ {tmps:=fr.tmps,defers:=ds} w→
 ∃w',StepsIn (Machine.fenced C.P F) C.P (lone fr cs w) (lone {fr with defers:=[]} cs w')∧qq C φ σ {tmps:=fr.tmps,defers:=[]} w'
 |[],w,fr,cs,hm,hd,hb,hr,S=>⟨w,by rw[show ({fr with defers:=[]}:Frame)=fr by rw[←hd]];exact StepsIn.refl _,S⟩
 |d::ds,w,fr,cs,hm,hd,hb,hr,S=>by
  have hmk:NR d=true:=by
   have:=S.defers.2.2
   rw[hdf] at this
   have hnil:(d::ds).filter (fun d=> !NR d)=[]:=this
   rw[List.filter_eq_nil_iff] at hnil
   simpa using hnil d (List.mem_cons_self)
  obtain ⟨D,hD,_⟩:=S.defers.2.1 d (List.mem_cons_self) hmk
  subst hD
  obtain ⟨h1,S'⟩:=S.Oa
  have hrun:fr.mode≠ .run:=by rw[hm];simp
  have hstep:=step_collected (P:=C.P) (cs:=cs) hrun hd rfl (run_takeDeferred h1)
  have i1:(lone fr cs w).fenced C.P F:=fenced_out hb hr hrun hd (fun g hg=>by simp [Target.leads] at hg)
  obtain ⟨w',hs,S2⟩:=Px hdf ds (w.putObj D (.deferred none)) {fr with defers:=[]++ds} cs hm rfl hb hr S'
  exact ⟨w',.head i1 hstep hs,S2⟩
end marks
def Kl (C:Ctx) (fn:Func) (c₀:Frame) (cs:List Frame) (R:Ending→FrameMode→World→Prop):Exit→Act→List Frame→World→Prop
 | .normal,a,cs',w| .ret,a,cs',w=> ∃u',cs'={c₀ with mode:=u'}::cs∧ ∃φ σ,qq C φ σ a w∧σ.df=[]∧
     ∀w',qq C φ σ {tmps:=a.tmps,defers:=[]} w'→ ∃v,(results fn a.tmps).run C.P w'= .ok v w'∧R (.returned v) u' w'
 |_,_,_,_=>False
theorem Om {C:Ctx} {F:Fence} {n:Nat} {f:FuncId} {fn:Func} {c:Code} {args:Array Value} {u:FrameMode} {w:World} {R:Ending→FrameMode→World→Prop}
 (hf:C.P.funcs[f]? =some fn) (hb:fn.body=some c) (hF:F.fn f)
 (h: ∀ (c₀:Frame) (cs:List Frame),c₀.mode=u→c.wpSIn F n C.P (Kl C fn c₀ cs R) {tmps:=args++gI (fn.ntmps-args.size) undef,defers:=[]} (c₀::cs) w):
 CallsDIn F n C.P f args u w R:=by
 refine ⟨hF,fun c₀ cs hu hroom=> ?_⟩
 let b:Frame:={(default:Frame) with fn:=f,kind:= .deferred,roundOf:=none}
 have henter:Frame.enter C.P f args .deferred=b.atR {tmps:=args++gI (fn.ntmps-args.size) undef,defers:=[]} [.code c]:=by
  simp [Frame.enter,Frame.atR,hf,hb,b]
 obtain ⟨e,a',cs',w',hl,hq,Us⟩:=h c₀ cs hu b [] rfl rfl hF hroom
 rw[←henter] at Us
 cases e with
 |normal=>
  obtain ⟨u',rfl,φ,σ,S,hdf,hw⟩:=hq
  obtain ⟨w2,hs,S2⟩:=Px (F:=F) (n:=n) hdf a'.defers w' {b.atR a' [] with mode:= .returning} ({c₀ with mode:=u'}::cs) rfl rfl hF hroom S
  obtain ⟨v,hr,hR⟩:=hw w2 S2
  exact ⟨.returned v,u',w2,_,hR,StepsIn.trans (StepsIn.trans Us (.one (fenced_calm (fr:=b.atR a' []) hF hroom rfl) (stepR_end rfl))) hs,rfl,rfl,rfl,rfl,fn,hf,hr⟩
 |ret=>
  obtain ⟨u',rfl,φ,σ,S,hdf,hw⟩:=hq
  obtain ⟨todo,hs0⟩:=Us.1 rfl
  obtain ⟨w2,hs,S2⟩:=Px (F:=F) (n:=n) hdf a'.defers w' {b.atR a' todo with mode:= .returning} ({c₀ with mode:=u'}::cs) rfl rfl hF hroom S
  obtain ⟨v,hr,hR⟩:=hw w2 S2
  exact ⟨.returned v,u',w2,_,hR,StepsIn.trans hs0 hs,rfl,rfl,rfl,rfl,fn,hf,hr⟩
 |panic chain=>exact hq.elim
 |exit id=>exact hq.elim
 |goto l=>exact hq.elim
 |outgrown=>exact hq.elim
def Km (P:Program) (ops:Array Oper):List Oper→(AState→Prop)→AState→Prop
 |[],K,σ=>K σ
 |o::rest,K,σ=>sr ops o σ=some true∧ ∃e,nW P σ o.op=some e∧e.pre∧Km P ops rest K (σ.app o.dst e)
theorem IG {C:Ctx} {ops:Array Oper} {K:AState→Prop} {cs:List Frame} {Q:Exit→Act→List Frame→World→Prop}
 (hQ: ∀φ σ a w,qq C φ σ a w→K σ→Q .normal a cs w): ∀ (rest:List Oper) (k:Nat),ops.toList.drop k=rest→ ∀ (φ:Nat→Value) (σ:AState) (a:Act) (w:World),
 Km C.P ops rest K σ→qq C φ σ a w→wpOpsSIn Fence.wide 0 C.P ops Q (gY k rest.length) a cs w
 |[],k,_,φ,σ,a,w,h,S=>hQ φ σ a w S h
 |o::rest,k,hk,φ,σ,a,w,h,S=>by
  have ho:ops[k]? =some o:=by
   have:=congrArg (fun l:List Oper=>l[0]?) hk
   simpa using this
  have sY:ops.toList.drop (k+1)=rest:=by
   have:=congrArg List.tail hk
   simpa [List.tail_drop] using this
  obtain ⟨hw,e,he,hp,hr⟩:=h
  simp only[List.length_cons,List.range'_succ,wpOpsSIn,ho]
  refine ⟨fun _ _=>trivial,?_⟩
  rw[zf S hw,if_pos rfl]
  obtain ⟨m,v,w',φ',hrun,hn,S'⟩:=HI S he hp
  rw[hrun]
  rcases hn with rfl|⟨rfl,rfl⟩
  ·exact IG hQ rest (k+1) sY φ' _ _ w' hr S'
  ·exact IG hQ rest (k+1) sY φ' _ _ w' hr S'
def isRec (o:Oper):Bool:=match o.op with
 | .call {callee:= .builtin .recover,args,..}=>args.isEmpty&&o.guard.isNone
 |_=>false
def dPost (P:Program) (rs:List ResultVar) (V:wo→List AObj→Prop):qL→AState→Prop
 | .normal,σ=>σ.df=[]∧R7 P rs V none σ
 | .ret,σ=>σ.df=[]∧R7 P rs V none σ
 |_,_=>False
theorem MV {C:Ctx} {φ:Nat→Value} {w:World} {f:FuncId} {fn:Func} {id:Nat} {ops:Array Oper} {y:Code} {o:Oper} {rest:List Oper} {args:List AV} {x:AV} {H:List AObj} {V:wo→List AObj→Prop} {u u':FrameMode} {v:Value} {Ws:Array Value}
 (hf:C.P.funcs[f]? =some fn) (hb:fn.body=some (.seq (.region id ops false) y)) (LA:ops.toList=o::rest) (Iy:isRec o=true)
 (hmode: ∀ (c₀:Frame) (cs:List Frame),c₀.mode=u→recoverD (c₀::cs)=some (v,{c₀ with mode:=u'}::cs)∨(recoverD (c₀::cs)=none∧v= .nilIface∧u'=u))
 {n:Nat} (hn:fn.ntmps=n) {rs:List ResultVar} (Ph:fn.results=rs.toArray) (hN0:C.N0=H.length) (HS:HSim C φ H w) (hra:m7 (C.env φ H w) args Ws.toList) (hrx:rB (C.env φ H w) x v)
 (h:Km C.P ops rest (fun σ1=> ∃σ2,Fi σ1 σ2∧Ri C.P y (dPost C.P rs V) σ2) (AState.put {slots:=args++gE (n-args.length) .any,heap:=H,low:=H.length} o.dst x)):
 CallsDIn Fence.wide 0 C.P f Ws u w (fun e u2 w'=> ∃r,e= .returned r∧u2=u'∧ ∃o φ' H',V o H'∧qq C φ' {slots:=[],heap:=H',low:=H.length} {tmps:= #[],defers:=[]} w'∧o.rep (C.env φ' H' w') (.returned r)):=by
 have hsz:Ws.size=args.length:=by have:=hra.length;simpa using this
 have S:qq C φ {slots:=args++gE (n-args.length) .any,heap:=H,low:=H.length} {tmps:=Ws++gI (fn.ntmps-Ws.size) undef,defers:=[]} w:=by
  refine {HS with slots:= ?_,defers:=uG.nil}
  simp only[gV,Array.toList_replicate]
  refine hra.append ?_
  rw[hsz,hn]
  have:=m7.Cz (E:=C.env φ H w) (gE (n-args.length) undef)
  simpa using this
 have DD: ∀ {φ':Nat→Value} {σ':AState} {a'':Act} {w'':World},qq C φ' σ' a'' w''→σ'.low=H.length:=fun S'=>by rw[←S'.low.1];exact hN0
 refine Om hf hb trivial ?_
 intro c₀ cs hu
 refine wpSIn_seq (wpSIn_region ?_)
 have hsize:gH ops.size=0::gY 1 rest.length:=by
  have:ops.size=rest.length+1:=by rw[←Array.length_toList,LA];rfl
  rw[this,List.range_eq_range',List.range'_succ]
 have ho:ops[0]? =some o:=by
  have:ops.toList[0]? =some o:=by rw[LA];rfl
  simpa using this
 rw[hsize]
 simp only[wpOpsSIn,ho]
 refine ⟨fun _ _=>trivial,?_⟩
 have hrun:(execOp (Act.eval {tmps:=Ws++gI (fn.ntmps-Ws.size) undef,defers:=[]}) o).run C.P w= .ok .recover w∧o.guard=none:=by
  unfold isRec at Iy
  split at Iy
  ·rename_i hh
   rw[gF] at Iy
   obtain ⟨h1,h2⟩:=Iy
   refine ⟨?_,by simpa using h2⟩
   simp only[Array.isEmpty_iff] at h1
   subst h1
   simp [execOp,hh,resolve,invoke,builtin]
  ·cases Iy
 have hw:Region.wanted o (yielded ops (Ws++gI (fn.ntmps-Ws.size) undef))=true:=by
  unfold Region.wanted;rw[hrun.2]
 rw[hw,if_pos rfl,hrun.1]
 have S1:=S.put o.dst hrx
 have key:wpOpsSIn Fence.wide 0 C.P ops (Exit.thenS (y.wpSIn Fence.wide 0 C.P (Kl C fn c₀ cs (fun e u2 w'=> ∃r,e= .returned r∧u2=u'∧ ∃o φ' H',V o H'∧qq C φ' {slots:=[],heap:=H',low:=H.length} {tmps:= #[],defers:=[]} w'∧o.rep (C.env φ' H' w') (.returned r))))
  (Kl C fn c₀ cs (fun e u2 w'=> ∃r,e= .returned r∧u2=u'∧ ∃o φ' H',V o H'∧qq C φ' {slots:=[],heap:=H',low:=H.length} {tmps:= #[],defers:=[]} w'∧o.rep (C.env φ' H' w') (.returned r)))) (gY 1 rest.length)
  (Act.put {tmps:=Ws++gI (fn.ntmps-Ws.size) undef,defers:=[]} o.dst v) ({c₀ with mode:=u'}::cs) w:=by
  refine IG (K:=fun σ1=> ∃σ2,Fi σ1 σ2∧Ri C.P y (dPost C.P rs V) σ2) ?_ rest 1 (by rw[LA];rfl) φ _ _ w h S1
  rintro φ1 σ1 a1 w1 S1 ⟨σ2,himp,hy⟩
  obtain ⟨φ2,S2⟩:=himp C φ1 a1 w1 S1
  refine wpSIn_of_wpIn rfl (wpIn_mono (xT (ro:=none) y _ φ2 σ2 a1 w1 (.inl rfl) hy S2) ?_)
  intro e a' w' hq
  have fin: ∀φ' σ',qq C φ' σ' a' w'→σ'.df=[]∧R7 C.P rs V none σ'→Kl C fn c₀ cs (fun e u2 w'=> ∃r,e= .returned r∧u2=u'∧ ∃o φ' H',V o H'∧qq C φ' {slots:=[],heap:=H',low:=H.length} {tmps:= #[],defers:=[]} w'∧o.rep (C.env φ' H' w') (.returned r)) .normal a' ({c₀ with mode:=u'}::cs) w':=by
   rintro φ' σ' S' ⟨hdf,xr,hx,r,H',hex,hV'⟩
   refine ⟨_,rfl,φ',σ',S',hdf,fun w'' S''=> ?_⟩
   obtain ⟨vv,hv,rv⟩:=HO (fn:=fn) S'' (by rw[Ph];exact hx)
   obtain ⟨φ3,S3,hr3⟩:=hex C φ' _ w'' S'' vv rv
   rw[DD S''] at S3
   exact ⟨vv,hv,vv,rfl,rfl,.ret r,φ3,H',hV',S3,hr3⟩
  cases e with
  |normal=>obtain ⟨φ',σ',S',hq⟩:=hq;exact fin φ' σ' S' hq
  |ret=>obtain ⟨φ',σ',S',hq⟩:=hq;exact fin φ' σ' S' hq
  |exit id=>obtain ⟨_,_,_,hq⟩:=hq;exact hq.elim
  |goto l=>obtain ⟨_,_,_,hq⟩:=hq;exact hq.elim
  |panic chain=>obtain ⟨_,_,_,_,_,hq,_⟩:=hq;exact hq.elim
  |outgrown=>exact hq.elim
 rcases hmode c₀ cs hu with hm|⟨hm,hv,hu'⟩
 ·simp only[hm]
  exact key
 ·simp only[hm]
  subst hv hu'
  rw[show ({c₀ with mode:=u'}:Frame)=c₀ by rw[←hu]] at key
  exact key
theorem QZ {P:Program} {f:FuncId} {fn:Func} {id:Nat} {ops:Array Oper} {y:Code} {o:Oper} {rest:List Oper} {args:List AV} {x:AV} {H:List AObj} {V:wo→List AObj→Prop} (hf:P.funcs[f]? =some fn) (hb:fn.body=some (.seq (.region id ops false) y)) (LA:ops.toList=o::rest) (Iy:isRec o=true)
 (hnb:nbL H.length (args++[x])) (DK: ∀x∈H,objNb H.length x) {n:Nat} (hn:fn.ntmps=n) {rs:List ResultVar} (Ph:fn.results=rs.toArray)
 (h:Km P ops rest (fun σ1=> ∃σ2,Fi σ1 σ2∧Ri P y (dPost P rs V) σ2) (AState.put {slots:=args++gE (n-args.length) .any,heap:=H,low:=H.length} o.dst x)):XY P (X4 P f) (args++[x]) H V:=by
 refine ⟨hnb,DK,fun C φ w hP h0 hN0 hφ0 hM HS vs hr Ws v hvs=> ?_⟩
 subst hP
 subst hvs
 have hr':m7 (C.env φ H w) args Ws.toList∧rB (C.env φ H w) x v:=by
  rw[Array.toList_push] at hr
  have hl:Ws.toList.length=args.length:=by
   have:=hr.length
   simp at this
   simpa using this
  have h1:=hr.take args.length
  have h2:=hr.drop args.length
  rw[gM rfl,gM hl] at h1
  rw[gN rfl,gN hl] at h2
  obtain ⟨u,us,he,r1,_⟩:=h2
  simp only[List.cons.injEq] at he
  obtain ⟨rfl,_⟩:=he
  exact ⟨h1,r1⟩
 refine A6 (MV (u':= .panicking [{v,recovered:=true}]) hf hb LA Iy (fun c₀ cs hu=> .inl (by simp only[recoverD,hu])) hn Ph hN0 HS hr'.1 hr'.2 h) ?_
 rintro e u' w' ⟨r,rfl,rfl,sY⟩
 exact ⟨r,rfl,.inl ⟨rfl,sY⟩⟩
theorem Q0 {P:Program} {f:FuncId} {fn:Func} {id:Nat} {ops:Array Oper} {y:Code} {o:Oper} {rest:List Oper} {args:List AV} {H:List AObj} {V:wo→List AObj→Prop} (hf:P.funcs[f]? =some fn) (hb:fn.body=some (.seq (.region id ops false) y)) (LA:ops.toList=o::rest) (Iy:isRec o=true)
 (hnb:nbL H.length args) (DK: ∀x∈H,objNb H.length x) {n:Nat} (hn:fn.ntmps=n) {rs:List ResultVar} (Ph:fn.results=rs.toArray)
 (h:Km P ops rest (fun σ1=> ∃σ2,Fi σ1 σ2∧Ri P y (dPost P rs V) σ2) (AState.put {slots:=args++gE (n-args.length) .any,heap:=H,low:=H.length} o.dst (.raw .nilIface))):XY P (X3 P f) args H V:=by
 refine ⟨hnb,DK,fun C φ w hP h0 hN0 hφ0 hM HS vs hr=> ?_⟩
 subst hP
 refine A6 (MV (u':= .returning) (x:= .raw .nilIface) (v:= .nilIface) hf hb LA Iy (fun c₀ cs hu=> .inr ⟨by simp only[recoverD,hu],rfl,rfl⟩) hn Ph hN0 HS hr rfl h) ?_
 rintro e u' w' ⟨r,rfl,rfl,sY⟩
 exact ⟨r,rfl,rfl,sY⟩
section run
variable {R:Type} {M:pO R}
theorem Qr {ops:Array Oper} {K:AState→Prop}: ∀ (rest:List Oper) (σ:AState) (e:qL) (σ':AState),rest.all (fun o=>Sc o.op&&(match o.op with| .call _=>false| .defer _=>false|_=>o.guard.isNone))=true→vu M ops rest σ=some (e,σ')→K σ'→Km M.P ops rest K σ
 |[],σ,e,σ',_,h,hK=>by simp only[vu,gB,gK] at h;obtain ⟨_,rfl⟩:=h;exact hK
 |o::rest,σ,e,σ',hc,h,hK=>by
  rw[List.all_cons,gF,gF] at hc
  obtain ⟨⟨h1,h2⟩,h3⟩:=hc
  have hg:o.guard=none:=by
   split at h2
   ·cases h2
   ·cases h2
   ·simpa using h2
  have hw:sr ops o σ=some true:=by unfold sr;rw[hg]
  have hgs:uy ops o true σ=σ:=Wp hw
  simp only[vu,hw,cond_true,hgs,Lx h1,Yz h1] at h
  have hy:yieldOf σ o.op=none:=by
   unfold yieldOf
   split
   ·rename_i hh;rw[hh] at h2;cases h2
   ·rfl
  have hd:Av σ o.op=none:=by
   unfold Av
   split
   ·rename_i hh;rw[hh] at h2;cases h2
   ·rfl
  simp only[hy,hd] at h
  cases he:nW M.P σ o.op with
  |none=>simp only[he] at h;cases h
  |some e'=>
   simp only[he] at h
   rw[pZ] at h
   exact ⟨hw,e',he,h.1,Qr rest _ e σ' h3 h.2 hK⟩
def Ms (rest:List Oper):Bool:=rest.all fun o=>Sc o.op&&(match o.op with| .call _=>false| .defer _=>false|_=>o.guard.isNone)
theorem rec_run {id:Nat} {ops:Array Oper} {y:Code} {rest:List Oper} {σ:AState} {Q:qL→AState→Prop} {r:R} (G:Good M) (hbody:M.body= .seq (.region id ops false) y) (Qs:Ms rest=true)
 (hout: ∀σ,M.out σ=some r→Q .normal σ∧Q .ret σ) (h:run M [.ops ops rest,.cut [1],.at [1]] σ=some r) (hP: ∀x σ',M.wU x σ'=none:=by intros;rfl):Km M.P ops rest (fun σ1=> ∃σ2,Fi σ1 σ2∧Ri M.P y Q σ2) σ:=by
 have h':fin M [.ops ops rest,.cut [1],.at [1]] .normal σ=some r:=h
 rw[sk (by simp)] at h'
 simp only[x8] at h'
 cases hx:vu M ops rest σ with
 |none=>simp only[hx] at h';cases h'
 |some q=>
  obtain ⟨e,σ1⟩:=q
  have hnorm:e= .normal:=J9 rest σ e σ1 (by
   unfold Ms at Qs
   rw[List.all_eq_true] at Qs ⊢
   intro o ho
   have:=Qs o ho
   rw[gF] at this
   exact this.1) hx
  subst hnorm
  simp only[hx] at h'
  refine Qr rest σ _ σ1 Qs hx ?_
  rw[sk (by simp)] at h'
  simp only[x8] at h'
  cases hcut:M.cut [1] σ1 with
  |none=>simp only[hcut,Option.map_none] at h';cases h'
  |some σ2=>
   simp only[hcut,Option.map_some] at h'
   refine ⟨σ2,G.cut _ _ _ hcut,?_⟩
   have h1:sub [1] M.body=y:=by rw[hbody];rfl
   rw[sk (by simp)] at h'
   simp only[x8,h1] at h'
   cases GP:exec M y [1] σ2 with
   |none=>simp only[GP] at h';cases h'
   |some q=>
    obtain ⟨e2,σ3⟩:=q
    simp only[GP] at h'
    refine xZ G _ [1] _ _ e2 σ3 GP ?_
    cases e2 with
    |normal=>exact (hout σ3 h').1
    |ret=>exact (hout σ3 h').2
    |panic x=>simp only[fin,hP] at h';cases h'
    |_=>simp only[fin] at h';cases h'
end run
end Go.Abs
namespace Go.Abs
inductive PR (α β:Type) where
 |ok (x:α)
 |pn (y:β)
def MW {α β γ:Type} (q:PR α β) (f:α→γ) (g:β→γ):γ:=match q with
 | .ok x=>f x
 | .pn y=>g y
theorem prc_ok {α β γ:Type} {x:α} {f:α→γ} {g:β→γ}:MW (.ok x) f g=f x:=rfl
theorem prc_pn {α β γ:Type} {y:β} {f:α→γ} {g:β→γ}:MW (.pn y) f g=g y:=rfl
theorem bind_prc {α β γ δ:Type} {q:PR α β} {f:α→Option γ} {g:β→Option γ} {h:γ→Option δ}:(MW q f g).bind h=MW q (fun x=>(f x).bind h) (fun y=>(g y).bind h):=by cases q<;>rfl
theorem map_prc {α β γ δ:Type} {q:PR α β} {f:α→Option γ} {g:β→Option γ} {h:γ→δ}:(MW q f g).map h=MW q (fun x=>(f x).map h) (fun y=>(g y).map h):=by cases q<;>rfl
abbrev SD:=List AV→List AObj→Option (wo×List AObj)
section entX1
variable {α β ρ:Type}
def entX1 (pos:List Loc) (os:OL β) (as:AL α) (sz:Nat) (en:ρ→wo×List AObj) (F:β→α→Option ρ):SD:=fun args H=>
 (Uz args H pos []).bind fun ρ=>bif nodupB ρ&&(decide (os.need≤ρ.length)&&(decide (as.need≤ρ.length)&&decide (ρ.length≤sz))) then
   (mapO (Qn H) ρ).bind fun xs=>(os.dec ρ (Oj xs) H xs).bind fun b=>(as.dec ρ (Oj xs) H args).bind fun a=>(F b a).bind fun q=>
     some ((en q).1.ren (qz ρ H.length),vo ρ H (en q).2) else none
theorem Zh {P:Program} {T:Value→World→Array Value→(Ending→World→Prop)→Prop} (hT:MT T) (hz: ∀ (φ φ':Nat→Value) (k k':Nat),T (φ k)=T (φ' k')) {pos:List Loc} {os:OL β} {as:AL α} {sz:Nat} {en:ρ→wo×List AObj} {F:β→α→Option ρ} (hsz: ∀q,sz≤(en q).2.length)
 {args:List AV} {σ:AState} {o:wo} {H':List AObj} (he:entX1 pos os as sz en F args σ.heap=some (o,H')):
 ∃b a q,F b a=some q∧(XY P T (as.enc (os.lens b) a) (os.enc (os.lens b) b) (fun o H'=>o=(en q).1∧H'=(en q).2)→Js P T 0 args σ (fun o' DE=>o'=o∧DE=H')):=by
 unfold entX1 at he
 simp only[gA] at he
 obtain ⟨ρ,hρ,he⟩:=he
 cases hc:(nodupB ρ&&(decide (os.need≤ρ.length)&&(decide (as.need≤ρ.length)&&decide (ρ.length≤sz)))) with
 |false=>simp [hc] at he
 |true=>
  simp only[hc,cond_true,gA,gB,gK] at he
  obtain ⟨xs,hxs,b,hb,a,ha,q,hq,rfl,rfl⟩:=he
  refine ⟨b,a,q,hq,fun hfn=> ?_⟩
  simp only[gF,decide_eq_true_eq] at hc
  obtain ⟨hnd,n1,n2,n3⟩:=hc
  obtain ⟨h1,h2⟩:=Jy hxs
  have Y7: ∀m,m≤ρ.length→Cov ρ m σ.heap.length:=by
   intro m hm k hk
   have hk':k<ρ.length:=by omega
   obtain ⟨x,hx,hx'⟩:=h2 k _ (gD hk')
   exact ⟨_,gD hk',(gC.1 hx').1⟩
  have hL:os.lens b=Oj xs:=funext fun k=>os.Pu ρ _ _ _ _ hb k
  obtain ⟨h3,h4⟩:=os.ok ρ _ σ.heap σ.heap.length _ _ (Y7 _ n1) hb
  have Lr: ∀l,l<ρ.length→Oi ρ l=qz ρ σ.heap.length l:=fun l hl=>by unfold qz Oi;rw[if_pos hl]
  rw[←hL] at ha h4
  refine callXT hT hfn (GM hnd) (by rw[h1,h3,os.sz]) (Nat.le_trans n3 (hsz q)) (fun φ=>hz _ _ _ _) ?_ ?_
  ·intro i k hi
   obtain ⟨x,hx,hx'⟩:=h2 i k hi
   have hlt:i<(os.enc (os.lens b) b).length:=by rw[os.sz,←h3,←h1];exact (gC.1 hi).1
   have hy:=gD hlt
   obtain ⟨x2,GP,hcc⟩:=h4 i _ hy
   rw[hx] at GP;cases GP
   refine ⟨x,_,hx',hy,?_⟩
   rw[←objRen_congr (n:=os.need) (fun l hl=>Lr l (by omega)) _ (os.nb _ _ _ (gU hy))]
   exact hcc
  ·rw[←Az (n:=as.need) (fun l hl=>Lr l (by omega)) _ (as.nb _ _)]
   exact as.ok ρ _ σ.heap _ _ _ (Y7 _ n2) ha
end entX1
section entXP
variable {α β α1 β1 α2 β2:Type}
def pkO (pk:Bool) (x:AV):wo:=match pk with
 |true=> .panic x
 |false=> .ret x
theorem pkO_f {x:AV}:pkO true x= .panic x∧pkO false x= .ret x:=⟨rfl,rfl⟩
theorem pkO_ren {pk:Bool} {x:AV} {τ:Nat→Nat}:(pkO pk x).ren τ=pkO pk (x.ren τ):=by cases pk<;>rfl
def enP (pk:Bool) (An:OL β1) (EZ:AL α1) (Hy:OL β2) (O4:AL α2) (q:PR (β1×α1) (β2×α2)):wo×List AObj:=
 MW q (fun r=>(.ret (uR (EZ.enc (An.lens r.1) r.2)),An.enc (An.lens r.1) r.1)) (fun r=>(pkO pk (uR (O4.enc (Hy.lens r.1) r.2)),Hy.enc (Hy.lens r.1) r.1))
theorem enP_sz {pk:Bool} {An:OL β1} {EZ:AL α1} {Hy:OL β2} {O4:AL α2} (q:PR (β1×α1) (β2×α2)):min An.size Hy.size≤(enP pk An EZ Hy O4 q).2.length:=by
 cases q with
 |ok r=>simp only[enP,MW,An.sz];exact Nat.min_le_left _ _
 |pn r=>simp only[enP,MW,Hy.sz];exact Nat.min_le_right _ _
def entXP (pk:Bool) (pos:List Loc) (os:OL β) (as:AL α) (An:OL β1) (EZ:AL α1) (Hy:OL β2) (O4:AL α2) (F:β→α→Option (PR (β1×α1) (β2×α2))):SD:=fun args H=>
 (Uz args H pos []).bind fun ρ=>bif nodupB ρ&&(decide (os.need≤ρ.length)&&(decide (as.need≤ρ.length)&&(decide (ρ.length≤An.size)&&decide (ρ.length≤Hy.size)))) then
   (mapO (Qn H) ρ).bind fun xs=>(os.dec ρ (Oj xs) H xs).bind fun b=>(as.dec ρ (Oj xs) H args).bind fun a=>(F b a).bind fun q=>
     MW q (fun r=>some (.ret ((uR (EZ.enc (An.lens r.1) r.2)).ren (qz ρ H.length)),vo ρ H (An.enc (An.lens r.1) r.1)))
      (fun r=>some (pkO pk ((uR (O4.enc (Hy.lens r.1) r.2)).ren (qz ρ H.length)),vo ρ H (Hy.enc (Hy.lens r.1) r.1))) else none
theorem entXP_eq {pk:Bool} {pos:List Loc} {os:OL β} {as:AL α} {An:OL β1} {EZ:AL α1} {Hy:OL β2} {O4:AL α2} {F:β→α→Option (PR (β1×α1) (β2×α2))} {args:List AV} {H:List AObj}:
 entXP pk pos os as An EZ Hy O4 F args H=entX1 pos os as (min An.size Hy.size) (enP pk An EZ Hy O4) F args H:=by
 unfold entXP entX1
 congr 1
 funext ρ
 have:decide (ρ.length≤min An.size Hy.size)=(decide (ρ.length≤An.size)&&decide (ρ.length≤Hy.size)):=by
  rw[gP]
  simp only[decide_eq_true_eq,gF]
  exact Nat.le_min
 rw[this]
 congr 1
 congr 1
 funext xs
 congr 1
 funext b
 congr 1
 funext a
 congr 1
 funext q
 cases q with
 |ok r=>rfl
 |pn r=>simp only[MW,enP,pkO_ren]
def EntPOK (P:Program) (f:FuncId) (e:SD):Prop:= ∀args σ o H',e args σ.heap=some (o,H')→AU P f args σ (fun o' DE=>o'=o∧DE=H')
def FnP (P:Program) (f:FuncId) (args:List AV) (H:List AObj) (x:wo×List AObj):Prop:=Ob P f args H (fun o H'=>o=x.1∧H'=x.2)
theorem CG {P:Program} {f:FuncId} {pk:Bool} {pos:List Loc} {os:OL β} {as:AL α} {An:OL β1} {EZ:AL α1} {Hy:OL β2} {O4:AL α2} {F:β→α→Option (PR (β1×α1) (β2×α2))}
 (h: ∀b a r,F b a=some r→FnP P f (as.enc (os.lens b) a) (os.enc (os.lens b) b) (enP pk An EZ Hy O4 r)):EntPOK P f (entXP pk pos os as An EZ Hy O4 F):=by
 intro args σ o H' he
 rw[entXP_eq] at he
 obtain ⟨b,a,q,hq,xX⟩:=Zh (P:=P) (T:=fun _ w vs R=>Calls P f vs w R) NB (fun _ _ _ _=>rfl) enP_sz he
 exact ⟨(h b a q hq).1,xX (h b a q hq).2⟩
theorem On: ∀ (ρ:List Nat) (xs H:List AObj),p4 H (ρ.zip xs)=tG H ρ xs
 |[],_,_=>by simp [p4,tG]
 |_::_,[],_=>by simp [p4,tG]
 |l::ρ,x::xs,H=>by
  simp only[List.zip_cons_cons,p4,tG]
  exact On ρ xs _
def Oo (pos:List Loc) (os:OL β) (as:AL α) (An:OL β1) (EZ:AL α1) (Hy:OL β2) (O4:AL α2) (F:β→α→Option (PR (β1×α1) (β2×α2))):List AV→List AObj→Option CO:=fun args H=>
 (Uz args H pos []).bind fun ρ=>bif nodupB ρ&&(decide (os.need≤ρ.length)&&(decide (as.need≤ρ.length)&&(decide (ρ.length≤An.size)&&decide (ρ.length≤Hy.size)))) then
   (mapO (Qn H) ρ).bind fun xs=>(os.dec ρ (Oj xs) H xs).bind fun b=>(as.dec ρ (Oj xs) H args).bind fun a=>(F b a).bind fun q=>
     MW q (fun r=>some (.ret {val:=(uR (EZ.enc (An.lens r.1) r.2)).ren (qz ρ H.length),rd:=ρ,up:=ρ.zip ((An.enc (An.lens r.1) r.1).map (AObj.ren (qz ρ H.length))),nw:=((An.enc (An.lens r.1) r.1).drop ρ.length).map (AObj.ren (qz ρ H.length)),whole:=true}))
      (fun r=>some (.pan ((uR (O4.enc (Hy.lens r.1) r.2)).ren (qz ρ H.length)) (vo ρ H (Hy.enc (Hy.lens r.1) r.1)))) else none
def EntCOK (P:Program) (f:FuncId) (e:List AV→List AObj→Option CO):Prop:= ∀args (σ:AState),(∀ef,e args σ.heap=some (.ret ef)→DH P f args σ ef)∧ ∀x H',e args σ.heap=some (.pan x H')→XR P f args σ.heap x H'
theorem Zi {P:Program} {f:FuncId} {pos:List Loc} {os:OL β} {as:AL α} {An:OL β1} {EZ:AL α1} {Hy:OL β2} {O4:AL α2} {F:β→α→Option (PR (β1×α1) (β2×α2))}
 (h: ∀b a r,F b a=some r→FnP P f (as.enc (os.lens b) a) (os.enc (os.lens b) b) (enP true An EZ Hy O4 r)):EntCOK P f (Oo pos os as An EZ Hy O4 F):=by
 have hP:=CG (pos:=pos) h
 intro args σ
 have key: ∀c,Oo pos os as An EZ Hy O4 F args σ.heap=some c→ ∃ρ,(∀l∈ρ,l<σ.heap.length)∧((∃ef,c= .ret ef∧(ef.rd=ρ∧ef.whole=true∧ ∀l∈ef.up.map (·.1),l∈ρ)∧entXP true pos os as An EZ Hy O4 F args σ.heap=some (.ret ef.val,p4 σ.heap ef.up++ef.nw))∨ ∃x H',c= .pan x H'∧entXP true pos os as An EZ Hy O4 F args σ.heap=some (.panic x,H')):=by
  intro c he
  unfold Oo at he
  simp only[gA] at he
  obtain ⟨ρ,hρ,he⟩:=he
  cases hc:(nodupB ρ&&(decide (os.need≤ρ.length)&&(decide (as.need≤ρ.length)&&(decide (ρ.length≤An.size)&&decide (ρ.length≤Hy.size))))) with
  |false=>simp [hc] at he
  |true=>
   simp only[hc,cond_true,gA] at he
   obtain ⟨xs,hxs,b,hb,a,ha,q,hq,he⟩:=he
   refine ⟨ρ,fun l hl=> ?_,?_⟩
   ·obtain ⟨i,hi⟩:=gL hl
    obtain ⟨x,_,hx'⟩:=(Jy hxs).2 i l hi
    exact (gC.1 hx').1
   ·have hbase:entXP true pos os as An EZ Hy O4 F args σ.heap=MW q (fun r=>some (.ret ((uR (EZ.enc (An.lens r.1) r.2)).ren (qz ρ σ.heap.length)),vo ρ σ.heap (An.enc (An.lens r.1) r.1)))
     (fun r=>some (.panic ((uR (O4.enc (Hy.lens r.1) r.2)).ren (qz ρ σ.heap.length)),vo ρ σ.heap (Hy.enc (Hy.lens r.1) r.1))):=by
     unfold entXP
     simp only[hρ,Option.bind_some,hc,cond_true,hxs,hb,ha,hq,pkO]
    cases q with
    |ok r=>
     simp only[MW,gB] at he
     subst he
     left
     refine ⟨_,rfl,⟨rfl,rfl,fun l hl=> ?_⟩,?_⟩
     ·simp only[gW] at hl
      obtain ⟨p,hp,rfl⟩:=hl
      exact (List.of_mem_zip hp).1
     ·rw[hbase]
      simp only[MW,On]
      rfl
    |pn r=>
     simp only[MW,gB] at he
     subst he
     right
     exact ⟨_,_,rfl,hbase⟩
 refine ⟨fun ef he=> ?_,fun x H' he=> ?_⟩
 ·obtain ⟨ρ,hlt,⟨ef',hc,⟨h1,h2,h3⟩,hx⟩|⟨_,_,hc,_⟩⟩:=key _ he
  ·simp only[CO.ret.injEq] at hc
   subst hc
   refine ⟨⟨by rw[h1];exact hlt,by rw[h1];exact h3⟩,fun σ' _ _ hw=> ?_⟩
   have hh:=hw h2
   have:=hP args σ' (.ret ef.val) (p4 σ.heap ef.up++ef.nw) (by rw[hh];exact hx)
   rw[hh]
   exact this
  ·cases hc
 ·obtain ⟨ρ,hlt,⟨ef',hc,_⟩|⟨x',H2,hc,hx⟩⟩:=key _ he
  ·cases hc
  ·simp only[CO.pan.injEq] at hc
   obtain ⟨rfl,rfl⟩:=hc
   intro σ' hh
   exact hP args σ' (.panic x) H' (by rw[hh];exact hx)
end entXP
def Jz:List (Nat×SD)→FuncId→SD
 |[],_,_,_=>none
 |(g,e)::t,f,args,H=>if f=g then e args H else Jz t f args H
theorem BG {P:Program}: ∀f args (σ:AState) o H',Jz [] f args σ.heap=some (o,H')→AU P f args σ (fun o' DE=>o'=o∧DE=H'):=by
 intro f args σ r H' h;cases h
theorem xF {P:Program} {g:Nat} {e:SD} {t:List (Nat×SD)} (h1:EntPOK P g e) (h2: ∀f args (σ:AState) o H',Jz t f args σ.heap=some (o,H')→AU P f args σ (fun o' DE=>o'=o∧DE=H')):
 ∀f args (σ:AState) o H',Jz ((g,e)::t) f args σ.heap=some (o,H')→AU P f args σ (fun o' DE=>o'=o∧DE=H'):=by
 intro f args σ r H' h
 simp only[Jz] at h
 split at h
 ·rename_i hg;subst hg;exact h1 _ _ _ _ h
 ·exact h2 _ _ _ _ _ h
def Py:List (Nat×(List AV→List AObj→Option CO))→FuncId→List AV→List AObj→Option CO
 |[],_,_,_=>none
 |(g,e)::t,f,args,H=>if f=g then e args H else Py t f args H
theorem Qt {P:Program}: ∀f args (σ:AState),(∀e,Py [] f args σ.heap=some (.ret e)→DH P f args σ e)∧ ∀x H',Py [] f args σ.heap=some (.pan x H')→XR P f args σ.heap x H':=by
 intro f args σ;exact ⟨fun e h=>(by cases h),fun x H' h=>(by cases h)⟩
theorem Oq {P:Program} {g:Nat} {e:List AV→List AObj→Option CO} {t:List (Nat×(List AV→List AObj→Option CO))} (h1:EntCOK P g e) (h2: ∀f args (σ:AState),(∀e,Py t f args σ.heap=some (.ret e)→DH P f args σ e)∧ ∀x H',Py t f args σ.heap=some (.pan x H')→XR P f args σ.heap x H'):
 ∀f args (σ:AState),(∀ef,Py ((g,e)::t) f args σ.heap=some (.ret ef)→DH P f args σ ef)∧ ∀x H',Py ((g,e)::t) f args σ.heap=some (.pan x H')→XR P f args σ.heap x H':=by
 intro f args σ
 simp only[Py]
 by_cases hg:f=g
 ·subst hg;simp only[if_true];exact h1 args σ
 ·simp only[if_neg hg];exact h2 f args σ
def isIn:List Nat→FuncId→Bool
 |[],_=>false
 |g::t,f=>f==g||isIn t f
abbrev Q1:=FuncId→List AV→List AObj→Option (wo×List AObj)
section unw
variable {R:Type}
noncomputable def MD (cr cp:Q1) (en:Option AV→AState→Option R):List (FuncId×List AV)→Option AV→AState→Option R
 |[],m,σ=>en m σ
 |(f,args)::ds,none,σ=>(cr f args σ.heap).bind fun q=>match q with
  |(.ret _,H')=>MD cr cp en ds none {σ with heap:=H',df:=ds}
  |(.panic _,_)=>none
 |(f,args)::ds,some x,σ=>(cp f (args++[x]) σ.heap).bind fun q=>match q with
  |(.ret _,H')=>MD cr cp en ds none {σ with heap:=H',df:=ds}
  |(.panic x',H')=>MD cr cp en ds (some x') {σ with heap:=H',df:=ds}
theorem Zj {cr cp:Q1} {en:Option AV→AState→Option R} {m:Option AV} {σ:AState}:MD cr cp en [] m σ=en m σ:=by cases m<;>rfl
noncomputable def unwQ (cr cp:Q1) (en:Option AV→AState→Option R) (ds:List (FuncId×List AV)) (σ:AState):wo×List AObj→Option R
 |(.ret _,H')=>MD cr cp en ds none {σ with heap:=H',df:=ds}
 |(.panic x',H')=>MD cr cp en ds (some x') {σ with heap:=H',df:=ds}
noncomputable def unwR (cr cp:Q1) (en:Option AV→AState→Option R) (ds:List (FuncId×List AV)) (σ:AState):wo×List AObj→Option R
 |(.ret _,H')=>MD cr cp en ds none {σ with heap:=H',df:=ds}
 |(.panic x',H')=>none
theorem unwX_ret {cr cp:Q1} {en:Option AV→AState→Option R} {f:FuncId} {args:List AV} {ds:List (FuncId×List AV)} {σ:AState}:MD cr cp en ((f,args)::ds) none σ=(cr f args σ.heap).bind (unwR cr cp en ds σ):=by
 simp only[MD];congr 1
theorem unwX_pan {cr cp:Q1} {en:Option AV→AState→Option R} {f:FuncId} {args:List AV} {ds:List (FuncId×List AV)} {x:AV} {σ:AState}:MD cr cp en ((f,args)::ds) (some x) σ=(cp f (args++[x]) σ.heap).bind (unwQ cr cp en ds σ):=by
 simp only[MD];congr 1
def QOK (P:Program) (T:FuncId→Value→World→Array Value→(Ending→World→Prop)→Prop) (c:Q1):Prop:= ∀f args (σ:AState) o H',c f args σ.heap=some (o,H')→enters P f=true∧Js P (T f) 0 args σ (fun o' DE=>o'=o∧DE=H')
theorem Js.mono {P:Program} {T:Value→World→Array Value→(Ending→World→Prop)→Prop} (hT:MT T) {l:Nat} {args:List AV} {σ:AState} {K K':wo→List AObj→Prop} (h:Js P T l args σ K) (hk: ∀o H,K o H→K' o H):Js P T l args σ K':=by
 intro C φ a w hP S vs hr
 refine hT.mono _ _ _ _ _ ?_ (h C φ a w hP S vs hr)
 rintro e w' ⟨o,φ',H',h1,h2⟩
 exact ⟨o,φ',H',hk _ _ h1,h2⟩
theorem Ot {P:Program} {cr cp:Q1} {en:Option AV→AState→Option R} {fin:Option AV→AState→Prop} {r:R} (hr:QOK P (X3 P) cr) (hp:QOK P (X4 P) cp) (he: ∀m σ,σ.df=[]→en m σ=some r→fin m σ):
 ∀ (ds:List (FuncId×List AV)) (m:Option AV) (σ:AState),σ.df=ds→MD cr cp en ds m σ=some r→Oe P fin ds m σ
 |[],m,σ,hd,h=>by rw[Zj] at h;exact he m σ hd h
 |(f,args)::ds,none,σ,hd,h=>by
  simp only[MD,gA] at h
  obtain ⟨⟨o,H'⟩,hc,h⟩:=h
  obtain ⟨h1,h2⟩:=hr f args {σ with df:=ds} o H' hc
  refine ⟨h1,h2.mono Vp ?_⟩
  rintro o' DE ⟨rfl,rfl⟩
  cases o' with
  |ret x=>exact Ot hr hp he ds none _ rfl h
  |panic x=>cases h
 |(f,args)::ds,some x,σ,hd,h=>by
  simp only[MD,gA] at h
  obtain ⟨⟨o,H'⟩,hc,h⟩:=h
  obtain ⟨h1,h2⟩:=hp f (args++[x]) {σ with df:=ds} o H' hc
  refine ⟨h1,h2.mono Vq ?_⟩
  rintro o' DE ⟨rfl,rfl⟩
  cases o' with
  |ret x=>exact Ot hr hp he ds none _ rfl h
  |panic x=>exact Ot hr hp he ds (some x) _ rfl h
def ME:List (Nat×SD)→Q1
 |[],_,_,_=>none
 |(g,e)::t,f,args,H=>if f=g then e args H else ME t f args H
theorem Qu {P:Program} {T:FuncId→Value→World→Array Value→(Ending→World→Prop)→Prop}:QOK P T (ME []):=by
 intro f args σ o H' h;cases h
theorem Ou {P:Program} {T:FuncId→Value→World→Array Value→(Ending→World→Prop)→Prop} {g:Nat} {e:SD} {t:List (Nat×SD)} (h1: ∀args (σ:AState) o H',e args σ.heap=some (o,H')→enters P g=true∧Js P (T g) 0 args σ (fun o' DE=>o'=o∧DE=H')) (h2:QOK P T (ME t)):QOK P T (ME ((g,e)::t)):=by
 intro f args σ o H' h
 simp only[ME] at h
 split at h
 ·rename_i hg;subst hg;exact h1 _ _ _ _ h
 ·exact h2 _ _ _ _ _ h
def Zk {α1 β1:Type} (An:OL β1) (EZ:AL α1) (r:β1×α1):wo×List AObj:=(.ret (uR (EZ.enc (An.lens r.1) r.2)),An.enc (An.lens r.1) r.1)
def K2 {α β α1 β1:Type} (pos:List Loc) (os:OL β) (as:AL α) (An:OL β1) (EZ:AL α1) (F:β→α→Option (β1×α1)):SD:=entX1 pos os as An.size (Zk An EZ) F
theorem Zl {α β α1 β1:Type} {P:Program} {T:Value→World→Array Value→(Ending→World→Prop)→Prop} {f:FuncId} (hT:MT T) (hz: ∀ (φ φ':Nat→Value) (k k':Nat),T (φ k)=T (φ' k')) (hen:enters P f=true) {pos:List Loc} {os:OL β} {as:AL α} {An:OL β1} {EZ:AL α1} {F:β→α→Option (β1×α1)}
 (h: ∀b a r,F b a=some r→XY P T (as.enc (os.lens b) a) (os.enc (os.lens b) b) (fun o H'=>o=(Zk An EZ r).1∧H'=(Zk An EZ r).2)): ∀args (σ:AState) o H',K2 pos os as An EZ F args σ.heap=some (o,H')→enters P f=true∧Js P T 0 args σ (fun o' DE=>o'=o∧DE=H'):=by
 intro args σ o H' he
 obtain ⟨b,a,q,hq,xX⟩:=Zh (P:=P) (T:=T) hT hz (fun q=>by simp only[Zk,An.sz];exact Nat.le_refl _) he
 exact ⟨hen,xX (h b a q hq)⟩
end unw
section steps
variable {R:Type} {M:pO R} {k:List Kt} {σ:AState} {α β:Type} {q:PR α β}
theorem stepP_prc {ops:Array Oper} {dst:Option Tmp} {rest:List Oper} {f:α→Option (wo×List AObj)} {g:β→Option (wo×List AObj)}:Gu M ops dst rest k σ (MW q f g)=MW q (fun x=>Gu M ops dst rest k σ (f x)) (fun y=>Gu M ops dst rest k σ (g y)):=by cases q<;>rfl
theorem stepDP_prc {p:List Nat} {dst:Option Tmp} {rest:List Oper} {j:Nat} {tr:List Tr} {f:α→Option CO} {g:β→Option CO}:EV M p dst rest j tr k σ (MW q f g)=MW q (fun x=>EV M p dst rest j tr k σ (f x)) (fun y=>EV M p dst rest j tr k σ (g y)):=by cases q<;>rfl
end steps
attribute [go_sem] pkO_f prc_ok prc_pn bind_prc map_prc stepP_prc stepDP_prc entXP Oo K2 entX1 Zk Jz Py ME isIn Zj unwX_ret unwX_pan unwQ unwR List.zip_cons_cons List.zip_nil_left wo.ren
section ends
variable {R:Type} {M:pO R} {α β α1 β1 α2 β2:Type}
noncomputable def Ov (P:Program) (rs:List ResultVar) (pos:List Loc) (base:List Nat) (low:Nat) (os:OL β1) (s:AL α1) (σ:AState):Option (PR (β1×α1) (β2×α2)):=(Ca P rs pos base low os s σ).map .ok
noncomputable def Ow (pos:List Loc) (base:List Nat) (low:Nat) (os:OL β2) (s:AL α2) (x:AV) (σ:AState):Option (PR (β1×α1) (β2×α2)):=(outL [x] pos base low os s σ).map .pn
attribute [go_sem] Ov Ow
theorem tupOf_one {y:AV}:uR [y]=y:=rfl
theorem WO {f:FuncId} {fn:Func} {args:List AV} {H:List AObj} {r:PR (β1×α1) (β2×α2)} {M:pO (PR (β1×α1) (β2×α2))} {n:Nat} {rs:List ResultVar} {An:OL β1} {EZ:AL α1} {Hy:OL β2} {O4:AL α2} {p1 p2:List Loc} {b1 b2:List Nat} {low:Nat} (G:Good M) (hf:M.P.funcs[f]? =some fn) (hb:fn.body=some M.body) (hne:(fn.name != "runtime.NumGoroutine")=true)
 (hnb:nbL H.length args) (DK: ∀x∈H,objNb H.length x) (hn:fn.ntmps=n) (Ph:fn.results=rs.toArray) (Xo:b1=gH low) (hb2:b2=gH low) (hone: ∀b a,∃y,O4.enc (Hy.lens b) a=[y])
 (ho:M.out=Ov M.P rs p1 b1 low An EZ) (hq:M.wU=Ow p2 b2 low Hy O4)
 (h:run M [.at []] {slots:=args++gE (n-args.length) .any,heap:=H,low:=H.length}=some r):FnP M.P f args H (enP true An EZ Hy O4 r):=by
 refine Sm G hf hb hne hnb DK hn Ph (fun σ hs=> ?_) (fun x σ hs=> ?_) h
 ·rw[ho] at hs
  unfold Ov at hs
  rw[gG] at hs
  obtain ⟨q,hq,rfl⟩:=hs
  obtain ⟨hd,xs,hx,himp⟩:=AA Xo hq
  rw[hd]
  exact Jx hx himp
 ·rw[hq] at hs
  unfold Ow at hs
  rw[gG] at hs
  obtain ⟨q,hq,rfl⟩:=hs
  obtain ⟨hd,himp⟩:=Rq hb2 hq
  rw[hd]
  obtain ⟨y,hy⟩:=hone q.1 q.2
  rw[hy] at himp
  have:=gEnd_pan (P:=M.P) (rs:=rs) himp.e
  simp only[enP,MW,hy,tupOf_one,pkO]
  exact this
noncomputable def SE (P:Program) (rs:List ResultVar) (p1:List Loc) (base:List Nat) (low:Nat) (An:OL β1) (s1:AL α1) (p2:List Loc) (Hy:OL β2) (s2:AL α2) (σ:AState):Option (PR (β1×α1) (β2×α2)):=
 ((Ca P rs p1 base low An s1 σ).map .ok).or ((Ca P rs p2 base low Hy s2 σ).map .pn)
attribute [go_sem] SE
theorem fnS_run {f:FuncId} {fn:Func} {args:List AV} {H:List AObj} {r:PR (β1×α1) (β2×α2)} {M:pO (PR (β1×α1) (β2×α2))} {n:Nat} {rs:List ResultVar} {An:OL β1} {EZ:AL α1} {Hy:OL β2} {O4:AL α2} {p1 p2:List Loc} {b1:List Nat} {low:Nat} (G:Good M) (hf:M.P.funcs[f]? =some fn) (hb:fn.body=some M.body) (hne:(fn.name != "runtime.NumGoroutine")=true)
 (hnb:nbL H.length args) (DK: ∀x∈H,objNb H.length x) (hn:fn.ntmps=n) (Ph:fn.results=rs.toArray) (Xo:b1=gH low) (ho:M.out=SE M.P rs p1 b1 low An EZ p2 Hy O4)
 (h:run M [.at []] {slots:=args++gE (n-args.length) .any,heap:=H,low:=H.length}=some r) (hP: ∀x σ',M.wU x σ'=none:=by intros;rfl):FnP M.P f args H (enP false An EZ Hy O4 r):=by
 refine Sm G hf hb hne hnb DK hn Ph (fun σ hs=> ?_) (fun x σ hs=>by rw[hP x σ] at hs;cases hs) h
 rw[ho] at hs
 unfold SE at hs
 rw[Option.or_eq_some_iff] at hs
 rcases hs with hs|⟨_,hs⟩
 ·rw[gG] at hs
  obtain ⟨q,hq,rfl⟩:=hs
  obtain ⟨hd,xs,hx,himp⟩:=AA Xo hq
  rw[hd]
  exact Jx hx himp
 ·rw[gG] at hs
  obtain ⟨q,hq,rfl⟩:=hs
  obtain ⟨hd,xs,hx,himp⟩:=AA Xo hq
  rw[hd]
  exact Jx hx himp
noncomputable def enC {ρ:Type} (P:Program) (rs:List ResultVar) (t:Ty ρ):Option AV→AState→Option ρ
 |none,σ=>pW P rs t σ
 |some _,_=>none
theorem enC_f {ρ:Type} {P:Program} {rs:List ResultVar} {t:Ty ρ} {σ:AState}:enC P rs t none σ=pW P rs t σ∧ ∀x,enC P rs t (some x) σ=none:=⟨rfl,fun _=>rfl⟩
noncomputable def outU {ρ:Type} (cr cp:Q1) (P:Program) (rs:List ResultVar) (t:Ty ρ) (σ:AState):Option ρ:=MD cr cp (enC P rs t) σ.df none σ
noncomputable def outUP {ρ:Type} (cr cp:Q1) (P:Program) (rs:List ResultVar) (t:Ty ρ) (x:AV) (σ:AState):Option ρ:=MD cr cp (enC P rs t) σ.df (some x) σ
attribute [go_sem] enC_f outU outUP
theorem fnC_runU {ρ:Type} {M:pO ρ} {f:FuncId} {fn:Func} {args:List AV} {r:ρ} {n:Nat} {rs:List ResultVar} {t:Ty ρ} {cr cp:Q1} (G:Good M) (hcr:QOK M.P (X3 M.P) cr) (hcp:QOK M.P (X4 M.P) cp) (hf:M.P.funcs[f]? =some fn) (hb:fn.body=some M.body) (hne:(fn.name != "runtime.NumGoroutine")=true) (hnb:nbL 0 args)
 (hn:fn.ntmps=n) (Ph:fn.results=rs.toArray) (ho:M.out=outU cr cp M.P rs t) (hq:M.wU=outUP cr cp M.P rs t)
 (h:run M [.at []] {slots:=args++gE (n-args.length) .any,heap:=[]}=some r):xS M.P f args (fun v=>v=t.enc r):=by
 have hend: ∀m σ,σ.df=[]→enC M.P rs t m σ=some r→cEnd M.P rs (fun v=>v=t.enc r) m σ:=by
  intro m σ _ he
  cases m with
  |none=>exact (pz he).2
  |some x=>cases he
 refine Wt hf hb hne hnb ?_
 rw[Ph,hn]
 refine NF G h (fun σ hs=> ?_) (fun x σ hs=> ?_)
 ·rw[ho] at hs
  have:=Ot hcr hcp hend σ.df none σ rfl hs
  exact ⟨this,this⟩
 ·rw[hq] at hs
  exact Ot hcr hcp hend σ.df (some x) σ rfl hs
theorem Zm {M:pO (β1×α1)} {f:FuncId} {fn:Func} {id:Nat} {ops:Array Oper} {y:Code} {o:Oper} {rest:List Oper} {args:List AV} {x:AV} {H:List AObj} {r:β1×α1} {n:Nat} {rs:List ResultVar} {An:OL β1} {EZ:AL α1} {p1:List Loc} {b1:List Nat} {low:Nat} (G:Good M)
 (hf:M.P.funcs[f]? =some fn) (hb:fn.body=some M.body) (hbody:M.body= .seq (.region id ops false) y) (LA:ops.toList=o::rest) (Iy:isRec o=true) (Qs:Ms rest=true)
 (hnb:nbL H.length (args++[x])) (DK: ∀x∈H,objNb H.length x) (hn:fn.ntmps=n) (Ph:fn.results=rs.toArray) (Xo:b1=gH low) (ho:M.out=Ca M.P rs p1 b1 low An EZ)
 (h:run M [.ops ops rest,.cut [1],.at [1]] (AState.put {slots:=args++gE (n-args.length) .any,heap:=H,low:=H.length} o.dst x)=some r) (hP: ∀x σ',M.wU x σ'=none:=by intros;rfl):
 XY M.P (X4 M.P f) (args++[x]) H (fun o H'=>o=(Zk An EZ r).1∧H'=(Zk An EZ r).2):=by
 refine QZ hf (by rw[hb,hbody]) LA Iy hnb DK hn Ph (rec_run G hbody Qs (fun σ hs=> ?_) h hP)
 rw[ho] at hs
 obtain ⟨hd,xs,hx,himp⟩:=AA Xo hs
 have:=Jx hx himp
 exact ⟨⟨hd,this⟩,hd,this⟩
theorem Zn {M:pO (β1×α1)} {f:FuncId} {fn:Func} {id:Nat} {ops:Array Oper} {y:Code} {o:Oper} {rest:List Oper} {args:List AV} {H:List AObj} {r:β1×α1} {n:Nat} {rs:List ResultVar} {An:OL β1} {EZ:AL α1} {p1:List Loc} {b1:List Nat} {low:Nat} (G:Good M)
 (hf:M.P.funcs[f]? =some fn) (hb:fn.body=some M.body) (hbody:M.body= .seq (.region id ops false) y) (LA:ops.toList=o::rest) (Iy:isRec o=true) (Qs:Ms rest=true)
 (hnb:nbL H.length args) (DK: ∀x∈H,objNb H.length x) (hn:fn.ntmps=n) (Ph:fn.results=rs.toArray) (Xo:b1=gH low) (ho:M.out=Ca M.P rs p1 b1 low An EZ)
 (h:run M [.ops ops rest,.cut [1],.at [1]] (AState.put {slots:=args++gE (n-args.length) .any,heap:=H,low:=H.length} o.dst (.raw .nilIface))=some r) (hP: ∀x σ',M.wU x σ'=none:=by intros;rfl):
 XY M.P (X3 M.P f) args H (fun o H'=>o=(Zk An EZ r).1∧H'=(Zk An EZ r).2):=by
 refine Q0 hf (by rw[hb,hbody]) LA Iy hnb DK hn Ph (rec_run G hbody Qs (fun σ hs=> ?_) h hP)
 rw[ho] at hs
 obtain ⟨hd,xs,hx,himp⟩:=AA Xo hs
 have:=Jx hx himp
 exact ⟨⟨hd,this⟩,hd,this⟩
end ends
def dIf {α:Type} (t:TypeId) (a:Ty α):AV→Option α
 | .iface t' v=>if t'=t then a.dec [] v else none
 |_=>none
theorem sub_iface {t:TypeId} {x y:AV} (h:Sub x y):Sub (.iface t x) (.iface t y):=by
 rintro E v ⟨u,hu,r⟩
 exact ⟨u,hu,h _ _ r⟩
def FI {α:Type} (t:TypeId) (a:Ty α):Ty α where
 enc x:= .iface t (a.enc x)
 dec _:=dIf t a
 ok H n v x h:=by
  unfold dIf at h
  split at h
  ·split at h
   ·rename_i ht
    subst ht
    exact Co.sub (sub_iface (a.ok [] n _ _ h).toSub) (a.nb n x)
   ·cases h
  ·cases h
 nb n x:=a.nb n x
theorem tyIf_f {α:Type} {t:TypeId} {a:Ty α}:(∀x,(FI t a).enc x= .iface t (a.enc x))∧(∀H v,(FI t a).dec H v=dIf t a v)∧ ∀v,dIf t a (.iface t v)=a.dec [] v:=⟨fun _=>rfl,fun _ _=>rfl,fun _=>by simp [dIf]⟩
def dE0:AV→Option Unit
 | .agg []=>some ()
 |_=>none
def FJ:Ty Unit where
 enc _:= .agg []
 dec _:=dE0
 ok H n v x h:=by
  unfold dE0 at h
  split at h
  ·exact Co.same trivial
  ·cases h
 nb n x:=trivial
theorem tyE0_f:(∀x,FJ.enc x= .agg [])∧(∀H v,FJ.dec H v=dE0 v)∧dE0 (.agg [])=some ():=⟨fun _=>rfl,fun _ _=>rfl,rfl⟩
attribute [go_sem] tyIf_f tyE0_f
end Go.Abs
namespace Go.Abs
def mcT {α:Type} (t:Ty α) (p:Str×α):AV×AV:=(.str (sb p.1),t.enc p.2)
section
variable {α:Type} {t:Ty α}
theorem LB: ∀xs:List (Str×α),F7 (xs.map (mcT t))=true
 |[]=>rfl
 |_::xs=>LB xs
theorem Ox (s:Str): ∀xs:List (Str×α),xC (sb s) (xs.map (mcT t))=(sI s xs).map t.enc
 |[]=>rfl
 |(k,v)::xs=>by
  show (bif sb s==sb k then some (t.enc v) else xC (sb s) (xs.map (mcT t)))=_
  rw[WL,Ox s xs]
  simp only[sI]
  cases s==k<;>rfl
theorem Qv (s:Str) (v:α): ∀xs:List (Str×α),EP (sb s) (t.enc v) (xs.map (mcT t))=(zW s v xs).map (mcT t)
 |[]=>rfl
 |(k,u)::xs=>by
  show (bif sb s==sb k then (AV.str (sb k),t.enc v)::xs.map (mcT t) else (AV.str (sb k),t.enc u)::EP (sb s) (t.enc v) (xs.map (mcT t)))=_
  rw[WL,Qv s v xs]
  simp only[zW]
  cases s==k<;>rfl
def Rr {γ:Type} (o:Option α) (a:γ) (f:α→γ):γ:=match o with
 |none=>a
 |some x=>f x
theorem oel_none {γ:Type} {a:γ} {f:α→γ}:Rr none a f=a:=rfl
theorem oel_some {γ:Type} {x:α} {a:γ} {f:α→γ}:Rr (some x) a f=f x:=rfl
theorem lookOk_T {z:AV} {l:Nat} {s:Str} {xs:List (Str×α)}:O7 z l (sb s) (some (.map (mp (mcT t) xs)))=Rr (sI s xs) (some {val:= .tup [z,.bool false],rd:=[l]}) (fun x=>some {val:= .tup [t.enc x,.bool true],rd:=[l]}):=by
 rw[uc]
 simp only[O7,LB,if_true,Ox]
 cases sI s xs<;>rfl
theorem WQ {l:Nat} {s:Str} {v:α} {xs:List (Str×α)}:mapUpEff l (sb s) (t.enc v) (some (.map (mp (mcT t) xs)))=some {val:= .any,rd:=[l],up:=[(l,.map (mp (mcT t) (zW s v xs)))]}:=by
 rw[uc,uc]
 simp only[mapUpEff,LB,if_true,Qv]
theorem Oy (n:Nat) (xs:List (Str×α)):objNb n (.map (mp (mcT t) xs))=True:=by
 refine eq_true fun p hp=> ?_
 rw[uc,gW] at hp
 obtain ⟨q,_,rfl⟩:=hp
 exact ⟨trivial,t.nb n q.2⟩
theorem mapNbF_T (n:Nat) (xs:List (Str×α)):(∀p:AV×AV,p∈mp (mcT t) xs→AV.nb n p.1∧AV.nb n p.2)=True:=Oy n xs
theorem Zo (ρ:Nat→Nat) (xs:List (Str×α)):(mp (mcT t) xs).map (fun p=>(AV.ren ρ p.1,AV.ren ρ p.2))=mp (mcT t) xs:=by
 rw[uc,gX]
 refine gO fun q _=> ?_
 show (AV.ren ρ (.str (sb q.1)),AV.ren ρ (t.enc q.2))=(.str (sb q.1),t.enc q.2)
 rw[ET ρ _ (t.nb 0 q.2)];rfl
theorem Zp (τ:Nat→Nat) (xs:List (Str×α)):(AObj.map (mp (mcT t) xs)).ren τ= .map (mp (mcT t) xs):=by
 show AObj.map ((mp (mcT t) xs).map _)=_
 congr 1
 exact Zo τ xs
noncomputable def NL (t:Ty α) (x:AObj):Option (List (Str×α)):= @dite _ (∃xs,x= .map (mp (mcT t) xs)) (Classical.propDecidable _) (fun h=>some h.choose) (fun _=>none)
theorem WR {x:AObj} {xs:List (Str×α)} (h:NL t x=some xs):x= .map (mp (mcT t) xs):=by
 unfold NL at h
 split at h
 ·rename_i hh
  simp only[gB] at h
  subst h
  exact hh.choose_spec
 ·cases h
end
theorem mapUp_nilB {α:Type} {t:Ty α} {l:Nat} {s:Str} {v:α}:mapUpEff l (sb s) (t.enc v) (some (.map (mp mcB [])))=some {val:= .any,rd:=[l],up:=[(l,.map (mp (mcT t) [(s,v)]))]}:=by
 have:=WQ (t:=t) (l:=l) (s:=s) (v:=v) (xs:=[])
 rw[uc] at this ⊢
 exact this
section inj
variable {α:Type} {t:Ty α} (hinj: ∀x y,t.enc x=t.enc y→x=y)
include hinj
theorem mcT_inj: ∀xs ys:List (Str×α),xs.map (mcT t)=ys.map (mcT t)→xs=ys
 |[],[],_=>rfl
 |[],_::_,h=>by simp at h
 |_::_,[],h=>by simp at h
 |(s,x)::xs,(s',y)::ys,h=>by
  simp only[List.map_cons,List.cons.injEq] at h
  obtain ⟨h1,h2⟩:=h
  simp only[mcT,gK,AV.str.injEq] at h1
  have e1:s=s':=by
   have:=congrArg ByteArray.toList h1.1
   rwa [EY,EY] at this
  rw[e1,hinj _ _ h1.2,mcT_inj xs ys h2]
theorem WS (xs:List (Str×α)):NL t (.map (mp (mcT t) xs))=some xs:=by
 have hh: ∃ys,(AObj.map (mp (mcT t) xs))= .map (mp (mcT t) ys):=⟨xs,rfl⟩
 unfold NL
 rw[dif_pos hh]
 have e:AObj.map (mp (mcT t) xs)=AObj.map (mp (mcT t) hh.choose):=hh.choose_spec
 have e2:mp (mcT t) xs=mp (mcT t) hh.choose:=AObj.map.inj e
 have e3:xs.map (mcT t)=hh.choose.map (mcT t):=by rw[←uc,←uc];exact e2
 exact congrArg some (mcT_inj hinj _ _ e3).symm
theorem ddMT_nilB:NL t (.map (mp mcB []))=some []:=by
 have:=WS hinj []
 rw[uc] at this ⊢
 exact this
theorem ddMT_all:(∀xs,NL t (.map (mp (mcT t) xs))=some xs)∧NL t (.map [])=some []∧NL t (.map (mp mcB []))=some []:=by
 refine ⟨WS hinj,?_,ddMT_nilB hinj⟩
 have:=WS hinj []
 rwa [uc] at this
end inj
section og
variable {α:Type}
noncomputable def wh (t:Ty α):OG (List (Str×α)) where
 enc _ xs:= .map (mp (mcT t) xs)
 dec _ _ _:=NL t
 len _:=0
 need:=0
 nb L g:=of_eq_true (Oy 0 g)
 ok ρ L H n x g _ h:=by
  rw[WR h]
  rw[Zp]
  exact .inr (.inl ⟨rfl,of_eq_true (Oy n g)⟩)
 Sx ρ L H x g h:=by
  rw[WR h];rfl
theorem ogMT_f {t:Ty α}:(∀L g,(wh t).enc L g= .map (mp (mcT t) g))∧(∀ρ L H x,(wh t).dec ρ L H x=NL t x)∧(∀g,(wh t).len g=0)∧(wh t).need=0:=⟨fun _ _=>rfl,fun _ _ _ _=>rfl,fun _=>rfl,rfl⟩
noncomputable def oM (t:Ty α):ZO:=⟨fun _ _ x=>(NL t x).bind fun xs=>some (.map (mp (mcT t) xs)),fun H n x y h=>by
 simp only[gA,gB] at h
 obtain ⟨xs,hx,rfl⟩:=h
 rw[WR hx]
 exact .inr (.inl ⟨rfl,of_eq_true (Oy n xs)⟩)⟩
theorem oM_f {t:Ty α} {H:List AObj} {n:Nat} {x:AObj}:(oM t).f H n x=(NL t x).bind fun xs=>some (.map (mp (mcT t) xs)):=rfl
end og
theorem entXO_ok {α β α1 β1:Type} {P:Program} {f:FuncId} {pos:List Loc} {os:OL β} {as:AL α} {An:OL β1} {EZ:AL α1} {F:β→α→Option (β1×α1)}
 (h: ∀b a r,F b a=some r→Ob P f (as.enc (os.lens b) a) (os.enc (os.lens b) b) (fun o H'=>o= .ret (uR (EZ.enc (An.lens r.1) r.2))∧H'=An.enc (An.lens r.1) r.1)):
 EntCOK P f (Oo pos os as An EZ An EZ (fun b a=>(F b a).map fun r=>(PR.ok r:PR (β1×α1) (β1×α1)))):=by
 refine Zi (fun b a r hr=> ?_)
 rw[gG] at hr
 obtain ⟨r',hr,rfl⟩:=hr
 exact h b a r' hr
noncomputable def dalK {δ:Type} (v:AV) (s:AL δ) (ρ:List Nat) (L:Bx) (H:List AObj):List AV→Option δ
 |x::xs=>pcond (x=v) (s.dec ρ L H xs)
 |_=>none
noncomputable def alK {δ:Type} (v:AV) (hv:v.nb 0) (s:AL δ):AL δ where
 enc L g:=v::s.enc L g
 dec:=dalK v s
 need:=s.need
 nb L g:=⟨AV.P9 (Nat.zero_le _) v hv,s.nb L g⟩
 ok ρ L H n vs g hc h:=by
  unfold dalK at h
  split at h
  ·rw[pZ] at h
   obtain ⟨rfl,h⟩:=h
   refine zD.cons ?_ (s.ok ρ L H n _ _ hc h)
   rw[ET _ _ hv]
   exact Co.same (AV.P9 (Nat.zero_le _) _ hv)
  ·cases h
theorem alK_f {δ:Type} {v:AV} {hv:v.nb 0} {s:AL δ}:(∀L g,(alK v hv s).enc L g=v::s.enc L g)∧(∀ρ L H xs,(alK v hv s).dec ρ L H xs=dalK v s ρ L H xs)∧(alK v hv s).need=s.need:=⟨fun _ _=>rfl,fun _ _ _ _=>rfl,rfl⟩
attribute [go_sem] alK_f dalK
section steps
variable {R:Type} {M:pO R} {k:List Kt} {σ:AState} {α:Type} {o:Option α}
theorem stepE_oel {ops:Array Oper} {dst:Option Tmp} {rest:List Oper} {a:Option wg} {f:α→Option wg}:su M ops dst rest k σ (Rr o a f)=Rr o (su M ops dst rest k σ a) (fun x=>su M ops dst rest k σ (f x)):=by cases o<;>rfl
theorem stepDE_oel {p:List Nat} {dst:Option Tmp} {rest:List Oper} {j:Nat} {tr:List Tr} {a:Option wg} {f:α→Option wg}:wq M p dst rest j tr k σ (Rr o a f)=Rr o (wq M p dst rest j tr k σ a) (fun x=>wq M p dst rest j tr k σ (f x)):=by cases o<;>rfl
theorem bind_oel {γ δ:Type} {a:Option γ} {f:α→Option γ} {h:γ→Option δ}:(Rr o a f).bind h=Rr o (a.bind h) (fun x=>(f x).bind h):=by cases o<;>rfl
theorem map_oel {γ δ:Type} {a:Option γ} {f:α→Option γ} {h:γ→δ}:(Rr o a f).map h=Rr o (a.map h) (fun x=>(f x).map h):=by cases o<;>rfl
end steps
attribute [go_sem] oM_f oel_none oel_some lookOk_T ogMT_f Zp stepE_oel stepDE_oel bind_oel map_oel V7
attribute [go_sem high] Oy Zo mapNbF_T
def recB (d:Nat):Code→Bool
 | .seq (.region _ ops false) _=>match ops.toList with
   |o::rest=>isRec o&&(o.dst==some d)&&Ms rest
   |[]=>false
 |_=>false
theorem VC {d:Nat} {c:Code} (h:recB d c=true): ∃id ops y o rest,c= .seq (.region id ops false) y∧ops.toList=o::rest∧isRec o=true∧o.dst=some d∧Ms rest=true:=by
 unfold recB at h
 split at h
 ·rename_i id ops y
  split at h
  ·rename_i o rest ho
   simp only[gF,beq_iff_eq] at h
   exact ⟨id,ops,y,o,rest,rfl,ho,h.1.1,h.1.2,h.2⟩
  ·cases h
 ·cases h
section recrun
variable {α1 β1:Type}
theorem WT {M:pO (β1×α1)} {f:FuncId} {fn:Func} {d:Nat} {args:List AV} {x:AV} {H:List AObj} {r:β1×α1} {n:Nat} {rs:List ResultVar} {An:OL β1} {EZ:AL α1} {p1:List Loc} {b1:List Nat} {low:Nat} (G:Good M)
 (hf:M.P.funcs[f]? =some fn) (hb:fn.body=some M.body) (Iy:recB d M.body=true)
 (hnb:nbL H.length (args++[x])) (DK: ∀x∈H,objNb H.length x) (hn:fn.ntmps=n) (Ph:fn.results=rs.toArray) (Xo:b1=gH low) (ho:M.out=Ca M.P rs p1 b1 low An EZ)
 (h:run M [.ops (tD M [0]) ((tD M [0]).toList.drop 1),.cut [1],.at [1]] (AState.put {slots:=args++gE (n-args.length) .any,heap:=H,low:=H.length} (some d) x)=some r) (hP: ∀x σ',M.wU x σ'=none:=by intros;rfl):
 XY M.P (X4 M.P f) (args++[x]) H (fun o H'=>o=(Zk An EZ r).1∧H'=(Zk An EZ r).2):=by
 obtain ⟨id,ops,y,o,rest,hbody,LA,h1,h2,h3⟩:=VC Iy
 have e:tD M [0]=ops:=by unfold tD;rw[hbody];rfl
 rw[e,LA,List.drop_one,List.tail_cons,←h2] at h
 exact Zm G hf hb hbody LA h1 h3 hnb DK hn Ph Xo ho h hP
theorem WU {M:pO (β1×α1)} {f:FuncId} {fn:Func} {d:Nat} {args:List AV} {H:List AObj} {r:β1×α1} {n:Nat} {rs:List ResultVar} {An:OL β1} {EZ:AL α1} {p1:List Loc} {b1:List Nat} {low:Nat} (G:Good M)
 (hf:M.P.funcs[f]? =some fn) (hb:fn.body=some M.body) (Iy:recB d M.body=true)
 (hnb:nbL H.length args) (DK: ∀x∈H,objNb H.length x) (hn:fn.ntmps=n) (Ph:fn.results=rs.toArray) (Xo:b1=gH low) (ho:M.out=Ca M.P rs p1 b1 low An EZ)
 (h:run M [.ops (tD M [0]) ((tD M [0]).toList.drop 1),.cut [1],.at [1]] (AState.put {slots:=args++gE (n-args.length) .any,heap:=H,low:=H.length} (some d) (.raw .nilIface))=some r) (hP: ∀x σ',M.wU x σ'=none:=by intros;rfl):
 XY M.P (X3 M.P f) args H (fun o H'=>o=(Zk An EZ r).1∧H'=(Zk An EZ r).2):=by
 obtain ⟨id,ops,y,o,rest,hbody,LA,h1,h2,h3⟩:=VC Iy
 have e:tD M [0]=ops:=by unfold tD;rw[hbody];rfl
 rw[e,LA,List.drop_one,List.tail_cons,←h2] at h
 exact Zn G hf hb hbody LA h1 h3 hnb DK hn Ph Xo ho h hP
end recrun
end Go.Abs
namespace Go.Abs
section
variable {C:Ctx} {φ:Nat→Value} {σ:AState} {a:Act} {w:World}
variable {α γ:Type}
noncomputable def outM (P:Program) (rs:List ResultVar) (j:Nat) (r:Row γ) (s:CF (List γ×Unit) α) (σ:AState):Option ((List γ×Unit)×α):=
 bif σ.df.isEmpty then (zE P σ rs).bind fun xs=>outM1 (FG j r.sz false ⟨xs,σ.heap,0,[]⟩) j r s σ.low else none
where
 outM1 (τ:AState) (j:Nat) (r:Row γ) (s:CF (List γ×Unit) α) (low:Nat):Option ((List γ×Unit)×α):=
  match τ.slots[j]? with
  |some (.acc l _)=>match τ.heap[l]? with
   |some y=>pcond (low=0∧objNb 0 y∧nbL 1 (renL (outX 0 l) τ.slots)) (((B9 (NQ false r) Ba).dec [y] [y]).bind fun b=>(s.dec b [y] (renL (outX 0 l) τ.slots)).bind fun a=>bif decide (s.need≤1) then some (b,a) else none)
   |none=>none
  |_=>none
end
section open_
variable {R:Type} {M:pO R} {k:List Kt} {σ:AState}
theorem stepDE_any {p:List Nat} {dst:Option Tmp} {rest:List Oper} {j:Nat} {tr:List Tr} {x:AV} {rd:List Nat} {up:List (Nat×AObj)} {nw:List AObj} {pr:Prop}:
 wq M p dst rest j tr k σ (some {val:=x,rd,up,nw,pre:=pr,whole:=true})=pcond pr (pcond (HQ M p tr j {val:=x,rd,up,nw,pre:=pr,whole:=true}) (run M (.GZ p rest (j+1) (C5 tr j σ.heap.length {val:=x,rd,up,nw,pre:=pr,whole:=true})::k) {σ.put dst x with heap:=p4 σ.heap up++nw})):=by
 rw[←Jq];rfl
def restE (M:pO R) (p:List Nat) (c:Nat) (o:Oper) (rest:List Oper) (j:Nat) (σ:AState):Option wg→Prop
 |some e=>(e.pre∧e.up=[]∧e.nw=[])∧Lw M p c rest (j+1) (σ.put o.dst e.val)
 |none=>False
def Zq (M:pO R) (p:List Nat) (c:Nat) (o:Oper) (rest:List Oper) (j:Nat) (σ:AState):Option (FuncId×List AV)→Prop
 |some _=>False
 |none=>restE M p c o rest j σ (Gd M.P σ o.op)
def restW (M:pO R) (p:List Nat) (c:Nat) (o:Oper) (rest:List Oper) (j:Nat) (σ:AState):Option Bool→Prop
 |none=>False
 |some false=>Lw M p c rest (j+1) (σ.put o.dst (.raw undef))
 |some true=>Zq M p c o rest j σ (qu σ o.op)
theorem restE_some {p:List Nat} {c:Nat} {o:Oper} {rest:List Oper} {j:Nat} {e:wg}:restE M p c o rest j σ (some e)=((e.pre∧e.up=[]∧e.nw=[])∧Lw M p c rest (j+1) (σ.put o.dst e.val)):=rfl
theorem restC_none {p:List Nat} {c:Nat} {o:Oper} {rest:List Oper} {j:Nat}:Zq M p c o rest j σ none=restE M p c o rest j σ (Gd M.P σ o.op):=rfl
theorem restW_true {p:List Nat} {c:Nat} {o:Oper} {rest:List Oper} {j:Nat}:restW M p c o rest j σ (some true)=Zq M p c o rest j σ (qu σ o.op):=rfl
theorem Zr {p:List Nat} {c:Nat} {o:Oper} {rest:List Oper} {j:Nat}:restW M p c o rest j σ (some false)=Lw M p c rest (j+1) (σ.put o.dst (.raw undef)):=rfl
theorem restP_next {p:List Nat} {c j:Nat} {o:Oper} {rest:List Oper} (h:Yq M p c j=false):Lw M p c (o::rest) j σ=restW M p c o rest j σ (sr (tD M p) o σ):=by
 unfold Yq at h
 show HN M.P (tD M p) c (o::rest) j σ=_
 simp only[HN,h]
 cases hw:sr (tD M p) o σ with
 |none=>rfl
 |some b=>
  cases b with
  |false=>rfl
  |true=>
   simp only[restW]
   cases hc:qu σ o.op with
   |some q=>simp [Zq]
   |none=>
    simp only[true_and,Zq,←sv]
    cases nW M.P σ o.op with
    |none=>rfl
    |some e=>rfl
end open_
attribute [go_sem] stepDE_any restE_some restC_none restW_true Zr restP_next restP_skip
attribute [go_sem] outM outM.outM1
end Go.Abs
namespace Go.Abs
section
variable {P:Program} {f:FuncId} {α:Type}
theorem raw0_rep {E:Env} {r:Row α} {ys:List AV} {vs:List Value} (h:m7 E ((oa r).enc []::ys) vs): ∃base c,m7 E (.raw (.slice base 0 c)::ys) vs:=by
 obtain ⟨u,us,e,⟨base,cap,hu,_⟩,h2⟩:=h
 have hl:(mp r.enc ([]:List α)).length=0:=GL _ _
 rw[hl] at hu
 exact ⟨base,cap,u,us,e,hu,h2⟩
theorem Zs {r:Row α} {ys:List AV} {V:wo→List AObj→Prop} (h: ∀base c,Ob P f (.raw (.slice base 0 c)::ys) [] V):Ob P f ((oa r).enc []::ys) [] V:=by
 obtain ⟨h1,h2,h2',h3⟩:=h none 0
 refine ⟨h1,⟨(oa r).nb 0 _,h2.2⟩,h2',fun C φ w a b c d e e2 vs hv=> ?_⟩
 obtain ⟨base,cap,hr⟩:=raw0_rep hv
 exact (h base cap).2.2.2 C φ w a b c d e e2 vs hr
theorem mp_isEmpty_cons {f:α→List AV} {x:α} {xs:List α}:(mp f (x::xs)).isEmpty=false:=by rw[Sg];rfl
theorem cellsOf_nil:cellsOf (.agg [])=some []:=rfl
theorem splice_nil:splice [] 0 []=[]:=rfl
theorem av_ne:(∀l o v,(AV.ptr l o=AV.raw v)=False)∧(∀l o v,(AV.raw v=AV.ptr l o)=False)∧((AV.bool true=AV.bool false)=False)∧((AV.bool false=AV.bool true)=False):=by simp
theorem MX {b:Bool}:(AV.bool b).nb 0:=trivial
theorem nbK_r {v:Value}:(AV.raw v).nb 0:=trivial
end
attribute [go_sem] mp_isEmpty_cons List.isEmpty_nil cellsOf_nil splice_nil av_ne
end Go.Abs
namespace Go.Abs
noncomputable def Zt {R:Type} (P:Program) (f:Func) (n:Nat) (out:AState→Option R) (cl:FuncId→List AV→List AObj→Option (AV×List AObj):=om []) (cd:FuncId→List AV→Option AV:=oo [])
 (qT:List Nat→AState→Option AState:=ot []) (cut:List Nat→AState→Option AState:=ou []) (qZ:FuncId→Bool:=nj []) (cp:FuncId→List AV→List AObj→Option (wo×List AObj):=fun _ _ _=>none)
 (wU:AV→AState→Option R:=fun _ _=>none) (Ay:FuncId→Bool:=fun _=>false) (co:FuncId→List AV→List AObj→Option CO:=fun _ _ _=>none) (Ax:FuncId→Bool:=fun _=>false)
 (ce:FuncId→List AV→List AObj→Option wg:=fun _ _ _=>none) (js:List Nat→List (Int×Code):=fun _=>[]) (cy:Nat→List AV→List AObj→Option (AV×List AObj):=fun _ _ _=>none):pO R:=
 {P:=P,body:=f.body.getD .skip,cl:=cl,cd:=cd,qT:=qT,cut:=cut,n:=n,out:=out,qZ:=qZ,cp:=cp,wU:=wU,Ay:=Ay,co:=co,Ax:=Ax,ce:=ce,js:=js,cy:=cy}
section
variable {R:Type} {P:Program} {f:Func} {n:Nat} {out:AState→Option R} {cl:FuncId→List AV→List AObj→Option (AV×List AObj)} {cd:FuncId→List AV→Option AV} {qT:List Nat→AState→Option AState} {cut:List Nat→AState→Option AState} {qZ:FuncId→Bool} {cp:FuncId→List AV→List AObj→Option (wo×List AObj)}
 {wU:AV→AState→Option R} {Ay:FuncId→Bool} {co:FuncId→List AV→List AObj→Option CO} {Ax:FuncId→Bool} {ce:FuncId→List AV→List AObj→Option wg} {js:List Nat→List (Int×Code)} {cy:Nat→List AV→List AObj→Option (AV×List AObj)}
theorem mkA_f:(Zt P f n out cl cd qT cut qZ cp wU Ay co Ax ce js cy).P=P∧(Zt P f n out cl cd qT cut qZ cp wU Ay co Ax ce js cy).body=f.body.getD .skip∧(Zt P f n out cl cd qT cut qZ cp wU Ay co Ax ce js cy).n=n∧
 (Zt P f n out cl cd qT cut qZ cp wU Ay co Ax ce js cy).out=out∧(Zt P f n out cl cd qT cut qZ cp wU Ay co Ax ce js cy).cl=cl∧(Zt P f n out cl cd qT cut qZ cp wU Ay co Ax ce js cy).cd=cd∧
 (Zt P f n out cl cd qT cut qZ cp wU Ay co Ax ce js cy).qT=qT∧(Zt P f n out cl cd qT cut qZ cp wU Ay co Ax ce js cy).cut=cut∧(Zt P f n out cl cd qT cut qZ cp wU Ay co Ax ce js cy).qZ=qZ∧
 (Zt P f n out cl cd qT cut qZ cp wU Ay co Ax ce js cy).cp=cp∧(Zt P f n out cl cd qT cut qZ cp wU Ay co Ax ce js cy).wU=wU∧(Zt P f n out cl cd qT cut qZ cp wU Ay co Ax ce js cy).Ay=Ay∧
 (Zt P f n out cl cd qT cut qZ cp wU Ay co Ax ce js cy).co=co∧(Zt P f n out cl cd qT cut qZ cp wU Ay co Ax ce js cy).Ax=Ax∧(Zt P f n out cl cd qT cut qZ cp wU Ay co Ax ce js cy).ce=ce∧
 (Zt P f n out cl cd qT cut qZ cp wU Ay co Ax ce js cy).js=js∧(Zt P f n out cl cd qT cut qZ cp wU Ay co Ax ce js cy).cy=cy:=⟨rfl,rfl,rfl,rfl,rfl,rfl,rfl,rfl,rfl,rfl,rfl,rfl,rfl,rfl,rfl,rfl,rfl⟩
end
@[reducible] def ini (args:List AV) (n:Nat) (H:List AObj:=[]):AState:={slots:=args++gE (n-args.length) .any,heap:=H,low:=H.length}
class Fu (α:Type) where z:α
instance {α:Type}:Fu (Option α):=⟨none⟩
instance {α β:Type} [Fu β]:Fu (α→β):=⟨fun _=>Fu.z⟩
def fu {α:Type} [Fu α] (F:Nat→α):Nat→α
 |0=>Fu.z
 |n+1=>F n
def lpF {α:Type} [Fu α] (F:α→α):Nat→α
 |0=>Fu.z
 |m+1=>F (lpF F m)
def lpM {α:Type} [Fu α] (F:Nat→α→α):Nat→α
 |0=>Fu.z
 |m+1=>F m (lpM F m)
@[reducible] def ay4 (l:List AV):List AV:= .any:: .any:: .any:: .any::l
@[reducible] def ay16 (l:List AV):List AV:= .any:: .any:: .any:: .any:: .any:: .any:: .any:: .any:: .any:: .any:: .any:: .any:: .any:: .any:: .any:: .any::l
@[reducible] def ay64 (l:List AV):List AV:=ay16 (ay16 (ay16 (ay16 l)))
attribute [go_sem] mkA_f ini ay4 ay16 ay64
end Go.Abs
