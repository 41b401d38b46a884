/- A part of the proof: abstract states and the rules for them. -/
import Derived.Test.YtfilfimjoeapgaaDoorCoreC
import Derived.Below
import Derived.Laws.AppendOwn
import Derived.Lib.Join
import Derived.Lib.SplitLaws
import Derived.Lib.IndexAny
import Derived.Lib.IndexMore
import Derived.Deep.Draws
import Derived.RecoverIn
set_option linter.all false
open Option renaming bind_eq_some_iff → gy,map_eq_some_iff → gE
open Option.some renaming injEq → gz
open List renaming getElem?_eq_some_iff → gA,getElem?_eq_getElem → gB,replicate → gC,range → gF,getElem?_map → gH,getElem?_of_mem → gJ,take_left' → gK,drop_left' → gL,map_congr_left → gM,take_of_length_le → gO,drop_eq_nil_of_le → gP,getElem?_set_self → gQ,getElem?_eq_none → gR,mem_of_getElem? → gS,mem_map → gU,map_map → gV,range' → gW
open Bool renaming and_eq_true → gD,eq_iff_iff → gN
open Array renaming replicate → gG,toList_append → gT
open Prod.mk renaming injEq → gI
namespace Go.Abs
inductive Loc where
 |arg (i:Nat) (cs:List Nat)
 |obj (k c:Nat) (cs:List Nat)
def nameV:AV→Option Nat
 | .ptr l _=>some l
 | .acc l _=>some l
 | .map l=>some l
 |_=>none
def down:List Nat→AV→Option AV
 |[],v=>some v
 |i::is,.func _ _ cap=>match cap[i]? with
  |some u=>down is u
  |none=>none
 |_::_,_=>none
def cellAt (c:Nat):Option AObj→Option AV
 |some (.cells xs)=>xs[c]?
 |some (.loop _ xs _ _)=>xs[c]?
 |_=>none
def locN (args:List AV) (H:List AObj) (ρ:List Nat):Loc→Option Nat
 | .arg i cs=>(args[i]?).bind fun v=>(down cs v).bind nameV
 | .obj k c cs=>(ρ[k]?).bind fun l=>(cellAt c H[l]?).bind fun v=>(down cs v).bind nameV
def TE (args:List AV) (H:List AObj):List Loc→List Nat→Option (List Nat)
 |[],ρ=>some ρ
 |p::ps,ρ=>(locN args H ρ p).bind fun l=>TE args H ps (ρ++[l])
theorem RS {args:List AV} {H:List AObj}: ∀ {ps:List Loc} {ρ ρ':List Nat},TE args H ps ρ=some ρ'→ ∃ls,ρ'=ρ++ls
 |[],ρ,ρ',h=>by simp only[TE,gz] at h;exact ⟨[],by rw[h,List.append_nil]⟩
 |p::ps,ρ,ρ',h=>by
  simp only[TE,gy] at h
  obtain ⟨l,_,h⟩:=h
  obtain ⟨ls,hl⟩:=RS h
  exact ⟨l::ls,by rw[hl,List.append_assoc];rfl⟩
def Nu (xs:List AObj) (k:Nat):Nat:=(oW xs[k]?).getD 0
theorem callXT {P:Program} {T:Value→World→Array Value→(Ending→World→Prop)→Prop} (hT:L7 T) {l0:Nat} {σ:AState} {Ga args:List AV} {Ys Ys':List AObj} {O:wM} {ρ:List Nat} (hG:Xb P T args Ys (fun o H'=>o=O∧H'=Ys')) (hnd:ρ.Nodup) (hlen:ρ.length=Ys.length) (hlen':ρ.length≤Ys'.length)
 (hz: ∀φ:Nat→Value,T (φ (qu ρ σ.heap.length 0))=T (φ l0))
 (Dv: ∀ (i k:Nat),ρ[i]? =some k→ ∃x y,σ.heap[k]? =some x∧Ys[i]? =some y∧GB σ.heap σ.heap.length x (y.ren (qu ρ σ.heap.length))) (hargs:AE σ.heap σ.heap.length Ga (renL (qu ρ σ.heap.length) args)):
 I8 P T l0 Ga σ (fun o H'=>o=O.ren (qu ρ σ.heap.length)∧H'=vI ρ σ.heap Ys'):=by
 intro C φ a w hP S vs hr
 let H1:=tP σ.heap ρ (Ys.map (AObj.ren (qu ρ σ.heap.length)))
 have WA:H1.length=σ.heap.length:=w8 _ _ _
 have S0:ql C φ ⟨σ.slots++Ga,σ.heap,σ.low,σ.df⟩ {tmps:=a.tmps++vs,defers:=a.defers} w:={S with slots:=by simpa using S.slots.append hr,defers:=S.defers}
 have hat: ∀ (i k:Nat),ρ[i]? =some k→ ∃x y,σ.heap[k]? =some x∧Ys[i]? =some y∧GB σ.heap σ.heap.length x (y.ren (qu ρ σ.heap.length))∧H1[k]? =some (y.ren (qu ρ σ.heap.length)):=by
  intro i k hi
  obtain ⟨x,y,hx,hy,hc⟩:=Dv i k hi
  exact ⟨x,y,hx,hy,hc,I7 ρ σ.heap _ i k _ hnd hi (by rw[gH,hy];rfl) (gA.1 hx).1⟩
 have hw:S6 ⟨σ.slots++Ga,σ.heap,σ.low,σ.df⟩ ⟨σ.slots++renL (qu ρ σ.heap.length) args,H1,σ.low,σ.df⟩:=by
  refine ⟨⟨⟨rfl,by show σ.low≤H1.length;rw[WA];exact S.low.2⟩,rfl,by show Vr H1.length σ.df;rw[WA];exact Fi.nb S.defers.2.2⟩,?_,?_⟩
  ·show AE σ.heap H1.length _ _
   rw[WA]
   exact AE.append (AE.same (nj.nb _ _ S.slots)) hargs
  ·show Lr σ.heap H1.length σ.heap H1
   rw[WA]
   refine JK fun k y hy=> ?_
   by_cases hk:k∈ρ
   ·obtain ⟨i,hi⟩:=gJ hk
    obtain ⟨x,y',hx,_,hc,hy'⟩:=hat i k hi
    rw[hy'] at hy;cases hy
    exact ⟨x,hx,hc⟩
   ·have hy2:σ.heap[k]? =some y:=by rw[←hy];exact (B2 ρ σ.heap _ k hk).symm
    exact ⟨y,hy2,.inr (.inl ⟨rfl,I5 (S.objs k y hy2)⟩)⟩
 have S1:=hw.sim S0
 have LM:=S1.slots
 simp only[gT] at LM
 have hsz:a.tmps.toList.length=σ.slots.length:=S.slots.length
 have h1:=LM.take σ.slots.length
 have h2:=LM.drop σ.slots.length
 rw[gK rfl,gK hsz] at h1
 rw[gL rfl,gL hsz] at h2
 have S2:ql C φ {σ with heap:=H1} a w:={S1 with slots:=h1,defers:=S1.defers}
 have yC:I8 P T l0 (renL (qu ρ H1.length) args) {σ with heap:=H1} (fun o H'=>o=O.ren (qu ρ H1.length)∧H'=vI ρ σ.heap Ys'):=by
  refine Np (σ:={σ with heap:=H1}) hT hG ρ hlen hnd (by show ∀φ:Nat→Value,T (φ (qu ρ H1.length 0))=T (φ l0);rw[WA];exact hz) (tD.refl _) ?_ ?_
  ·intro i k x hi hx
   obtain ⟨x',y,_,hy,_,hy'⟩:=hat i k hi
   rw[hy] at hx;cases hx
   show H1[k]? =some (x.ren (qu ρ H1.length))
   rw[hy',WA]
  ·rintro o H' ⟨rfl,rfl⟩
   refine ⟨rfl,?_⟩
   show vI ρ H1 H'=_
   unfold vI
   rw[WA]
   simp only[H1]
   rw[Im ρ σ.heap _ _ hnd (by rw[List.length_map];exact hlen')]
 rw[WA] at yC
 exact yC C φ a w hP S2 vs h2
section entX
variable {α β α' β':Type}
def RT (base:List Nat) (pos:List Loc) (os:OL β) (as:AL α) (os':OL β') (rs:AL α') (F:β→α→Option (β'×α')):Ent:=fun args H=>
 (TE args H pos base).bind fun ρ=>bif nodupB ρ&&(decide (os.need≤ρ.length)&&(decide (as.need≤ρ.length)&&decide (ρ.length≤os'.size))) then
   (mapO (Pz H) ρ).bind fun xs=>(os.dec ρ (Nu xs) H xs).bind fun b=>(as.dec ρ (Nu xs) H args).bind fun a=>(F b a).bind fun r=>
     some ((vX (rs.enc (os'.lens r.1) r.2)).ren (qu ρ H.length),vI ρ H (os'.enc (os'.lens r.1) r.1)) else none
def entX (pos:List Loc) (os:OL β) (as:AL α) (os':OL β') (rs:AL α') (F:β→α→Option (β'×α')):Ent:=RT [] pos os as os' rs F
noncomputable def entY (pos:List Loc) (os:OL β) (as:AL α) (os':OL β') (rs:AL α') (F:β→α→Option (β'×α')) (l:Nat):Ent:=fun args H=>
 match H[l]? with
 |some (.loop k _ _ _)=>pcond (args.length=k.ps.size) (RT [l] pos os as os' rs F args H)
 |_=>none
theorem Yh {P:Program} {T:Value→World→Array Value→(Ending→World→Prop)→Prop} (hT:L7 T) {l0:Nat} {base:List Nat} {pos:List Loc} {os:OL β} {as:AL α} {os':OL β'} {rs:AL α'} {F:β→α→Option (β'×α')}
 (hz: ∀ (ls:List Nat) (n:Nat) (φ:Nat→Value),T (φ (qu (base++ls) n 0))=T (φ l0)) {args:List AV} {σ:AState} {r:AV} {H':List AObj} (he:RT base pos os as os' rs F args σ.heap=some (r,H')):
 ∃b a q,F b a=some q∧(Xb P T (as.enc (os.lens b) a) (os.enc (os.lens b) b) (fun o H'=>o= .ret (vX (rs.enc (os'.lens q.1) q.2))∧H'=os'.enc (os'.lens q.1) q.1)→I8 P T l0 args σ (fun o Du=>o= .ret r∧Du=H')):=by
 unfold RT at he
 simp only[gy] at he
 obtain ⟨ρ,hρ,he⟩:=he
 cases hc:(nodupB ρ&&(decide (os.need≤ρ.length)&&(decide (as.need≤ρ.length)&&decide (ρ.length≤os'.size)))) with
 |false=>simp [hc] at he
 |true=>
  simp only[hc,cond_true,gy,gz,gI] at he
  obtain ⟨xs,hxs,b,hb,a,ha,q,hq,rfl,rfl⟩:=he
  refine ⟨b,a,q,hq,fun hfn=> ?_⟩
  simp only[gD,decide_eq_true_eq] at hc
  obtain ⟨hnd,n1,n2,n3⟩:=hc
  obtain ⟨h1,h2⟩:=Jf hxs
  have Yi: ∀m,m≤ρ.length→Cov ρ m σ.heap.length:=by
   intro m hm k hk
   have hk':k<ρ.length:=by omega
   obtain ⟨x,hx,hx'⟩:=h2 k _ (gB hk')
   exact ⟨_,gB hk',(gA.1 hx').1⟩
  have hL:os.lens b=Nu xs:=funext fun k=>os.OA ρ _ _ _ _ hb k
  obtain ⟨h3,h4⟩:=os.ok ρ _ σ.heap σ.heap.length _ _ (Yi _ n1) hb
  have KD: ∀l,l<ρ.length→Nt ρ l=qu ρ σ.heap.length l:=fun l hl=>by unfold qu Nt;rw[if_pos hl]
  rw[←hL] at ha h4
  obtain ⟨ls,hls⟩:=RS hρ
  refine callXT hT hfn (Gs hnd) (by rw[h1,h3,os.sz]) (by rw[os'.sz];exact n3) (fun φ=>by rw[hls];exact hz ls _ φ) ?_ ?_
  ·intro i k hi
   obtain ⟨x,hx,hx'⟩:=h2 i k hi
   have hlt:i<(os.enc (os.lens b) b).length:=by rw[os.sz,←h3,←h1];exact (gA.1 hi).1
   have hy:=gB hlt
   obtain ⟨x2,F7,hcc⟩:=h4 i _ hy
   rw[hx] at F7;cases F7
   refine ⟨x,_,hx',hy,?_⟩
   rw[←objRen_congr (n:=os.need) (fun l hl=>KD l (by omega)) _ (os.nb _ _ _ (gS hy))]
   exact hcc
  ·rw[←AH (n:=as.need) (fun l hl=>KD l (by omega)) _ (as.nb _ _)]
   exact as.ok ρ _ σ.heap _ _ _ (Yi _ n2) ha
theorem B5 {P:Program} {f:FuncId} {pos:List Loc} {os:OL β} {as:AL α} {os':OL β'} {rs:AL α'} {F:β→α→Option (β'×α')}
 (h: ∀b a r,F b a=some r→QF P f (as.enc (os.lens b) a) (os.enc (os.lens b) b) (fun o H'=>o= .ret (vX (rs.enc (os'.lens r.1) r.2))∧H'=os'.enc (os'.lens r.1) r.1)):Ja P f (entX pos os as os' rs F):=by
 intro args σ r H' he
 obtain ⟨b,a,q,hq,yC⟩:=Yh (P:=P) (T:=fun _ w vs R=>Calls P f vs w R) (l0:=0) MK (fun _ _ _=>rfl) he
 exact ⟨(h b a q hq).1,yC (h b a q hq).2⟩
theorem entY_ok {P:Program} {pos:List Loc} {os:OL β} {as:AL α} {os':OL β'} {rs:AL α'} {F:β→α→Option (β'×α')}
 (h: ∀b a r,F b a=some r→Xb P (MH P) (as.enc (os.lens b) a) (os.enc (os.lens b) b) (fun o H'=>o= .ret (vX (rs.enc (os'.lens r.1) r.2))∧H'=os'.enc (os'.lens r.1) r.1))
 {l:Nat} {args:List AV} {σ:AState} {r:AV} {H':List AObj} (he:entY pos os as os' rs F l args σ.heap=some (r,H')):Gx P l args σ (fun o Du=>o= .ret r∧Du=H'):=by
 unfold entY at he
 split at he
 ·rename_i k slots st uW hk
  rw[pU] at he
  obtain ⟨hlen,he⟩:=he
  obtain ⟨b,a,q,hq,yC⟩:=Yh (P:=P) (T:=MH P) (l0:=l) Xc (fun ls n φ=>by simp [qu]) he
  exact ⟨⟨k,slots,st,uW,hk,hlen⟩,yC (h b a q hq)⟩
 ·cases he
noncomputable def Yj:List (Nat×(Nat→Ent))→Nat→Ent
 |[],_,_,_=>none
 |(l',e)::t,l,args,H=>bif l==l' then e l args H else Yj t l args H
theorem Yk {P:Program}: ∀ (l:Nat) (args:List AV) (σ:AState) (r:AV) (H':List AObj),Yj [] l args σ.heap=some (r,H')→Gx P l args σ (fun o Du=>o= .ret r∧Du=H'):=by
 intro l args σ r H' h;cases h
theorem VU {P:Program} {l':Nat} {e:Nat→Ent} {t:List (Nat×(Nat→Ent))} (h1: ∀ (l:Nat) (args:List AV) (σ:AState) (r:AV) (H':List AObj),e l args σ.heap=some (r,H')→Gx P l args σ (fun o Du=>o= .ret r∧Du=H'))
 (h2: ∀ (l:Nat) (args:List AV) (σ:AState) (r:AV) (H':List AObj),Yj t l args σ.heap=some (r,H')→Gx P l args σ (fun o Du=>o= .ret r∧Du=H')):
 ∀ (l:Nat) (args:List AV) (σ:AState) (r:AV) (H':List AObj),Yj ((l',e)::t) l args σ.heap=some (r,H')→Gx P l args σ (fun o Du=>o= .ret r∧Du=H'):=by
 intro l args σ r H' h
 simp only[Yj] at h
 cases hl:l==l' with
 |true=>rw[hl,cond_true] at h;exact h1 l args σ r H' h
 |false=>rw[hl,cond_false] at h;exact h2 l args σ r H' h
end entX
section outX
variable {α β γ:Type}
def outL (xs:List AV) (pos:List Loc) (base:List Nat) (low:Nat) (os:OL β) (s:AL α) (σ:AState):Option (β×α):=
 (TE xs σ.heap pos base).bind fun ρ=>bif nodupB ρ&&((σ.low==low)&&(σ.df.isEmpty&&(decide (low≤os.size)&&(decide (os.need≤os.size)&&decide (s.need≤os.size))))) then
   (mapO (Pz σ.heap) ρ).bind fun ys=>(os.dec ρ (Nu ys) σ.heap ys).bind fun b=>(s.dec ρ (Nu ys) σ.heap xs).bind fun a=>some (b,a) else none
def Cy (P:Program) (rs:List ResultVar) (pos:List Loc) (base:List Nat) (low:Nat) (os:OL β) (s:AL α) (σ:AState):Option (β×α):=
 (zO P σ rs).bind fun xs=>outL xs pos base low os s σ
theorem QJ {xs:List AV} {pos:List Loc} {base:List Nat} {low:Nat} {os:OL β} {s:AL α} {σ:AState} {r:β×α} (hbase:base=gF low) (h:outL xs pos base low os s σ=some r):
 σ.df=[]∧FN ⟨xs,σ.heap,σ.low,[]⟩ ⟨s.enc (os.lens r.1) r.2,os.enc (os.lens r.1) r.1,σ.low,[]⟩:=by
 unfold outL at h
 simp only[gy] at h
 obtain ⟨ρ,hρ,h⟩:=h
 cases hc:(nodupB ρ&&((σ.low==low)&&(σ.df.isEmpty&&(decide (low≤os.size)&&(decide (os.need≤os.size)&&decide (s.need≤os.size)))))) with
 |false=>simp [hc] at h
 |true=>
  simp only[hc,cond_true,gy,gz] at h
  obtain ⟨ys,hys,b,hb,a,ha,rfl⟩:=h
  simp only[gD,decide_eq_true_eq,beq_iff_eq] at hc
  obtain ⟨hnd,h1,hdf,n1,n2,n3⟩:=hc
  refine ⟨by simpa using hdf,?_⟩
  obtain ⟨ls,hls⟩:=RS hρ
  obtain ⟨g1,g2⟩:=Jf hys
  have hL:os.lens b=Nu ys:=funext fun k=>os.OA ρ _ _ _ _ hb k
  rw[←hL] at hb ha
  have hsize:ρ.length=os.size:=by
   have:ys.length=os.size:=os.Fm _ _ _ _ _ hb
   rw[g1,this]
  intro C φ a' w S
  have Yi: ∀m,m≤ρ.length→Cov ρ m σ.heap.length:=by
   intro m hm k hk
   have hk':k<ρ.length:=by omega
   obtain ⟨x,hx,hx'⟩:=g2 k _ (gB hk')
   exact ⟨_,gB hk',(gA.1 hx').1⟩
  let Ys:=os.enc (os.lens b) b
  have hYl:Ys.length=os.size:=os.sz _ _
  let H1:=tP σ.heap ρ (Ys.map (AObj.ren (Nt ρ)))
  have WA:H1.length=σ.heap.length:=w8 _ _ _
  obtain ⟨_,h4⟩:=os.ok ρ _ σ.heap σ.heap.length _ _ (Yi _ (by omega)) hb
  have hat: ∀ (i k:Nat) (y:AObj),ρ[i]? =some k→Ys[i]? =some y→ ∃x,σ.heap[k]? =some x∧GB σ.heap σ.heap.length x (y.ren (Nt ρ))∧H1[k]? =some (y.ren (Nt ρ)):=by
   intro i k y hi hy
   obtain ⟨x,hx,hx'⟩:=g2 i k hi
   obtain ⟨x2,F7,hcc⟩:=h4 i y hy
   rw[hx] at F7;cases F7
   exact ⟨x,hx',hcc,I7 ρ σ.heap _ i k _ (Gs hnd) hi (by rw[gH,hy];rfl) (gA.1 hx').1⟩
  have hw:S6 ⟨xs,σ.heap,σ.low,[]⟩ ⟨renL (Nt ρ) (s.enc (os.lens b) a),H1,σ.low,[]⟩:=by
   refine ⟨⟨⟨rfl,by show σ.low≤H1.length;rw[WA];exact S.low.2⟩,rfl,Nd⟩,?_,?_⟩
   ·show AE σ.heap H1.length _ _
    rw[WA]
    exact s.ok ρ _ σ.heap _ _ _ (Yi _ (by omega)) ha
   ·show Lr σ.heap H1.length σ.heap H1
    rw[WA]
    refine JK fun k y hy=> ?_
    by_cases hk:k∈ρ
    ·obtain ⟨i,hi⟩:=gJ hk
     have hlt:i<Ys.length:=by rw[hYl,←hsize];exact (gA.1 hi).1
     obtain ⟨x,hx,hc,hy'⟩:=hat i k _ hi (gB hlt)
     rw[hy'] at hy;cases hy
     exact ⟨x,hx,hc⟩
    ·have hy2:σ.heap[k]? =some y:=by rw[←hy];exact (B2 ρ σ.heap _ k hk).symm
     exact ⟨y,hy2,.inr (.inl ⟨rfl,I5 (S.objs k y hy2)⟩)⟩
  obtain ⟨φ',S1⟩:=hw.imp C φ _ w S
  refine imp_select (ρ:=ρ) (Ys:=Ys) (by rw[hsize,hYl]) (Gs hnd) ?_ (by rw[hYl];omega) (sP (by omega) _ (s.nb _ _)) (fun y hy=>uC (by omega) _ (os.nb _ _ y hy)) ?_ C φ' a' w S1
  ·intro k hk
   rw[hls,hbase,List.getElem?_append_left (by rw[List.length_range];omega),List.getElem?_range (by omega)]
  ·intro i k y hi hy
   obtain ⟨x,_,_,hy'⟩:=hat i k y hi hy
   exact hy'
theorem Bo {P:Program} {rs:List ResultVar} {pos:List Loc} {base:List Nat} {low:Nat} {os:OL β} {s:AL α} {σ:AState} {r:β×α} (hbase:base=gF low) (h:Cy P rs pos base low os s σ=some r):
 σ.df=[]∧ ∃xs,zO P σ rs=some xs∧Ow ⟨xs,σ.heap,σ.low,[]⟩ ⟨s.enc (os.lens r.1) r.2,os.enc (os.lens r.1) r.1,σ.low,[]⟩:=by
 unfold Cy at h
 simp only[gy] at h
 obtain ⟨xs,hx,h⟩:=h
 exact ⟨(QJ hbase h).1,xs,hx,(QJ hbase h).2.e⟩
end outX
end Go.Abs
namespace Go.Abs
theorem max_le_dec {a b c:Nat}:decide (max a b≤c)=(decide (a≤c)&&decide (b≤c)):=by
 rw[gN]
 simp only[decide_eq_true_eq,gD]
 exact Nat.max_le
theorem lnOf_def {xs:List AObj} {k:Nat}:Nu xs k=(oW xs[k]?).getD 0:=rfl
theorem accLen_f:(∀i s r,oW (some (.acc i s r))=some r.length)∧(∀c,oW (some (.cells c))=none)∧(∀e,oW (some (.map e))=none)∧oW (some .dead)=none∧oW none=none:=⟨fun _ _ _=>rfl,fun _=>rfl,fun _=>rfl,rfl,rfl⟩
theorem lolC_f {a:Nat} {f:Bx}:Qd a f 0=a∧ ∀k,Qd a f (k+1)=f k:=⟨rfl,fun _=>rfl⟩
theorem lolC_1 {a:Nat} {f:Bx}:Qd a f 1=f 0:=rfl
theorem lolC_2 {a:Nat} {f:Bx}:Qd a f 2=f 1:=rfl
theorem lolC_3 {a:Nat} {f:Bx}:Qd a f 3=f 2:=rfl
theorem lolC_4 {a:Nat} {f:Bx}:Qd a f 4=f 3:=rfl
theorem lolC_5 {a:Nat} {f:Bx}:Qd a f 5=f 4:=rfl
theorem lolC_6 {a:Nat} {f:Bx}:Qd a f 6=f 5:=rfl
theorem vlN_n:vlN.need=0:=rfl
theorem vlT_n {α β:Type} {t:Ty α} {s:VL β}:(vlT t s).need=s.need:=rfl
theorem vlP_n {β:Type} {k:Nat} {s:VL β}:(vlP k s).need=max (k+1) s.need:=rfl
theorem vlM_n {β:Type} {k:Nat} {s:VL β}:(vlM k s).need=max (k+1) s.need:=rfl
theorem vlF_n {α β:Type} {f:FuncId} {c:VL α} {s:VL β}:(vlF f c s).need=max c.need s.need:=rfl
attribute [go_sem] vlN_n vlT_n vlP_n vlM_n vlF_n vlN_f vlT_f vlP_f vlM_f vlF_f alN_f alT_f alC_f alP_f alM_f alA_f alF_f alZ_f Yg ogA_f ogC_f olN_f olC_f dvlN dvlT dvlP dvlM dvlF dalT dalC dalP dalM dalA dalF dalZ docC dolN dolC
 entX Cy TE locN nameV down cellAt lnOf_def accLen_f Option.getD_some Option.getD_none lolC_f lolC_1 lolC_2 lolC_3 lolC_4 lolC_5 lolC_6 max_le_dec gz
end Go.Abs
namespace Go.Abs
def VV (lk:xR) (j:Int):LoopState:=stP (sQ lk.js j)
theorem stJ_zero {lk:xR}:VV lk 0= .ready:=rfl
section ogL
variable {γ β:Type}
noncomputable def dogL (lk:xR) (c:AL γ) (ρ:List Nat) (L:Bx) (H:List AObj):AObj→Option (γ×Int)
 | .loop lk' slots st j=>pcond (lk'=lk∧st=VV lk j) ((c.dec ρ L H slots).bind fun g=>some (g,j))
 |_=>none
noncomputable def ogL (lk:xR) (c:AL γ):OG (γ×Int) where
 enc L g:= .loop lk (c.enc L g.1) (VV lk g.2) g.2
 dec:=dogL lk c
 len _:=0
 need:=c.need
 nb L g:=c.nb L g.1
 ok ρ L H n x g hv h:=by
  unfold dogL at h
  split at h
  ·simp only[pU,gy,gz] at h
   obtain ⟨⟨rfl,rfl⟩,y,hy,rfl⟩:=h
   exact .inr (.inr (.inr (.inr ⟨_,_,_,_,_,rfl,rfl,c.ok ρ L H n _ _ hv hy⟩)))
  ·cases h
 RR ρ L H x g h:=by
  unfold dogL at h
  split at h
  ·rfl
  ·cases h
noncomputable def Yl (lk:xR) (c:AL γ) (ρ:List Nat) (L:Bx) (H:List AObj):AObj→Option γ
 | .loop lk' slots st j=>bif j==0 then pcond (lk'=lk∧st=VV lk j) (c.dec ρ L H slots) else none
 |_=>none
noncomputable def ogL0 (lk:xR) (c:AL γ):OG γ where
 enc L g:= .loop lk (c.enc L g) .ready 0
 dec:=Yl lk c
 len _:=0
 need:=c.need
 nb L g:=c.nb L g
 ok ρ L H n x g hv h:=by
  unfold Yl at h
  split at h
  ·rename_i lk' slots st j
   cases hj:j==0 with
   |false=>rw[hj] at h;cases h
   |true=>
    rw[hj,cond_true] at h
    have hj':j=0:=by simpa using hj
    subst hj'
    simp only[pU] at h
    obtain ⟨⟨rfl,rfl⟩,hy⟩:=h
    exact .inr (.inr (.inr (.inr ⟨_,_,_,_,_,rfl,rfl,c.ok ρ L H n _ _ hv hy⟩)))
  ·cases h
 RR ρ L H x g h:=by
  unfold Yl at h
  split at h
  ·rfl
  ·cases h
theorem dogL_f {lk lk':xR} {c:AL γ} {ρ:List Nat} {L:Bx} {H:List AObj} {s:List AV} {st:LoopState} {j:Int}:dogL lk c ρ L H (.loop lk' s st j)=pcond (lk'=lk∧st=VV lk j) ((c.dec ρ L H s).bind fun g=>some (g,j)):=rfl
theorem dogL0_f {lk lk':xR} {c:AL γ} {ρ:List Nat} {L:Bx} {H:List AObj} {s:List AV} {st:LoopState} {j:Int}:Yl lk c ρ L H (.loop lk' s st j)=bif j==0 then pcond (lk'=lk∧st=VV lk j) (c.dec ρ L H s) else none:=rfl
theorem ogL_f {lk:xR} {c:AL γ}:(∀L g,(ogL lk c).enc L g= .loop lk (c.enc L g.1) (VV lk g.2) g.2)∧(∀ρ L H x,(ogL lk c).dec ρ L H x=dogL lk c ρ L H x)∧(∀g,(ogL lk c).len g=0)∧(ogL lk c).need=c.need:=⟨fun _ _=>rfl,fun _ _ _ _=>rfl,fun _=>rfl,rfl⟩
theorem ogL0_f {lk:xR} {c:AL γ}:(∀L g,(ogL0 lk c).enc L g= .loop lk (c.enc L g) .ready 0)∧(∀ρ L H x,(ogL0 lk c).dec ρ L H x=Yl lk c ρ L H x)∧(∀g,(ogL0 lk c).len g=0)∧(ogL0 lk c).need=c.need:=⟨fun _ _=>rfl,fun _ _ _ _=>rfl,fun _=>rfl,rfl⟩
end ogL
def Io:List (Int×Code)→qG→Int
 |(k,.ret)::_,.ret=>k
 |(k,.exit n)::t,.exit m=>bif n==m then k else Io t (.exit m)
 |_::t,e=>Io t e
 |[],_=>0
section outRd
variable {β:Type}
noncomputable def outR2 (js:List (Int×Code)) (pos:List Loc) (base:List Nat) (low:Nat) (os:OL β) (e:qG) (σ:AState):Option AObj→Option (β×(Bool×Unit))
 |some (.loop lk sl .busy 0)=>pcond (Ro e=some (sQ lk.js (Io js e))) (outL [.bool (sQ lk.js (Io js e)).isNone] pos base low os (qO oF pV) {σ with heap:=σ.heap.set 0 (.loop lk sl (VV lk (Io js e)) (Io js e))})
 |_=>none
noncomputable def outRd (js:List (Int×Code)) (pos:List Loc) (base:List Nat) (low:Nat) (os:OL β) (e:qG) (σ:AState):Option (β×(Bool×Unit)):=outR2 js pos base low os e σ σ.heap[0]?
theorem outR2_f {js:List (Int×Code)} {pos:List Loc} {base:List Nat} {low:Nat} {os:OL β} {e:qG} {σ:AState} {lk:xR} {sl:List AV}:outR2 js pos base low os e σ (some (.loop lk sl .busy 0))=
 pcond (Ro e=some (sQ lk.js (Io js e))) (outL [.bool (sQ lk.js (Io js e)).isNone] pos base low os (qO oF pV) {σ with heap:=σ.heap.set 0 (.loop lk sl (VV lk (Io js e)) (Io js e))}):=rfl
theorem TF {σ:AState} {x r:AV} {H':List AObj} (h:FN ⟨[x],σ.heap,σ.low,[]⟩ ⟨[r],H',σ.low,[]⟩):Ik σ x r H':=by
 intro C φ a w S v hv
 obtain ⟨φ',S'⟩:=h C φ {tmps:= #[v],defers:=[]} w {S with slots:=⟨v,[],rfl,hv,rfl⟩,defers:=uT.nil}
 obtain ⟨v',_,e,hr,_⟩:=S'.slots
 simp only[List.cons.injEq] at e
 obtain ⟨rfl,_⟩:=e
 exact ⟨φ',{S' with slots:=rfl,defers:=uT.nil},hr⟩
theorem outRd_ok {js:List (Int×Code)} {pos:List Loc} {base:List Nat} {low:Nat} {os:OL β} {e:qG} {σ:AState} {r:β×(Bool×Unit)} (hbase:base=gF low) (h:outRd js pos base low os e σ=some r):
 rPost (fun o H'=>o= .ret (vX ((qO oF pV).enc (os.lens r.1) r.2))∧H'=os.enc (os.lens r.1) r.1) e σ:=by
 unfold outRd outR2 at h
 split at h
 ·rename_i lk sl hk
  simp only[pU] at h
  obtain ⟨hj,h⟩:=h
  have:=QJ hbase h
  exact ⟨_,lk,sl,hj,hk,_,_,TF (σ:={σ with heap:=σ.heap.set 0 (.loop lk sl (VV lk (Io js e)) (Io js e))}) this.2,rfl,rfl⟩
 ·cases h
end outRd
section rules
variable {R:Type} {M:Mach R} {k:List Kt} {σ:AState}
theorem stepR2_J {H':List AObj} {lk:xR} {s:List AV} {j:Int}:Oo M k σ H' (some (.loop lk s (VV lk j) j))=KG M k {σ with heap:=H'.set σ.heap.length .dead} (sQ lk.js j):=by
 rw[Pv];exact MP
theorem stepR2_0 {H':List AObj} {lk:xR} {s:List AV}:Oo M k σ H' (some (.loop lk s .ready 0))=KG M k {σ with heap:=H'.set σ.heap.length .dead} none:=by
 rw[Pv];exact MP
end rules
theorem renObj_L {τ:Nat→Nat} {lk:xR} {s:List AV} {st:LoopState} {j:Int}:(AObj.loop lk s st j).ren τ= .loop lk (renL τ s) st j:=rfl
theorem accLen_L {lk:xR} {s:List AV} {st:LoopState} {j:Int}:oW (some (.loop lk s st j))=none:=rfl
theorem cellAt_f {c:Nat}:(∀xs,cellAt c (some (.cells xs))=xs[c]?)∧(∀lk xs st j,cellAt c (some (.loop lk xs st j))=xs[c]?):=⟨fun _=>rfl,fun _ _ _ _=>rfl⟩
theorem jumpE_f:Ro .normal=some none∧Ro .ret=some (some .ret)∧ ∀id,Ro (.exit id)=some (some (.exit id)):=⟨rfl,rfl,fun _=>rfl⟩
theorem numJ_f:(∀k t,Io ((k,.ret)::t) .ret=k)∧(∀k n t,Io ((k,.exit n)::t) .ret=Io t .ret)∧(∀k t m,Io ((k,.ret)::t) (.exit m)=Io t (.exit m))∧(∀k n t m,Io ((k,.exit n)::t) (.exit m)=bif n==m then k else Io t (.exit m))∧
 (∀js,Io js .normal=0)∧(∀e,Io [] e=0):=
 ⟨fun _ _=>rfl,fun _ _ _=>rfl,fun _ _ _=>rfl,fun _ _ _ _=>rfl,fun js=>by induction js with|nil=>rfl|cons x t ih=>obtain ⟨k,c⟩:=x;cases c<;>exact ih,fun _=>rfl⟩
noncomputable def entYo {α β α' β':Type} (pos:List Loc) (os:OL β) (as:AL α) (os':OL β') (rs:AL α') (F:β→α→Option (β'×α')) (l:Nat) (args:List AV) (H:List AObj):Option AObj→Option (AV×List AObj)
 |some (.loop k _ _ _)=>pcond (args.length=k.ps.size) (RT [l] pos os as os' rs F args H)
 |_=>none
theorem entY_o {α β α' β':Type} {pos:List Loc} {os:OL β} {as:AL α} {os':OL β'} {rs:AL α'} {F:β→α→Option (β'×α')} {l:Nat} {args:List AV} {H:List AObj}:
 entY pos os as os' rs F l args H=entYo pos os as os' rs F l args H H[l]? :=rfl
theorem entYo_f {α β α' β':Type} {pos:List Loc} {os:OL β} {as:AL α} {os':OL β'} {rs:AL α'} {F:β→α→Option (β'×α')} {l:Nat} {args:List AV} {H:List AObj} {k:xR} {s:List AV} {st:LoopState} {j:Int}:
 entYo pos os as os' rs F l args H (some (.loop k s st j))=pcond (args.length=k.ps.size) (RT [l] pos os as os' rs F args H):=rfl
def asgnC:Code→Code
 | .rangeFunc _ _ a _=>a
 |_=> .skip
def bdyC:Code→Code
 | .rangeFunc _ _ _ b=>b
 |_=> .skip
attribute [go_sem] asgnC bdyC
def tabJ:List (List Nat×List (Int×Code))→List Nat→List (Int×Code)
 |[],_=>[]
 |(p',js)::t,p=>if p=p' then js else tabJ t p
theorem ready_J {lk:xR}:(LoopState.ready=VV lk 0)=True:=by simp [stJ_zero]
noncomputable def oLf (zs:List NZ) (H:List AObj) (n:Nat):AObj→Option AObj
 | .loop lk s st j=>pcond (st=VV lk j) ((P7 zs H n s).bind fun ds=>some (.loop lk ds (VV lk j) j))
 |_=>none
noncomputable def oL (zs:List NZ):ZO:=⟨oLf zs,fun H n x y h=>by
 unfold oLf at h
 split at h
 ·simp only[pU,gy,gz] at h
  obtain ⟨rfl,ds,hd,rfl⟩:=h
  exact .inr (.inr (.inr (.inr ⟨_,_,_,_,_,rfl,rfl,QH hd⟩)))
 ·cases h⟩
theorem oL_f {zs:List NZ} {H:List AObj} {n:Nat} {lk:xR} {s:List AV} {st:LoopState} {j:Int}:(oL zs).f H n (.loop lk s st j)=pcond (st=VV lk j) ((P7 zs H n s).bind fun ds=>some (.loop lk ds (VV lk j) j)):=rfl
attribute [go_sem] ready_J oL_f ogL_f ogL0_f dogL_f dogL0_f outRd outR2_f outL RT stepR2_J stepR2_0 renObj_L accLen_L cellAt_f jumpE_f numJ_f entY_o entYo_f Yj
end Go.Abs
namespace Go.Abs
def mcB (p:Str×Bool):AV×AV:=(.str (sb p.1),.bool p.2)
def sE {α:Type} (s:Str):List (Str×α)→Option α
 |[]=>none
 |(k,v)::es=>bif s==k then some v else sE s es
def z8 {α:Type} (s:Str) (v:α):List (Str×α)→List (Str×α)
 |[]=>[(s,v)]
 |(k,u)::es=>bif s==k then (k,v)::es else (k,u)::z8 s v es
theorem VW (a b:Str):(sb a==sb b)=(a==b):=by
 rw[gN,MapKept.bytes_beq,beq_iff_eq]
 constructor
 ·intro h
  have:=congrArg ByteArray.toList h
  rwa [EE,EE] at this
 ·rintro rfl;rfl
theorem RU: ∀xs:List (Str×Bool),FP (xs.map mcB)=true
 |[]=>rfl
 |_::xs=>RU xs
theorem UL (xs:List (Str×Bool)):FP (mp mcB xs)=true:=by rw[uq];exact RU xs
theorem PB (s:Str): ∀xs:List (Str×Bool),xZ (sb s) (xs.map mcB)=(sE s xs).map AV.bool
 |[]=>rfl
 |(k,v)::xs=>by
  show (bif sb s==sb k then some (AV.bool v) else xZ (sb s) (xs.map mcB))=_
  rw[VW,PB s xs]
  simp only[sE]
  cases s==k<;>rfl
theorem mapFind_mp (s:Str) (xs:List (Str×Bool)):xZ (sb s) (mp mcB xs)=(sE s xs).map AV.bool:=by rw[uq];exact PB s xs
theorem RV (s:Str) (v:Bool): ∀xs:List (Str×Bool),Eu (sb s) (.bool v) (xs.map mcB)=(z8 s v xs).map mcB
 |[]=>rfl
 |(k,u)::xs=>by
  show (bif sb s==sb k then (AV.str (sb k),AV.bool v)::xs.map mcB else (AV.str (sb k),AV.bool u)::Eu (sb s) (.bool v) (xs.map mcB))=_
  rw[VW,RV s v xs]
  simp only[z8]
  cases s==k<;>rfl
theorem mapSet_mp (s:Str) (v:Bool) (xs:List (Str×Bool)):Eu (sb s) (.bool v) (mp mcB xs)=mp mcB (z8 s v xs):=by rw[uq,uq];exact RV s v xs
theorem Ym (o:Option Bool) (z:Bool):(o.map AV.bool).getD (.bool z)= .bool (o.getD z):=by cases o<;>rfl
theorem map_nil_mp:AObj.map []= .map (mp mcB []):=by rw[uq];rfl
theorem lookEff_mp {z:AV} {l:Nat} {s:Str} {xs:List (Str×Bool)}:Lm z l (sb s) (some (.map (mp mcB xs)))=some {val:=((sE s xs).map AV.bool).getD z,rd:=[l]}:=by
 simp only[Lm,UL,if_true,mapFind_mp]
theorem Yn {l:Nat} {s:Str} {v:Bool} {xs:List (Str×Bool)}:mapUpEff l (sb s) (.bool v) (some (.map (mp mcB xs)))=some {val:= .any,rd:=[l],up:=[(l,.map (mp mcB (z8 s v xs)))]}:=by
 simp only[mapUpEff,UL,if_true,mapSet_mp]
theorem Nv (n:Nat) (xs:List (Str×Bool)):objNb n (.map (mp mcB xs))=True:=by
 refine eq_true fun p hp=> ?_
 rw[uq,gU] at hp
 obtain ⟨q,_,rfl⟩:=hp
 exact ⟨trivial,trivial⟩
theorem mapRen_mp (ρ:Nat→Nat) (xs:List (Str×Bool)):(mp mcB xs).map (fun p=>(AV.ren ρ p.1,AV.ren ρ p.2))=mp mcB xs:=by
 rw[uq,gV]
 exact gM fun _ _=>rfl
theorem mapNbF_mp (n:Nat) (xs:List (Str×Bool)):(∀p:AV×AV,p∈mp mcB xs→AV.nb n p.1∧AV.nb n p.2)=True:=Nv n xs
attribute [go_sem high] mapRen_mp mapNbF_mp
def ddB:AV×AV→Option (Str×Bool)
 |(.str s,.bool b)=>some (s.toList,b)
 |_=>none
theorem ddB_ok {p:AV×AV} {q:Str×Bool} (h:ddB p=some q):p=mcB q:=by
 unfold ddB at h
 split at h
 ·rename_i s b
  simp only[gz] at h
  subst h
  simp only[mcB,gI,AV.str.injEq,and_true]
  obtain ⟨⟨l⟩⟩:=s
  rw[ByteArray.toList_eq];rfl
 ·cases h
theorem UM: ∀ {es:List (AV×AV)} {xs:List (Str×Bool)},mapO ddB es=some xs→es=xs.map mcB
 |[],xs,h=>by simp only[mapO,gz] at h;subst h;rfl
 |p::es,xs,h=>by
  simp only[mapO,gy,gz] at h
  obtain ⟨q,hq,ys,hys,rfl⟩:=h
  rw[ddB_ok hq,UM hys];rfl
theorem mapO_ddB {es:List (AV×AV)} {xs:List (Str×Bool)} (h:mapO ddB es=some xs):es=mp mcB xs:=by rw[uq];exact UM h
theorem map_ren (τ:Nat→Nat) (xs:List (Str×Bool)):(AObj.map (mp mcB xs)).ren τ= .map (mp mcB xs):=by
 rw[uq]
 show AObj.map ((xs.map mcB).map _)=_
 congr 1
 rw[gV]
 exact gM fun p _=>by obtain ⟨s,b⟩:=p;rfl
def daM:AObj→Option (List (Str×Bool))
 | .map es=>mapO ddB es
 |_=>none
theorem daM_mp {xs:List (Str×Bool)}:daM (.map (mp mcB xs))=some xs:=by
 show mapO ddB (mp mcB xs)=some xs
 exact CK (fun x=>by obtain ⟨s,b⟩:=x;show some ((sb s).toList,b)=_;rw[EE]) xs
theorem daM_ok {x:AObj} {xs:List (Str×Bool)} (h:daM x=some xs):x= .map (mp mcB xs):=by
 unfold daM at h
 split at h
 ·rw[mapO_ddB h]
 ·cases h
def Ke:OG (List (Str×Bool)) where
 enc _ xs:= .map (mp mcB xs)
 dec _ _ _:=daM
 len _:=0
 need:=0
 nb L g:=of_eq_true (Nv 0 g)
 ok ρ L H n x g _ h:=by
  rw[daM_ok h]
  rw[map_ren]
  exact .inr (.inl ⟨rfl,of_eq_true (Nv n g)⟩)
 RR ρ L H x g h:=by
  rw[daM_ok h];rfl
theorem ogM_f:(∀L g,Ke.enc L g= .map (mp mcB g))∧(∀ρ L H x,Ke.dec ρ L H x=daM x)∧(∀g,Ke.len g=0)∧Ke.need=0:=⟨fun _ _=>rfl,fun _ _ _ _=>rfl,fun _=>rfl,rfl⟩
def gAt:List (List Nat×List (Nat×Nat×Nat))→List Nat→AState→AState
 |[],_,σ=>σ
 |(q,g)::t,p,σ=>if p=q then RB g σ else gAt t p σ
theorem gAt_ok: ∀ {t:List (List Nat×List (Nat×Nat×Nat))} {p:List Nat} {σ:AState},FN σ (gAt t p σ)
 |[],_,_=>FN.refl _
 |(q,g)::t,p,σ=>by
  unfold gAt
  split
  ·exact Ou
  ·exact gAt_ok
noncomputable def tabG (fs:List (List Nat×List Nat)) (gs:List (List Nat×List (Nat×Nat×Nat))) (p:List Nat) (σ:AState):Option AState:=(oP fs p σ).map (gAt gs p)
theorem tabG_ok (fs:List (List Nat×List Nat)) (gs:List (List Nat×List (Nat×Nat×Nat))): ∀p σ σ',tabG fs gs p σ=some σ'→FN σ σ':=by
 intro p σ σ' h
 simp only[tabG,gE] at h
 obtain ⟨σ1,h1,rfl⟩:=h
 exact (nU _ _ _ _ h1).trans gAt_ok
attribute [go_sem] gAt tabG
attribute [go_sem] lookEff_mp Yn Ym map_nil_mp daM_mp ogM_f map_ren
attribute [go_sem high] Nv
end Go.Abs
namespace Go.Abs
def Tup (α:Type):Nat→Type
 |0=>Unit
 |n+1=>α×Tup α n
section tup
variable {α:Type}
def RW (c:α→List AV):(n:Nat)→Tup α n→List AV
 |0,_=>[]
 |n+1,x=>c x.1++RW c n x.2
def OB (d:List AV→Option α) (sz:Nat):(n:Nat)→List AV→Option (Tup α n)
 |0,cs=>if cs.isEmpty=true then some () else none
 |n+1,cs=>(d (cs.take sz)).bind fun x=>(OB d sz n (cs.drop sz)).bind fun t=>some (x,t)
theorem tupNb {c:α→List AV} (h: ∀n x,nbL n (c x)) (k:Nat): ∀ (n:Nat) (v:Tup α n),nbL k (RW c n v)
 |0,_=>trivial
 |n+1,v=>GA (h k v.1) (tupNb h k n v.2)
theorem tupOk {c:LO α} {H:List AObj} {m sz:Nat}: ∀ {n:Nat} {cs:List AV} {v:Tup α n},OB (c.dec H) sz n cs=some v→tX H m cs (RW c.enc n v)
 |0,cs,v,h=>by
  simp only[OB] at h
  split at h
  ·rename_i he
   rw[List.isEmpty_iff] at he
   subst he;exact tX.nil
  ·cases h
 |n+1,cs,v,h=>by
  simp only[OB,gy] at h
  obtain ⟨x,hx,t,ht,he⟩:=h
  obtain rfl:(x,t)=v:=Option.some.inj he
  have:=tX.append (c.ok H m _ _ hx) (tupOk (c:=c) (m:=m) ht)
  rw[List.take_append_drop] at this
  exact this
def cA (c:LO α) (sz n:Nat):LO (Tup α n) where
 enc v:=RW c.enc n v
 dec H cs:=OB (c.dec H) sz n cs
 ok H m cs v h:=tupOk h
 nb k v:=tupNb c.nb k n v
theorem cA_f {c:LO α} {sz n:Nat}:(∀v,(cA c sz n).enc v=RW c.enc n v)∧ ∀H cs,(cA c sz n).dec H cs=OB (c.dec H) sz n cs:=⟨fun _=>rfl,fun _ _=>rfl⟩
end tup
attribute [go_sem] cA_f
def JM (xs:List Str):List AV:=[.nY false 1 (mp pP xs)]
def dSS1:List AV→Option (List Str)
 |[c]=>dL sD [] c
 |_=>none
theorem scell_nbR (n:Nat) (xs:List Str):Gq n (mp pP xs):=xk (r:=sD) xs
def Yo:Row (List Str) where
 enc:=JM
 dec:=dSS1
 sz:=1
 ok r x h:=by
  unfold dSS1 at h
  split at h
  ·exact zN.cons (Uz.toSub (n:=0) (I9 h)) zN.nil
  ·cases h
 nb n x:=⟨scell_nbR n x,trivial⟩
theorem rowSS_f:Yo.enc=JM∧Yo.dec=dSS1∧Yo.sz=1:=⟨rfl,rfl,rfl⟩
theorem dSS1_cell (x:List Str):dSS1 (JM x)=some x:=by
 simp only[dSS1,JM,dL,Fm,Rz,beq_self_eq_true,Bool.true_or,cond_true,Fo]
theorem mapO_ss (xs:List (List Str)):mapO dSS1 (mp JM xs)=some xs:=CK dSS1_cell xs
theorem ss_nbs: ∀ (n:Nat) (xs:List (List Str)),Gq n (mp JM xs)=True:=fun n xs=>eq_true (xk (r:=Yo) xs)
theorem ss_rens: ∀ (ρ:Nat→Nat) (xs:List (List Str)),BA ρ (mp JM xs)=mp JM xs:=fun ρ xs=>wN ρ _ (xk (r:=Yo) xs)
attribute [go_sem] JM dSS1 rowSS_f mapO_ss ss_nbs ss_rens
end Go.Abs
namespace Go.Abs
end Go.Abs
namespace Go.Abs
section lend
variable {C:Ctx} {φ:Nat→Value} {σ:AState} {a:Act} {w:World}
def toImm:AObj→AObj
 | .acc _ sz rows=> .acc true sz rows
 |x=>x
theorem ql.immN (S:ql C φ σ a w): ∀n:Nat,ql C φ {σ with heap:=(σ.heap.take n).map toImm++σ.heap.drop n} a w
 |0=>by simpa using S
 |n+1=>by
  have ih:=ql.immN S n
  by_cases hn:n<σ.heap.length
  ·have hlen:((σ.heap.take n).map toImm).length=n:=by rw[List.length_map,List.length_take];omega
   have hd:=List.drop_eq_getElem_cons hn
   have ht:(σ.heap.take (n+1)).map toImm=(σ.heap.take n).map toImm++[toImm σ.heap[n]]:=by
    rw[List.take_succ_eq_append_getElem hn,List.map_append];rfl
   rw[ht,List.append_assoc,List.singleton_append]
   cases hx:σ.heap[n] with
   |acc u5 sz rows=>
    cases u5 with
    |true=>
     rw[hd,hx] at ih
     exact ih
    |false=>
     rw[hd,hx] at ih
     have hl:((σ.heap.take n).map toImm++AObj.acc false sz rows::σ.heap.drop (n+1))[n]? =some (.acc false sz rows):=by
      rw[List.getElem?_append_right (by omega),hlen,Nat.sub_self];rfl
     have:=ql.u5 hl ih
     rw[show ((σ.heap.take n).map toImm++AObj.acc false sz rows::σ.heap.drop (n+1)).set n (.acc true sz rows)=(σ.heap.take n).map toImm++AObj.acc true sz rows::σ.heap.drop (n+1) from by
      rw[List.set_append_right _ _ (by omega),hlen,Nat.sub_self];rfl] at this
     exact this
   |cells cs=>rw[hd,hx] at ih;exact ih
   |map es=>rw[hd,hx] at ih;exact ih
   |loop k s t p=>rw[hd,hx] at ih;exact ih
   |iter s p=>rw[hd,hx] at ih;exact ih
   |dead=>rw[hd,hx] at ih;exact ih
  ·have e1:σ.heap.take (n+1)=σ.heap.take n:=by rw[gO (by omega),gO (by omega)]
   have e2:σ.heap.drop (n+1)=σ.heap.drop n:=by rw[gP (by omega),gP (by omega)]
   rw[e1,e2];exact ih
theorem ql.immAll (S:ql C φ σ a w):ql C φ {σ with heap:=σ.heap.map toImm} a w:=by
 have:=ql.immN S σ.heap.length
 rwa [List.take_length,List.drop_length,List.append_nil] at this
theorem toImm_muts {x:AObj} {h:Value} {b o:Nat} (hm:(toImm x).muts h b o):x.muts h b o:=by
 cases x with
 |acc u5 sz rows=>
  cases u5 with
  |true=>exact hm
  |false=>exact RC hm
 |_=>exact hm
theorem immAll_le (C:Ctx) (φ:Nat→Value) (H:List AObj) (w:World):(C.env φ H w).Le H.length (C.env φ (H.map toImm) w):=by
 refine Ctx.zY (by simp) (fun k _=>⟨rfl,?_⟩) (fun b o u hm hc=>⟨fun h=>hm (h.imp ?_ id),hc⟩)
 ·rw[gH]
  cases H[k]? with
  |none=>rfl
  |some x=>cases x<;>rfl
 ·rintro ⟨k,y,hy,hmm⟩
  rw[gH,gE] at hy
  obtain ⟨x,hx,rfl⟩:=hy
  exact ⟨k,x,hx,toImm_muts hmm⟩
def vwN (H:List AObj):List AV→Option (List AV)
 |[]=>some []
 | .agg cs::r=>(N6 H cs).bind fun p=>(vwN H r).bind fun q=>some (.agg p.1::q)
 |c::r=>(N6 H [c]).bind fun p=>(vwN H r).bind fun q=>some (p.1++q)
theorem OC (S:ql C φ σ a w): ∀ {cs ds:List AV} {vs:List Value},vwN σ.heap cs=some ds→nj (C.env φ σ.heap w) cs vs→nj (C.env φ σ.heap w) ds vs
 |[],ds,vs,h,r=>by simp only[vwN,gz] at h;subst h;exact r
 |c::cs,ds,vs,h,⟨u,us,hv,r1,r2⟩=>by
  have other:(N6 σ.heap [c]).bind (fun p=>(vwN σ.heap cs).bind fun q=>some (p.1++q))=some ds→nj (C.env φ σ.heap w) ds vs:=by
   intro h
   rw[gy] at h
   obtain ⟨p,hp,h⟩:=h
   rw[gy] at h
   obtain ⟨q,hq,h⟩:=h
   cases h
   have:=Ex (vs:=[u]) S (show N6 σ.heap [c]=some (p.1,p.2) from hp) ⟨u,[],rfl,r1,rfl⟩
   have h2:=this.append (OC S hq r2)
   rw[hv];exact h2
  cases c with
  |agg xs=>
   simp only[vwN] at h
   rw[gy] at h
   obtain ⟨p,hp,h⟩:=h
   rw[gy] at h
   obtain ⟨q,hq,h⟩:=h
   cases h
   obtain ⟨ys,hy,rl⟩:=r1
   exact ⟨u,us,hv,⟨ys,hy,Ex S (show N6 σ.heap xs=some (p.1,p.2) from hp) rl⟩,OC S hq r2⟩
  |_=>exact other (by simpa only[vwN] using h)
def num1 (l:Nat):AV→AV
 | .int k n=> .int k n
 | .bool b=> .bool b
 | .str s=> .str s
 | .nY _ _ _=> .acc l 0
 |_=> .any
def num2 (l:Nat):AV→AV
 | .agg cs=> .agg (cs.map (num1 l))
 |x=>num1 l x
def num (l:Nat):AV→AV
 | .tup cs=> .tup (cs.map (num2 l))
 |x=>num2 l x
def firstC:List AObj→Nat→Option Nat
 |[],_=>none
 | .cells _::_,n=>some n
 |_::r,n=>firstC r (n+1)
theorem UN: ∀ {H:List AObj} {n l:Nat},firstC H n=some l→ ∃k cs,l=n+k∧H[k]? =some (.cells cs)
 |x::r,n,l,h=>by
  cases x with
  |cells cs=>simp only[firstC,gz] at h;exact ⟨0,cs,by omega,rfl⟩
  |_=>
   obtain ⟨k,cs,e,hk⟩:=UN (show firstC r (n+1)=some l from h)
   exact ⟨k+1,cs,by omega,hk⟩
section
variable {E E':Env} {l:Nat}
theorem Yp (h1:l<E'.n) (h2:E'.ln l=none): ∀ {x:AV} {v:Value},rE E x v→rE E' (num1 l x) v:=by
 intro x v h
 cases x with
 |nY t sz rows=>
  obtain ⟨base,cap,hv,_⟩:=h
  exact ⟨h1,⟨_,_,_,hv⟩,fun k hk=>by rw[h2] at hk;cases hk⟩
 |int=>exact h
 |bool=>exact h
 |str=>exact h
 |_=>exact trivial
theorem UO (h1:l<E'.n) (h2:E'.ln l=none): ∀ {xs:List AV} {vs:List Value},nj E xs vs→nj E' (xs.map (num1 l)) vs
 |[],_,h=>h
 |_::_,_,⟨u,us,hv,r1,r2⟩=>⟨u,us,hv,Yp h1 h2 r1,UO h1 h2 r2⟩
theorem Yq (h1:l<E'.n) (h2:E'.ln l=none) {x:AV} {v:Value} (h:rE E x v):rE E' (num2 l x) v:=by
 cases x with
 |agg cs=>obtain ⟨vs,hv,hr⟩:=h;exact ⟨vs,hv,UO h1 h2 hr⟩
 |_=>exact Yp h1 h2 h
theorem UP (h1:l<E'.n) (h2:E'.ln l=none): ∀ {xs:List AV} {vs:List Value},nj E xs vs→nj E' (xs.map (num2 l)) vs
 |[],_,h=>h
 |_::_,_,⟨u,us,hv,r1,r2⟩=>⟨u,us,hv,Yq h1 h2 r1,UP h1 h2 r2⟩
theorem num_rep (h1:l<E'.n) (h2:E'.ln l=none) {x:AV} {v:Value} (h:rE E x v):rE E' (num l x) v:=by
 cases x with
 |tup cs=>obtain ⟨vs,hv,hr⟩:=h;exact ⟨vs,hv,UP h1 h2 hr⟩
 |_=>exact Yq h1 h2 h
end
noncomputable def entB (e:EntD):Ent:=fun args H=>pcond (¬ nbL 0 args) ((firstC H 0).bind fun l=>(vwN (H.map toImm) args).bind fun as=>(e as).bind fun r=>some (num l r,H))
theorem entB_ok {P:Program} {f:FuncId} {e:EntD} (h:KL P f e):Ja P f (entB e):=by
 intro args σ r H' he
 unfold entB at he
 have he:=(pU.1 he).2
 rw[gy] at he
 obtain ⟨l,hl,he⟩:=he
 obtain ⟨k,cs,hk,hl⟩:=UN hl
 obtain rfl:l=k:=by omega
 rw[gy] at he
 obtain ⟨as,hv,he⟩:=he
 rw[gy] at he
 obtain ⟨q,hq,he⟩:=he
 cases he
 obtain ⟨hen,hnb,hc⟩:=h as q hq
 refine ⟨hen,fun C φ a w hP S vs hr=> ?_⟩
 have S':=S.immAll
 have hr':nj (C.env φ (σ.heap.map toImm) w) args vs.toList:=nj.mono (immAll_le C φ σ.heap w) _ _ (nj.nb _ _ hr) hr
 have hd:=OC S' hv hr'
 refine (hc S'.callee φ w hP rfl rfl (fun _ _ h=>h) vs (nj.mono (S'.Uy φ w) _ _ hnb hd)).mono ?_
 rintro e' w' ⟨r,v,φ',rfl,rfl,rep,hs,hh,hf,ho⟩
 exact ⟨.ret (num l r),φ,σ.heap,⟨rfl,rfl⟩,S.grown hs hh hf ho,num_rep (gA.1 hl).1 (by show oW σ.heap[l]? =none;rw[hl];rfl) rep⟩
end lend
end Go.Abs
namespace Go.Abs
theorem pcond_no {R:Type} {x:Option R}:pcond False x=none:=by simp [pcond]
theorem not_nb:(¬ True)=False∧(¬ False)=True:=⟨by simp,by simp⟩
theorem VX {n:Nat} {r:List AV}: ∀ {rows:List (List AV)} {i:Nat},Gq n rows→Gq n (rows.set i r)=(rows.length≤i∨nbL n r)
 |[],_,_=>eq_true trivial|>.trans (eq_true (.inl (Nat.zero_le _))).symm
 |_::_,0,h=>by
  have e:(nbL n r∧Gq n _)=nbL n r:=propext ⟨fun q=>q.1,fun q=>⟨q,h.2⟩⟩
  show (nbL n r∧Gq n _)=_
  rw[e]
  exact propext ⟨.inr,fun q=>q.elim (fun q=>absurd q (Nat.not_succ_le_zero _)) id⟩
 |_::rows,i+1,h=>by
  show (nbL n _∧Gq n (rows.set i r))=_
  rw[VX (rows:=rows) (i:=i) h.2]
  exact propext ⟨fun q=>q.2.imp Nat.succ_le_succ id,fun q=>⟨h.1,q.imp Nat.le_of_succ_le_succ id⟩⟩
theorem pcond_bind {R S:Type} {p:Prop} {x:Option R} {f:R→Option S}:(pcond p x).bind f=pcond p (x.bind f):=by
 unfold pcond
 split<;>rfl
theorem idxA_set {α β:Type} {xs:List α} {r:α} {n:Int} {f:α→Option β}:(xz (xs.set n.toNat r) n).bind f=bif decide (0≤n)&&decide (n.toNat<xs.length) then f r else none:=by
 unfold xz
 by_cases h0:0≤n
 ·by_cases h1:n.toNat<xs.length
  ·rw[if_pos h0,gQ h1,decide_eq_true h0,decide_eq_true h1];rfl
  ·rw[if_pos h0,gR (by rw[List.length_set];omega),decide_eq_true h0,decide_eq_false h1];rfl
 ·rw[if_neg h0,decide_eq_false h0];rfl
theorem get_set {α β:Type} {xs:List α} {r:α} {i:Nat} {f:α→Option β}:((xs.set i r)[i]?).bind f=bif decide (i<xs.length) then f r else none:=by
 by_cases h1:i<xs.length
 ·rw[gQ h1,decide_eq_true h1];rfl
 ·rw[gR (by rw[List.length_set];omega),decide_eq_false h1];rfl
theorem Yr (n:Nat) (xs:List Str) (i:Nat) (r:List AV):Gq n ((mp pP xs).set i r)=(xs.length≤i∨nbL n r):=by
 rw[VX (rows:=mp pP xs) (xk (r:=sD) xs),EB]
def runeB (n:Int):Str:=(Utf8.encode n).data.toList
theorem encode_sb (n:Int):Utf8.encode n=sb (runeB n):=(VM _).symm
theorem VY {α β:Type} {x y:Option α} {g:α→β}:(x.bind fun r=>some (g r)).or (y.bind fun r=>some (g r))=(x.or y).bind fun r=>some (g r):=by cases x<;>rfl
def dLt' {α:Type} (r:Row α):AV→Option (List α)
 | .nY true sz rows=>bif Fm sz r.sz rows then mapO r.dec rows else none
 |_=>none
theorem TG {sz k:Nat} {rows vV:List (List AV)} (h:Fm sz k rows=true) (hs:JD rows vV):Sub (.nY true sz rows) (.nY true k vV):=by
 intro E v r
 obtain ⟨base,cap,h1,h2,_,h4,h5,h6⟩:=JG (t:=true) h hs E v r
 obtain ⟨base',cap',h1',_,h3',_⟩:=r
 have e:=h1.symm.trans h1'
 simp only[Value.slice.injEq] at e
 obtain ⟨rfl,_,rfl⟩:=e
 exact ⟨base,cap,h1,h2,fun _=>by rw[h3' rfl,hs.1],h4,h5,h6⟩
def VZ {α:Type} (r:Row α):Ty (List α) where
 enc xs:= .nY true r.sz (mp r.enc xs)
 dec _:=dLt' r
 ok H n v xs h:=by
  unfold dLt' at h
  split at h
  ·rename_i sz rows
   cases hs:Fm sz r.sz rows with
   |false=>rw[hs] at h;cases h
   |true=>
    rw[hs,cond_true] at h
    exact Co.sub (TG hs (EC h).1) (xk xs)
  ·cases h
 nb _ xs:=xk xs
theorem tyLt_f {α:Type} {r:Row α}:(∀xs,(VZ r).enc xs= .nY true r.sz (mp r.enc xs))∧ ∀H v,(VZ r).dec H v=dLt' r v:=⟨fun _=>rfl,fun _ _=>rfl⟩
theorem stepN_goto {R:Type} {M:Mach R} {p:List Nat} {k:List Kt} {σ:AState} {l:Nat}:BD M p k σ (.goto l)=none:=rfl
attribute [go_sem] entB vwN toImm num num1 num2 firstC immF opTmp pcond_bind or_true idxA_set get_set stepN_goto Yr encode_sb VY tyLt_f dLt' Bool.not_true Bool.not_false pcond_no not_nb and_false false_and and_true true_and
end Go.Abs
namespace Go.Abs
theorem sb_dtl (s:Str):(sb s).data.toList=s:=by simp [sb]
theorem args2 {E:Env} {x y:AV} {vs:Array Value} {u v:Value} (h:nj E [x,y] vs.toList) (hx: ∀w,rE E x w→w=u) (hy: ∀w,rE E y w→w=v):vs= #[u,v]:=by
 obtain ⟨v0,us,hvs,r0,v1,us1,SV,r1,Zp⟩:=h
 have hus1:us1=[]:=Zp
 have e0:=hx _ r0
 have e1:=hy _ r1
 subst hus1 SV e0 e1
 cases vs;simp_all
theorem V0 {P:Program} {f:FuncId} {g:Nat} (he:enters P f=true) (hk:kdom g 0) (hkv: ∀v,kval g 0 v→ ∃m,v= .int .i64 m)
 (h: ∀ (s sub:ByteArray) (m:Int) (w:World),s.size<4294967281→w.cell? ⟨g,0,none⟩=some (.int .i64 m)→Calls P f #[.string s,.string sub] w fun e w'=>e= .returned (.bool (Lib.contains s.data.toList sub.data.toList))∧w'=w)
 (s sub:Str) (hs:s.length<4294967281):xY P f [uI.enc s,uI.enc sub] (fun v=>v=oF.enc (Lib.contains s sub)):=by
 refine ⟨he,⟨uI.nb 0 _,uI.nb 0 _,trivial⟩,fun C φ w hP hw hN0 hM vs hr=> ?_⟩
 obtain rfl:=args2 hr (u:= .string (sb s)) (v:= .string (sb sub)) (fun _ h=>h) (fun _ h=>h)
 obtain ⟨v,hv,hkval,_⟩:=C.hk g 0 hk
 obtain ⟨m,rfl⟩:=hkv v hkval
 rw[hw] at hv
 have:=h (sb s) (sb sub) m w (by rw[QI];exact hs) hv
 rw[sb_dtl,sb_dtl] at this
 refine this.mono ?_
 rintro e w' ⟨rfl,rfl⟩
 exact ⟨_,_,φ,rfl,rfl,rfl,Nat.le_refl _,fun _ _=>rfl,fun _ _=>rfl,rfl,rfl⟩
end Go.Abs
namespace Go.Abs
section marks
variable {C:Ctx} {φ:Nat→Value} {σ:AState} {F:Fence} {n:Nat}
theorem OD (hdf:σ.df=[]): ∀ (ds:List Deferred) (w:World) (fr:Frame) (cs:List Frame),fr.mode= .returning→fr.defers=ds→F.fn fr.fn→F.room (cs.length+1+n)→ql C φ σ {tmps:=fr.tmps,defers:=ds} w→
 ∃w',StepsIn (Machine.fenced C.P F) C.P (lone fr cs w) (lone {fr with defers:=[]} cs w')∧ql C φ σ {tmps:=fr.tmps,defers:=[]} w'
 |[],w,fr,cs,hm,hd,hb,hr,S=>⟨w,by rw[show ({fr with defers:=[]}:Frame)=fr by rw[←hd]];exact StepsIn.refl _,S⟩
 |d::ds,w,fr,cs,hm,hd,hb,hr,S=>by
  have hmk:MZ d=true:=by
   have:=S.defers.2.2
   rw[hdf] at this
   have Zp:(d::ds).filter (fun d=> !MZ d)=[]:=this
   rw[List.filter_eq_nil_iff] at Zp
   simpa using Zp d (List.mem_cons_self)
  obtain ⟨D,hD,_⟩:=S.defers.2.1 d (List.mem_cons_self) hmk
  subst hD
  obtain ⟨h1,S'⟩:=S.Nk
  have hrun:fr.mode≠ .run:=by rw[hm];simp
  have hstep:=step_collected (P:=C.P) (cs:=cs) hrun hd rfl (run_takeDeferred h1)
  have i1:(lone fr cs w).fenced C.P F:=fenced_out hb hr hrun hd (fun g hg=>by simp [Target.leads] at hg)
  obtain ⟨w',hs,S2⟩:=OD hdf ds (w.putObj D (.deferred none)) {fr with defers:=[]++ds} cs hm rfl hb hr S'
  exact ⟨w',.head i1 hstep hs,S2⟩
end marks
def JN (C:Ctx) (fn:Func) (c₀:Frame) (cs:List Frame) (R:Ending→FrameMode→World→Prop):Exit→Act→List Frame→World→Prop
 | .normal,a,cs',w| .ret,a,cs',w=> ∃u',cs'={c₀ with mode:=u'}::cs∧ ∃φ σ,ql C φ σ a w∧σ.df=[]∧
     ∀w',ql C φ σ {tmps:=a.tmps,defers:=[]} w'→ ∃v,(results fn a.tmps).run C.P w'= .ok v w'∧R (.returned v) u' w'
 |_,_,_,_=>False
theorem Nw {C:Ctx} {F:Fence} {n:Nat} {f:FuncId} {fn:Func} {c:Code} {args:Array Value} {u:FrameMode} {w:World} {R:Ending→FrameMode→World→Prop}
 (hf:C.P.funcs[f]? =some fn) (hb:fn.body=some c) (hF:F.fn f)
 (h: ∀ (c₀:Frame) (cs:List Frame),c₀.mode=u→c.wpSIn F n C.P (JN C fn c₀ cs R) {tmps:=args++gG (fn.ntmps-args.size) undef,defers:=[]} (c₀::cs) w):
 CallsDIn F n C.P f args u w R:=by
 refine ⟨hF,fun c₀ cs hu hroom=> ?_⟩
 let b:Frame:={(default:Frame) with fn:=f,kind:= .deferred,roundOf:=none}
 have henter:Frame.enter C.P f args .deferred=b.atR {tmps:=args++gG (fn.ntmps-args.size) undef,defers:=[]} [.code c]:=by
  simp [Frame.enter,Frame.atR,hf,hb,b]
 obtain ⟨e,a',cs',w',hl,hq,S9⟩:=h c₀ cs hu b [] rfl rfl hF hroom
 rw[←henter] at S9
 cases e with
 |normal=>
  obtain ⟨u',rfl,φ,σ,S,hdf,hw⟩:=hq
  obtain ⟨w2,hs,S2⟩:=OD (F:=F) (n:=n) hdf a'.defers w' {b.atR a' [] with mode:= .returning} ({c₀ with mode:=u'}::cs) rfl rfl hF hroom S
  obtain ⟨v,hr,hR⟩:=hw w2 S2
  exact ⟨.returned v,u',w2,_,hR,StepsIn.trans (StepsIn.trans S9 (.one (fenced_calm (fr:=b.atR a' []) hF hroom rfl) (stepR_end rfl))) hs,rfl,rfl,rfl,rfl,fn,hf,hr⟩
 |ret=>
  obtain ⟨u',rfl,φ,σ,S,hdf,hw⟩:=hq
  obtain ⟨todo,hs0⟩:=S9.1 rfl
  obtain ⟨w2,hs,S2⟩:=OD (F:=F) (n:=n) hdf a'.defers w' {b.atR a' todo with mode:= .returning} ({c₀ with mode:=u'}::cs) rfl rfl hF hroom S
  obtain ⟨v,hr,hR⟩:=hw w2 S2
  exact ⟨.returned v,u',w2,_,hR,StepsIn.trans hs0 hs,rfl,rfl,rfl,rfl,fn,hf,hr⟩
 |panic chain=>exact hq.elim
 |exit id=>exact hq.elim
 |goto l=>exact hq.elim
 |outgrown=>exact hq.elim
def JO (P:Program) (ops:Array Oper):List Oper→(AState→Prop)→AState→Prop
 |[],K,σ=>K σ
 |o::rest,K,σ=>sH ops o σ=some true∧ ∃e,n6 P σ o.op=some e∧e.pre∧JO P ops rest K (σ.app o.dst e)
theorem Ip {C:Ctx} {ops:Array Oper} {K:AState→Prop} {cs:List Frame} {Q:Exit→Act→List Frame→World→Prop}
 (hQ: ∀φ σ a w,ql C φ σ a w→K σ→Q .normal a cs w): ∀ (rest:List Oper) (k:Nat),ops.toList.drop k=rest→ ∀ (φ:Nat→Value) (σ:AState) (a:Act) (w:World),
 JO C.P ops rest K σ→ql C φ σ a w→wpOpsSIn Fence.wide 0 C.P ops Q (gW k rest.length) a cs w
 |[],k,_,φ,σ,a,w,h,S=>hQ φ σ a w S h
 |o::rest,k,hk,φ,σ,a,w,h,S=>by
  have ho:ops[k]? =some o:=by
   have:=congrArg (fun l:List Oper=>l[0]?) hk
   simpa using this
  have s9:ops.toList.drop (k+1)=rest:=by
   have:=congrArg List.tail hk
   simpa [List.tail_drop] using this
  obtain ⟨hw,e,he,hp,hr⟩:=h
  simp only[List.length_cons,List.range'_succ,wpOpsSIn,ho]
  refine ⟨fun _ _=>trivial,?_⟩
  rw[zB S hw,if_pos rfl]
  obtain ⟨m,v,w',φ',hrun,hn,S'⟩:=Hx S he hp
  rw[hrun]
  rcases hn with rfl|⟨rfl,rfl⟩
  ·exact Ip hQ rest (k+1) s9 φ' _ _ w' hr S'
  ·exact Ip hQ rest (k+1) s9 φ' _ _ w' hr S'
def isRec (o:Oper):Bool:=match o.op with
 | .call {callee:= .builtin .recover,args,..}=>args.isEmpty&&o.guard.isNone
 |_=>false
def dPost (P:Program) (rs:List ResultVar) (V:wM→List AObj→Prop):qG→AState→Prop
 | .normal,σ=>σ.df=[]∧Rn P rs V none σ
 | .ret,σ=>σ.df=[]∧Rn P rs V none σ
 |_,_=>False
theorem L9 {C:Ctx} {φ:Nat→Value} {w:World} {f:FuncId} {fn:Func} {id:Nat} {ops:Array Oper} {y:Code} {o:Oper} {rest:List Oper} {args:List AV} {x:AV} {H:List AObj} {V:wM→List AObj→Prop} {u u':FrameMode} {v:Value} {VE:Array Value}
 (hf:C.P.funcs[f]? =some fn) (hb:fn.body=some (.seq (.region id ops false) y)) (KM:ops.toList=o::rest) (Ih:isRec o=true)
 (hmode: ∀ (c₀:Frame) (cs:List Frame),c₀.mode=u→recoverD (c₀::cs)=some (v,{c₀ with mode:=u'}::cs)∨(recoverD (c₀::cs)=none∧v= .nilIface∧u'=u))
 {n:Nat} (hn:fn.ntmps=n) {rs:List ResultVar} (Om:fn.results=rs.toArray) (hN0:C.N0=H.length) (HS:HSim C φ H w) (hra:nj (C.env φ H w) args VE.toList) (hrx:rE (C.env φ H w) x v)
 (h:JO C.P ops rest (fun σ1=> ∃σ2,FN σ1 σ2∧QB C.P y (dPost C.P rs V) σ2) (AState.put {slots:=args++gC (n-args.length) .any,heap:=H,low:=H.length} o.dst x)):
 CallsDIn Fence.wide 0 C.P f VE u w (fun e u2 w'=> ∃r,e= .returned r∧u2=u'∧ ∃o φ' H',V o H'∧ql C φ' {slots:=[],heap:=H',low:=H.length} {tmps:= #[],defers:=[]} w'∧o.rep (C.env φ' H' w') (.returned r)):=by
 have hsz:VE.size=args.length:=by have:=hra.length;simpa using this
 have S:ql C φ {slots:=args++gC (n-args.length) .any,heap:=H,low:=H.length} {tmps:=VE++gG (fn.ntmps-VE.size) undef,defers:=[]} w:=by
  refine {HS with slots:= ?_,defers:=uT.nil}
  simp only[gT,Array.toList_replicate]
  refine hra.append ?_
  rw[hsz,hn]
  have:=nj.Cr (E:=C.env φ H w) (gC (n-args.length) undef)
  simpa using this
 have Dt: ∀ {φ':Nat→Value} {σ':AState} {a'':Act} {w'':World},ql C φ' σ' a'' w''→σ'.low=H.length:=fun S'=>by rw[←S'.low.1];exact hN0
 refine Nw hf hb trivial ?_
 intro c₀ cs hu
 refine wpSIn_seq (wpSIn_region ?_)
 have hsize:gF ops.size=0::gW 1 rest.length:=by
  have:ops.size=rest.length+1:=by rw[←Array.length_toList,KM];rfl
  rw[this,List.range_eq_range',List.range'_succ]
 have ho:ops[0]? =some o:=by
  have:ops.toList[0]? =some o:=by rw[KM];rfl
  simpa using this
 rw[hsize]
 simp only[wpOpsSIn,ho]
 refine ⟨fun _ _=>trivial,?_⟩
 have hrun:(execOp (Act.eval {tmps:=VE++gG (fn.ntmps-VE.size) undef,defers:=[]}) o).run C.P w= .ok .recover w∧o.guard=none:=by
  unfold isRec at Ih
  split at Ih
  ·rename_i hh
   rw[gD] at Ih
   obtain ⟨h1,h2⟩:=Ih
   refine ⟨?_,by simpa using h2⟩
   simp only[Array.isEmpty_iff] at h1
   subst h1
   simp [execOp,hh,resolve,invoke,builtin]
  ·cases Ih
 have hw:Region.wanted o (yielded ops (VE++gG (fn.ntmps-VE.size) undef))=true:=by
  unfold Region.wanted;rw[hrun.2]
 rw[hw,if_pos rfl,hrun.1]
 have S1:=S.put o.dst hrx
 have key:wpOpsSIn Fence.wide 0 C.P ops (Exit.thenS (y.wpSIn Fence.wide 0 C.P (JN C fn c₀ cs (fun e u2 w'=> ∃r,e= .returned r∧u2=u'∧ ∃o φ' H',V o H'∧ql C φ' {slots:=[],heap:=H',low:=H.length} {tmps:= #[],defers:=[]} w'∧o.rep (C.env φ' H' w') (.returned r))))
  (JN C fn c₀ cs (fun e u2 w'=> ∃r,e= .returned r∧u2=u'∧ ∃o φ' H',V o H'∧ql C φ' {slots:=[],heap:=H',low:=H.length} {tmps:= #[],defers:=[]} w'∧o.rep (C.env φ' H' w') (.returned r)))) (gW 1 rest.length)
  (Act.put {tmps:=VE++gG (fn.ntmps-VE.size) undef,defers:=[]} o.dst v) ({c₀ with mode:=u'}::cs) w:=by
  refine Ip (K:=fun σ1=> ∃σ2,FN σ1 σ2∧QB C.P y (dPost C.P rs V) σ2) ?_ rest 1 (by rw[KM];rfl) φ _ _ w h S1
  rintro φ1 σ1 a1 w1 S1 ⟨σ2,himp,hy⟩
  obtain ⟨φ2,S2⟩:=himp C φ1 a1 w1 S1
  refine wpSIn_of_wpIn rfl (wpIn_mono (yw (ro:=none) y _ φ2 σ2 a1 w1 (.inl rfl) hy S2) ?_)
  intro e a' w' hq
  have fin: ∀φ' σ',ql C φ' σ' a' w'→σ'.df=[]∧Rn C.P rs V none σ'→JN C fn c₀ cs (fun e u2 w'=> ∃r,e= .returned r∧u2=u'∧ ∃o φ' H',V o H'∧ql C φ' {slots:=[],heap:=H',low:=H.length} {tmps:= #[],defers:=[]} w'∧o.rep (C.env φ' H' w') (.returned r)) .normal a' ({c₀ with mode:=u'}::cs) w':=by
   rintro φ' σ' S' ⟨hdf,xr,hx,r,H',hex,hV'⟩
   refine ⟨_,rfl,φ',σ',S',hdf,fun w'' S''=> ?_⟩
   obtain ⟨vv,hv,rv⟩:=HD (fn:=fn) S'' (by rw[Om];exact hx)
   obtain ⟨φ3,S3,hr3⟩:=hex C φ' _ w'' S'' vv rv
   rw[Dt S''] at S3
   exact ⟨vv,hv,vv,rfl,rfl,.ret r,φ3,H',hV',S3,hr3⟩
  cases e with
  |normal=>obtain ⟨φ',σ',S',hq⟩:=hq;exact fin φ' σ' S' hq
  |ret=>obtain ⟨φ',σ',S',hq⟩:=hq;exact fin φ' σ' S' hq
  |exit id=>obtain ⟨_,_,_,hq⟩:=hq;exact hq.elim
  |goto l=>obtain ⟨_,_,_,hq⟩:=hq;exact hq.elim
  |panic chain=>obtain ⟨_,_,_,_,_,hq,_⟩:=hq;exact hq.elim
  |outgrown=>exact hq.elim
 rcases hmode c₀ cs hu with hm|⟨hm,hv,hu'⟩
 ·simp only[hm]
  exact key
 ·simp only[hm]
  subst hv hu'
  rw[show ({c₀ with mode:=u'}:Frame)=c₀ by rw[←hu]] at key
  exact key
theorem Qe {P:Program} {f:FuncId} {fn:Func} {id:Nat} {ops:Array Oper} {y:Code} {o:Oper} {rest:List Oper} {args:List AV} {x:AV} {H:List AObj} {V:wM→List AObj→Prop} (hf:P.funcs[f]? =some fn) (hb:fn.body=some (.seq (.region id ops false) y)) (KM:ops.toList=o::rest) (Ih:isRec o=true)
 (hnb:nbL H.length (args++[x])) (Dz: ∀x∈H,objNb H.length x) {n:Nat} (hn:fn.ntmps=n) {rs:List ResultVar} (Om:fn.results=rs.toArray)
 (h:JO P ops rest (fun σ1=> ∃σ2,FN σ1 σ2∧QB P y (dPost P rs V) σ2) (AState.put {slots:=args++gC (n-args.length) .any,heap:=H,low:=H.length} o.dst x)):Xb P (Xf P f) (args++[x]) H V:=by
 refine ⟨hnb,Dz,fun C φ w hP h0 hN0 hφ0 hM HS vs hr VE v hvs=> ?_⟩
 subst hP
 subst hvs
 have hr':nj (C.env φ H w) args VE.toList∧rE (C.env φ H w) x v:=by
  rw[Array.toList_push] at hr
  have hl:VE.toList.length=args.length:=by
   have:=hr.length
   simp at this
   simpa using this
  have h1:=hr.take args.length
  have h2:=hr.drop args.length
  rw[gK rfl,gK hl] at h1
  rw[gL rfl,gL hl] at h2
  obtain ⟨u,us,he,r1,_⟩:=h2
  simp only[List.cons.injEq] at he
  obtain ⟨rfl,_⟩:=he
  exact ⟨h1,r1⟩
 refine Ba (L9 (u':= .panicking [{v,recovered:=true}]) hf hb KM Ih (fun c₀ cs hu=> .inl (by simp only[recoverD,hu])) hn Om hN0 HS hr'.1 hr'.2 h) ?_
 rintro e u' w' ⟨r,rfl,rfl,s9⟩
 exact ⟨r,rfl,.inl ⟨rfl,s9⟩⟩
theorem Qf {P:Program} {f:FuncId} {fn:Func} {id:Nat} {ops:Array Oper} {y:Code} {o:Oper} {rest:List Oper} {args:List AV} {H:List AObj} {V:wM→List AObj→Prop} (hf:P.funcs[f]? =some fn) (hb:fn.body=some (.seq (.region id ops false) y)) (KM:ops.toList=o::rest) (Ih:isRec o=true)
 (hnb:nbL H.length args) (Dz: ∀x∈H,objNb H.length x) {n:Nat} (hn:fn.ntmps=n) {rs:List ResultVar} (Om:fn.results=rs.toArray)
 (h:JO P ops rest (fun σ1=> ∃σ2,FN σ1 σ2∧QB P y (dPost P rs V) σ2) (AState.put {slots:=args++gC (n-args.length) .any,heap:=H,low:=H.length} o.dst (.raw .nilIface))):Xb P (Xe P f) args H V:=by
 refine ⟨hnb,Dz,fun C φ w hP h0 hN0 hφ0 hM HS vs hr=> ?_⟩
 subst hP
 refine Ba (L9 (u':= .returning) (x:= .raw .nilIface) (v:= .nilIface) hf hb KM Ih (fun c₀ cs hu=> .inr ⟨by simp only[recoverD,hu],rfl,rfl⟩) hn Om hN0 HS hr rfl h) ?_
 rintro e u' w' ⟨r,rfl,rfl,s9⟩
 exact ⟨r,rfl,rfl,s9⟩
section run
variable {R:Type} {M:Mach R}
theorem PC {ops:Array Oper} {K:AState→Prop}: ∀ (rest:List Oper) (σ:AState) (e:qG) (σ':AState),rest.all (fun o=>Rs o.op&&(match o.op with| .call _=>false| .defer _=>false|_=>o.guard.isNone))=true→vO M ops rest σ=some (e,σ')→K σ'→JO M.P ops rest K σ
 |[],σ,e,σ',_,h,hK=>by simp only[vO,gz,gI] at h;obtain ⟨_,rfl⟩:=h;exact hK
 |o::rest,σ,e,σ',hc,h,hK=>by
  rw[List.all_cons,gD,gD] at hc
  obtain ⟨⟨h1,h2⟩,h3⟩:=hc
  have hg:o.guard=none:=by
   split at h2
   ·cases h2
   ·cases h2
   ·simpa using h2
  have hw:sH ops o σ=some true:=by unfold sH;rw[hg]
  have hgs:uH ops o true σ=σ:=VB hw
  simp only[vO,hw,cond_true,hgs,KI h1,XJ h1] at h
  have hy:yieldOf σ o.op=none:=by
   unfold yieldOf
   split
   ·rename_i hh;rw[hh] at h2;cases h2
   ·rfl
  have hd:AB σ o.op=none:=by
   unfold AB
   split
   ·rename_i hh;rw[hh] at h2;cases h2
   ·rfl
  simp only[hy,hd] at h
  cases he:n6 M.P σ o.op with
  |none=>simp only[he] at h;cases h
  |some e'=>
   simp only[he] at h
   rw[pU] at h
   exact ⟨hw,e',he,h.1,PC rest _ e σ' h3 h.2 hK⟩
def Lx (rest:List Oper):Bool:=rest.all fun o=>Rs o.op&&(match o.op with| .call _=>false| .defer _=>false|_=>o.guard.isNone)
theorem rec_run {id:Nat} {ops:Array Oper} {y:Code} {rest:List Oper} {σ:AState} {Q:qG→AState→Prop} {r:R} (G:Good M) (hbody:M.body= .seq (.region id ops false) y) (PD:Lx rest=true)
 (hout: ∀σ,M.out σ=some r→Q .normal σ∧Q .ret σ) (h:run M [.ops ops rest,.cut [1],.at [1]] σ=some r) (hP: ∀x σ',M.xT x σ'=none:=by intros;rfl):JO M.P ops rest (fun σ1=> ∃σ2,FN σ1 σ2∧QB M.P y Q σ2) σ:=by
 have h':fin M [.ops ops rest,.cut [1],.at [1]] .normal σ=some r:=h
 rw[sw (by simp)] at h'
 simp only[yF] at h'
 cases hx:vO M ops rest σ with
 |none=>simp only[hx] at h';cases h'
 |some q=>
  obtain ⟨e,σ1⟩:=q
  have hnorm:e= .normal:=JF rest σ e σ1 (by
   unfold Lx at PD
   rw[List.all_eq_true] at PD ⊢
   intro o ho
   have:=PD o ho
   rw[gD] at this
   exact this.1) hx
  subst hnorm
  simp only[hx] at h'
  refine PC rest σ _ σ1 PD hx ?_
  rw[sw (by simp)] at h'
  simp only[yF] at h'
  cases hcut:M.cut [1] σ1 with
  |none=>simp only[hcut,Option.map_none] at h';cases h'
  |some σ2=>
   simp only[hcut,Option.map_some] at h'
   refine ⟨σ2,G.cut _ _ _ hcut,?_⟩
   have h1:sub [1] M.body=y:=by rw[hbody];rfl
   rw[sw (by simp)] at h'
   simp only[yF,h1] at h'
   cases F7:exec M y [1] σ2 with
   |none=>simp only[F7] at h';cases h'
   |some q=>
    obtain ⟨e2,σ3⟩:=q
    simp only[F7] at h'
    refine yE G _ [1] _ _ e2 σ3 F7 ?_
    cases e2 with
    |normal=>exact (hout σ3 h').1
    |ret=>exact (hout σ3 h').2
    |panic x=>simp only[fin,hP] at h';cases h'
    |_=>simp only[fin] at h';cases h'
end run
end Go.Abs
namespace Go.Abs
inductive PR (α β:Type) where
 |ok (x:α)
 |pn (y:β)
def MT {α β γ:Type} (q:PR α β) (f:α→γ) (g:β→γ):γ:=match q with
 | .ok x=>f x
 | .pn y=>g y
theorem prc_ok {α β γ:Type} {x:α} {f:α→γ} {g:β→γ}:MT (.ok x) f g=f x:=rfl
theorem prc_pn {α β γ:Type} {y:β} {f:α→γ} {g:β→γ}:MT (.pn y) f g=g y:=rfl
theorem bind_prc {α β γ δ:Type} {q:PR α β} {f:α→Option γ} {g:β→Option γ} {h:γ→Option δ}:(MT q f g).bind h=MT q (fun x=>(f x).bind h) (fun y=>(g y).bind h):=by cases q<;>rfl
theorem map_prc {α β γ δ:Type} {q:PR α β} {f:α→Option γ} {g:β→Option γ} {h:γ→δ}:(MT q f g).map h=MT q (fun x=>(f x).map h) (fun y=>(g y).map h):=by cases q<;>rfl
abbrev RX:=List AV→List AObj→Option (wM×List AObj)
section entX1
variable {α β ρ:Type}
def entX1 (pos:List Loc) (os:OL β) (as:AL α) (sz:Nat) (en:ρ→wM×List AObj) (F:β→α→Option ρ):RX:=fun args H=>
 (TE args H pos []).bind fun ρ=>bif nodupB ρ&&(decide (os.need≤ρ.length)&&(decide (as.need≤ρ.length)&&decide (ρ.length≤sz))) then
   (mapO (Pz H) ρ).bind fun xs=>(os.dec ρ (Nu xs) H xs).bind fun b=>(as.dec ρ (Nu xs) H args).bind fun a=>(F b a).bind fun q=>
     some ((en q).1.ren (qu ρ H.length),vI ρ H (en q).2) else none
theorem Yt {P:Program} {T:Value→World→Array Value→(Ending→World→Prop)→Prop} (hT:L7 T) (hz: ∀ (φ φ':Nat→Value) (k k':Nat),T (φ k)=T (φ' k')) {pos:List Loc} {os:OL β} {as:AL α} {sz:Nat} {en:ρ→wM×List AObj} {F:β→α→Option ρ} (hsz: ∀q,sz≤(en q).2.length)
 {args:List AV} {σ:AState} {o:wM} {H':List AObj} (he:entX1 pos os as sz en F args σ.heap=some (o,H')):
 ∃b a q,F b a=some q∧(Xb P T (as.enc (os.lens b) a) (os.enc (os.lens b) b) (fun o H'=>o=(en q).1∧H'=(en q).2)→I8 P T 0 args σ (fun o' Du=>o'=o∧Du=H')):=by
 unfold entX1 at he
 simp only[gy] at he
 obtain ⟨ρ,hρ,he⟩:=he
 cases hc:(nodupB ρ&&(decide (os.need≤ρ.length)&&(decide (as.need≤ρ.length)&&decide (ρ.length≤sz)))) with
 |false=>simp [hc] at he
 |true=>
  simp only[hc,cond_true,gy,gz,gI] at he
  obtain ⟨xs,hxs,b,hb,a,ha,q,hq,rfl,rfl⟩:=he
  refine ⟨b,a,q,hq,fun hfn=> ?_⟩
  simp only[gD,decide_eq_true_eq] at hc
  obtain ⟨hnd,n1,n2,n3⟩:=hc
  obtain ⟨h1,h2⟩:=Jf hxs
  have Yi: ∀m,m≤ρ.length→Cov ρ m σ.heap.length:=by
   intro m hm k hk
   have hk':k<ρ.length:=by omega
   obtain ⟨x,hx,hx'⟩:=h2 k _ (gB hk')
   exact ⟨_,gB hk',(gA.1 hx').1⟩
  have hL:os.lens b=Nu xs:=funext fun k=>os.OA ρ _ _ _ _ hb k
  obtain ⟨h3,h4⟩:=os.ok ρ _ σ.heap σ.heap.length _ _ (Yi _ n1) hb
  have KD: ∀l,l<ρ.length→Nt ρ l=qu ρ σ.heap.length l:=fun l hl=>by unfold qu Nt;rw[if_pos hl]
  rw[←hL] at ha h4
  refine callXT hT hfn (Gs hnd) (by rw[h1,h3,os.sz]) (Nat.le_trans n3 (hsz q)) (fun φ=>hz _ _ _ _) ?_ ?_
  ·intro i k hi
   obtain ⟨x,hx,hx'⟩:=h2 i k hi
   have hlt:i<(os.enc (os.lens b) b).length:=by rw[os.sz,←h3,←h1];exact (gA.1 hi).1
   have hy:=gB hlt
   obtain ⟨x2,F7,hcc⟩:=h4 i _ hy
   rw[hx] at F7;cases F7
   refine ⟨x,_,hx',hy,?_⟩
   rw[←objRen_congr (n:=os.need) (fun l hl=>KD l (by omega)) _ (os.nb _ _ _ (gS hy))]
   exact hcc
  ·rw[←AH (n:=as.need) (fun l hl=>KD l (by omega)) _ (as.nb _ _)]
   exact as.ok ρ _ σ.heap _ _ _ (Yi _ n2) ha
end entX1
section entXP
variable {α β α1 β1 α2 β2:Type}
def pkO (pk:Bool) (x:AV):wM:=match pk with
 |true=> .panic x
 |false=> .ret x
theorem pkO_f {x:AV}:pkO true x= .panic x∧pkO false x= .ret x:=⟨rfl,rfl⟩
theorem pkO_ren {pk:Bool} {x:AV} {τ:Nat→Nat}:(pkO pk x).ren τ=pkO pk (x.ren τ):=by cases pk<;>rfl
def enP (pk:Bool) (At:OL β1) (EF:AL α1) (Hj:OL β2) (N9:AL α2) (q:PR (β1×α1) (β2×α2)):wM×List AObj:=
 MT q (fun r=>(.ret (vX (EF.enc (At.lens r.1) r.2)),At.enc (At.lens r.1) r.1)) (fun r=>(pkO pk (vX (N9.enc (Hj.lens r.1) r.2)),Hj.enc (Hj.lens r.1) r.1))
theorem enP_sz {pk:Bool} {At:OL β1} {EF:AL α1} {Hj:OL β2} {N9:AL α2} (q:PR (β1×α1) (β2×α2)):min At.size Hj.size≤(enP pk At EF Hj N9 q).2.length:=by
 cases q with
 |ok r=>simp only[enP,MT,At.sz];exact Nat.min_le_left _ _
 |pn r=>simp only[enP,MT,Hj.sz];exact Nat.min_le_right _ _
def entXP (pk:Bool) (pos:List Loc) (os:OL β) (as:AL α) (At:OL β1) (EF:AL α1) (Hj:OL β2) (N9:AL α2) (F:β→α→Option (PR (β1×α1) (β2×α2))):RX:=fun args H=>
 (TE args H pos []).bind fun ρ=>bif nodupB ρ&&(decide (os.need≤ρ.length)&&(decide (as.need≤ρ.length)&&(decide (ρ.length≤At.size)&&decide (ρ.length≤Hj.size)))) then
   (mapO (Pz H) ρ).bind fun xs=>(os.dec ρ (Nu xs) H xs).bind fun b=>(as.dec ρ (Nu xs) H args).bind fun a=>(F b a).bind fun q=>
     MT q (fun r=>some (.ret ((vX (EF.enc (At.lens r.1) r.2)).ren (qu ρ H.length)),vI ρ H (At.enc (At.lens r.1) r.1)))
      (fun r=>some (pkO pk ((vX (N9.enc (Hj.lens r.1) r.2)).ren (qu ρ H.length)),vI ρ H (Hj.enc (Hj.lens r.1) r.1))) else none
theorem entXP_eq {pk:Bool} {pos:List Loc} {os:OL β} {as:AL α} {At:OL β1} {EF:AL α1} {Hj:OL β2} {N9:AL α2} {F:β→α→Option (PR (β1×α1) (β2×α2))} {args:List AV} {H:List AObj}:
 entXP pk pos os as At EF Hj N9 F args H=entX1 pos os as (min At.size Hj.size) (enP pk At EF Hj N9) F args H:=by
 unfold entXP entX1
 congr 1
 funext ρ
 have:decide (ρ.length≤min At.size Hj.size)=(decide (ρ.length≤At.size)&&decide (ρ.length≤Hj.size)):=by
  rw[gN]
  simp only[decide_eq_true_eq,gD]
  exact Nat.le_min
 rw[this]
 congr 1
 congr 1
 funext xs
 congr 1
 funext b
 congr 1
 funext a
 congr 1
 funext q
 cases q with
 |ok r=>rfl
 |pn r=>simp only[MT,enP,pkO_ren]
def EntPOK (P:Program) (f:FuncId) (e:RX):Prop:= ∀args σ o H',e args σ.heap=some (o,H')→AZ P f args σ (fun o' Du=>o'=o∧Du=H')
def FnP (P:Program) (f:FuncId) (args:List AV) (H:List AObj) (x:wM×List AObj):Prop:=QF P f args H (fun o H'=>o=x.1∧H'=x.2)
theorem DC {P:Program} {f:FuncId} {pk:Bool} {pos:List Loc} {os:OL β} {as:AL α} {At:OL β1} {EF:AL α1} {Hj:OL β2} {N9:AL α2} {F:β→α→Option (PR (β1×α1) (β2×α2))}
 (h: ∀b a r,F b a=some r→FnP P f (as.enc (os.lens b) a) (os.enc (os.lens b) b) (enP pk At EF Hj N9 r)):EntPOK P f (entXP pk pos os as At EF Hj N9 F):=by
 intro args σ o H' he
 rw[entXP_eq] at he
 obtain ⟨b,a,q,hq,yC⟩:=Yt (P:=P) (T:=fun _ w vs R=>Calls P f vs w R) MK (fun _ _ _ _=>rfl) enP_sz he
 exact ⟨(h b a q hq).1,yC (h b a q hq).2⟩
theorem Nx: ∀ (ρ:List Nat) (xs H:List AObj),p4 H (ρ.zip xs)=tP H ρ xs
 |[],_,_=>by simp [p4,tP]
 |_::_,[],_=>by simp [p4,tP]
 |l::ρ,x::xs,H=>by
  simp only[List.zip_cons_cons,p4,tP]
  exact Nx ρ xs _
def Ny (pos:List Loc) (os:OL β) (as:AL α) (At:OL β1) (EF:AL α1) (Hj:OL β2) (N9:AL α2) (F:β→α→Option (PR (β1×α1) (β2×α2))):List AV→List AObj→Option CO:=fun args H=>
 (TE args H pos []).bind fun ρ=>bif nodupB ρ&&(decide (os.need≤ρ.length)&&(decide (as.need≤ρ.length)&&(decide (ρ.length≤At.size)&&decide (ρ.length≤Hj.size)))) then
   (mapO (Pz H) ρ).bind fun xs=>(os.dec ρ (Nu xs) H xs).bind fun b=>(as.dec ρ (Nu xs) H args).bind fun a=>(F b a).bind fun q=>
     MT q (fun r=>some (.ret {val:=(vX (EF.enc (At.lens r.1) r.2)).ren (qu ρ H.length),rd:=ρ,up:=ρ.zip ((At.enc (At.lens r.1) r.1).map (AObj.ren (qu ρ H.length))),nw:=((At.enc (At.lens r.1) r.1).drop ρ.length).map (AObj.ren (qu ρ H.length)),whole:=true}))
      (fun r=>some (.pan ((vX (N9.enc (Hj.lens r.1) r.2)).ren (qu ρ H.length)) (vI ρ H (Hj.enc (Hj.lens r.1) r.1)))) else none
def EntCOK (P:Program) (f:FuncId) (e:List AV→List AObj→Option CO):Prop:= ∀args (σ:AState),(∀ef,e args σ.heap=some (.ret ef)→Ek P f args σ ef)∧ ∀x H',e args σ.heap=some (.pan x H')→W4 P f args σ.heap x H'
theorem Yu {P:Program} {f:FuncId} {pos:List Loc} {os:OL β} {as:AL α} {At:OL β1} {EF:AL α1} {Hj:OL β2} {N9:AL α2} {F:β→α→Option (PR (β1×α1) (β2×α2))}
 (h: ∀b a r,F b a=some r→FnP P f (as.enc (os.lens b) a) (os.enc (os.lens b) b) (enP true At EF Hj N9 r)):EntCOK P f (Ny pos os as At EF Hj N9 F):=by
 have hP:=DC (pos:=pos) h
 intro args σ
 have key: ∀c,Ny pos os as At EF Hj N9 F args σ.heap=some c→ ∃ρ,(∀l∈ρ,l<σ.heap.length)∧((∃ef,c= .ret ef∧(ef.rd=ρ∧ef.whole=true∧ ∀l∈ef.up.map (·.1),l∈ρ)∧entXP true pos os as At EF Hj N9 F args σ.heap=some (.ret ef.val,p4 σ.heap ef.up++ef.nw))∨ ∃x H',c= .pan x H'∧entXP true pos os as At EF Hj N9 F args σ.heap=some (.panic x,H')):=by
  intro c he
  unfold Ny at he
  simp only[gy] at he
  obtain ⟨ρ,hρ,he⟩:=he
  cases hc:(nodupB ρ&&(decide (os.need≤ρ.length)&&(decide (as.need≤ρ.length)&&(decide (ρ.length≤At.size)&&decide (ρ.length≤Hj.size))))) with
  |false=>simp [hc] at he
  |true=>
   simp only[hc,cond_true,gy] at he
   obtain ⟨xs,hxs,b,hb,a,ha,q,hq,he⟩:=he
   refine ⟨ρ,fun l hl=> ?_,?_⟩
   ·obtain ⟨i,hi⟩:=gJ hl
    obtain ⟨x,_,hx'⟩:=(Jf hxs).2 i l hi
    exact (gA.1 hx').1
   ·have hbase:entXP true pos os as At EF Hj N9 F args σ.heap=MT q (fun r=>some (.ret ((vX (EF.enc (At.lens r.1) r.2)).ren (qu ρ σ.heap.length)),vI ρ σ.heap (At.enc (At.lens r.1) r.1)))
     (fun r=>some (.panic ((vX (N9.enc (Hj.lens r.1) r.2)).ren (qu ρ σ.heap.length)),vI ρ σ.heap (Hj.enc (Hj.lens r.1) r.1))):=by
     unfold entXP
     simp only[hρ,Option.bind_some,hc,cond_true,hxs,hb,ha,hq,pkO]
    cases q with
    |ok r=>
     simp only[MT,gz] at he
     subst he
     left
     refine ⟨_,rfl,⟨rfl,rfl,fun l hl=> ?_⟩,?_⟩
     ·simp only[gU] at hl
      obtain ⟨p,hp,rfl⟩:=hl
      exact (List.of_mem_zip hp).1
     ·rw[hbase]
      simp only[MT,Nx]
      rfl
    |pn r=>
     simp only[MT,gz] at he
     subst he
     right
     exact ⟨_,_,rfl,hbase⟩
 refine ⟨fun ef he=> ?_,fun x H' he=> ?_⟩
 ·obtain ⟨ρ,hlt,⟨ef',hc,⟨h1,h2,h3⟩,hx⟩|⟨_,_,hc,_⟩⟩:=key _ he
  ·simp only[CO.ret.injEq] at hc
   subst hc
   refine ⟨⟨by rw[h1];exact hlt,by rw[h1];exact h3⟩,fun σ' _ _ hw=> ?_⟩
   have hh:=hw h2
   have:=hP args σ' (.ret ef.val) (p4 σ.heap ef.up++ef.nw) (by rw[hh];exact hx)
   rw[hh]
   exact this
  ·cases hc
 ·obtain ⟨ρ,hlt,⟨ef',hc,_⟩|⟨x',H2,hc,hx⟩⟩:=key _ he
  ·cases hc
  ·simp only[CO.pan.injEq] at hc
   obtain ⟨rfl,rfl⟩:=hc
   intro σ' hh
   exact hP args σ' (.panic x) H' (by rw[hh];exact hx)
end entXP
def Kn:List (Nat×RX)→FuncId→RX
 |[],_,_,_=>none
 |(g,e)::t,f,args,H=>if f=g then e args H else Kn t f args H
theorem Di {P:Program}: ∀f args (σ:AState) o H',Kn [] f args σ.heap=some (o,H')→AZ P f args σ (fun o' Du=>o'=o∧Du=H'):=by
 intro f args σ r H' h;cases h
theorem zg {P:Program} {g:Nat} {e:RX} {t:List (Nat×RX)} (h1:EntPOK P g e) (h2: ∀f args (σ:AState) o H',Kn t f args σ.heap=some (o,H')→AZ P f args σ (fun o' Du=>o'=o∧Du=H')):
 ∀f args (σ:AState) o H',Kn ((g,e)::t) f args σ.heap=some (o,H')→AZ P f args σ (fun o' Du=>o'=o∧Du=H'):=by
 intro f args σ r H' h
 simp only[Kn] at h
 split at h
 ·rename_i hg;subst hg;exact h1 _ _ _ _ h
 ·exact h2 _ _ _ _ _ h
def OE:List (Nat×(List AV→List AObj→Option CO))→FuncId→List AV→List AObj→Option CO
 |[],_,_,_=>none
 |(g,e)::t,f,args,H=>if f=g then e args H else OE t f args H
theorem PF {P:Program}: ∀f args (σ:AState),(∀e,OE [] f args σ.heap=some (.ret e)→Ek P f args σ e)∧ ∀x H',OE [] f args σ.heap=some (.pan x H')→W4 P f args σ.heap x H':=by
 intro f args σ;exact ⟨fun e h=>(by cases h),fun x H' h=>(by cases h)⟩
theorem Nz {P:Program} {g:Nat} {e:List AV→List AObj→Option CO} {t:List (Nat×(List AV→List AObj→Option CO))} (h1:EntCOK P g e) (h2: ∀f args (σ:AState),(∀e,OE t f args σ.heap=some (.ret e)→Ek P f args σ e)∧ ∀x H',OE t f args σ.heap=some (.pan x H')→W4 P f args σ.heap x H'):
 ∀f args (σ:AState),(∀ef,OE ((g,e)::t) f args σ.heap=some (.ret ef)→Ek P f args σ ef)∧ ∀x H',OE ((g,e)::t) f args σ.heap=some (.pan x H')→W4 P f args σ.heap x H':=by
 intro f args σ
 simp only[OE]
 by_cases hg:f=g
 ·subst hg;simp only[if_true];exact h1 args σ
 ·simp only[if_neg hg];exact h2 f args σ
def isIn:List Nat→FuncId→Bool
 |[],_=>false
 |g::t,f=>f==g||isIn t f
abbrev Qg:=FuncId→List AV→List AObj→Option (wM×List AObj)
section unw
variable {R:Type}
noncomputable def LQ (cr cp:Qg) (en:Option AV→AState→Option R):List (FuncId×List AV)→Option AV→AState→Option R
 |[],m,σ=>en m σ
 |(f,args)::ds,none,σ=>(cr f args σ.heap).bind fun q=>match q with
  |(.ret _,H')=>LQ cr cp en ds none {σ with heap:=H',df:=ds}
  |(.panic _,_)=>none
 |(f,args)::ds,some x,σ=>(cp f (args++[x]) σ.heap).bind fun q=>match q with
  |(.ret _,H')=>LQ cr cp en ds none {σ with heap:=H',df:=ds}
  |(.panic x',H')=>LQ cr cp en ds (some x') {σ with heap:=H',df:=ds}
theorem Yv {cr cp:Qg} {en:Option AV→AState→Option R} {m:Option AV} {σ:AState}:LQ cr cp en [] m σ=en m σ:=by cases m<;>rfl
noncomputable def unwQ (cr cp:Qg) (en:Option AV→AState→Option R) (ds:List (FuncId×List AV)) (σ:AState):wM×List AObj→Option R
 |(.ret _,H')=>LQ cr cp en ds none {σ with heap:=H',df:=ds}
 |(.panic x',H')=>LQ cr cp en ds (some x') {σ with heap:=H',df:=ds}
noncomputable def unwR (cr cp:Qg) (en:Option AV→AState→Option R) (ds:List (FuncId×List AV)) (σ:AState):wM×List AObj→Option R
 |(.ret _,H')=>LQ cr cp en ds none {σ with heap:=H',df:=ds}
 |(.panic x',H')=>none
theorem unwX_ret {cr cp:Qg} {en:Option AV→AState→Option R} {f:FuncId} {args:List AV} {ds:List (FuncId×List AV)} {σ:AState}:LQ cr cp en ((f,args)::ds) none σ=(cr f args σ.heap).bind (unwR cr cp en ds σ):=by
 simp only[LQ];congr 1
theorem unwX_pan {cr cp:Qg} {en:Option AV→AState→Option R} {f:FuncId} {args:List AV} {ds:List (FuncId×List AV)} {x:AV} {σ:AState}:LQ cr cp en ((f,args)::ds) (some x) σ=(cp f (args++[x]) σ.heap).bind (unwQ cr cp en ds σ):=by
 simp only[LQ];congr 1
def QOK (P:Program) (T:FuncId→Value→World→Array Value→(Ending→World→Prop)→Prop) (c:Qg):Prop:= ∀f args (σ:AState) o H',c f args σ.heap=some (o,H')→enters P f=true∧I8 P (T f) 0 args σ (fun o' Du=>o'=o∧Du=H')
theorem I8.mono {P:Program} {T:Value→World→Array Value→(Ending→World→Prop)→Prop} (hT:L7 T) {l:Nat} {args:List AV} {σ:AState} {K K':wM→List AObj→Prop} (h:I8 P T l args σ K) (hk: ∀o H,K o H→K' o H):I8 P T l args σ K':=by
 intro C φ a w hP S vs hr
 refine hT.mono _ _ _ _ _ ?_ (h C φ a w hP S vs hr)
 rintro e w' ⟨o,φ',H',h1,h2⟩
 exact ⟨o,φ',H',hk _ _ h1,h2⟩
theorem NA {P:Program} {cr cp:Qg} {en:Option AV→AState→Option R} {fin:Option AV→AState→Prop} {r:R} (hr:QOK P (Xe P) cr) (hp:QOK P (Xf P) cp) (he: ∀m σ,σ.df=[]→en m σ=some r→fin m σ):
 ∀ (ds:List (FuncId×List AV)) (m:Option AV) (σ:AState),σ.df=ds→LQ cr cp en ds m σ=some r→Nq P fin ds m σ
 |[],m,σ,hd,h=>by rw[Yv] at h;exact he m σ hd h
 |(f,args)::ds,none,σ,hd,h=>by
  simp only[LQ,gy] at h
  obtain ⟨⟨o,H'⟩,hc,h⟩:=h
  obtain ⟨h1,h2⟩:=hr f args {σ with df:=ds} o H' hc
  refine ⟨h1,h2.mono UD ?_⟩
  rintro o' Du ⟨rfl,rfl⟩
  cases o' with
  |ret x=>exact NA hr hp he ds none _ rfl h
  |panic x=>cases h
 |(f,args)::ds,some x,σ,hd,h=>by
  simp only[LQ,gy] at h
  obtain ⟨⟨o,H'⟩,hc,h⟩:=h
  obtain ⟨h1,h2⟩:=hp f (args++[x]) {σ with df:=ds} o H' hc
  refine ⟨h1,h2.mono UE ?_⟩
  rintro o' Du ⟨rfl,rfl⟩
  cases o' with
  |ret x=>exact NA hr hp he ds none _ rfl h
  |panic x=>exact NA hr hp he ds (some x) _ rfl h
def LR:List (Nat×RX)→Qg
 |[],_,_,_=>none
 |(g,e)::t,f,args,H=>if f=g then e args H else LR t f args H
theorem PI {P:Program} {T:FuncId→Value→World→Array Value→(Ending→World→Prop)→Prop}:QOK P T (LR []):=by
 intro f args σ o H' h;cases h
theorem NB {P:Program} {T:FuncId→Value→World→Array Value→(Ending→World→Prop)→Prop} {g:Nat} {e:RX} {t:List (Nat×RX)} (h1: ∀args (σ:AState) o H',e args σ.heap=some (o,H')→enters P g=true∧I8 P (T g) 0 args σ (fun o' Du=>o'=o∧Du=H')) (h2:QOK P T (LR t)):QOK P T (LR ((g,e)::t)):=by
 intro f args σ o H' h
 simp only[LR] at h
 split at h
 ·rename_i hg;subst hg;exact h1 _ _ _ _ h
 ·exact h2 _ _ _ _ _ h
def Yw {α1 β1:Type} (At:OL β1) (EF:AL α1) (r:β1×α1):wM×List AObj:=(.ret (vX (EF.enc (At.lens r.1) r.2)),At.enc (At.lens r.1) r.1)
def Kf {α β α1 β1:Type} (pos:List Loc) (os:OL β) (as:AL α) (At:OL β1) (EF:AL α1) (F:β→α→Option (β1×α1)):RX:=entX1 pos os as At.size (Yw At EF) F
theorem Yx {α β α1 β1:Type} {P:Program} {T:Value→World→Array Value→(Ending→World→Prop)→Prop} {f:FuncId} (hT:L7 T) (hz: ∀ (φ φ':Nat→Value) (k k':Nat),T (φ k)=T (φ' k')) (hen:enters P f=true) {pos:List Loc} {os:OL β} {as:AL α} {At:OL β1} {EF:AL α1} {F:β→α→Option (β1×α1)}
 (h: ∀b a r,F b a=some r→Xb P T (as.enc (os.lens b) a) (os.enc (os.lens b) b) (fun o H'=>o=(Yw At EF r).1∧H'=(Yw At EF r).2)): ∀args (σ:AState) o H',Kf pos os as At EF F args σ.heap=some (o,H')→enters P f=true∧I8 P T 0 args σ (fun o' Du=>o'=o∧Du=H'):=by
 intro args σ o H' he
 obtain ⟨b,a,q,hq,yC⟩:=Yt (P:=P) (T:=T) hT hz (fun q=>by simp only[Yw,At.sz];exact Nat.le_refl _) he
 exact ⟨hen,yC (h b a q hq)⟩
end unw
section steps
variable {R:Type} {M:Mach R} {k:List Kt} {σ:AState} {α β:Type} {q:PR α β}
theorem stepP_prc {ops:Array Oper} {dst:Option Tmp} {rest:List Oper} {f:α→Option (wM×List AObj)} {g:β→Option (wM×List AObj)}:Gb M ops dst rest k σ (MT q f g)=MT q (fun x=>Gb M ops dst rest k σ (f x)) (fun y=>Gb M ops dst rest k σ (g y)):=by cases q<;>rfl
theorem stepDP_prc {p:List Nat} {dst:Option Tmp} {rest:List Oper} {j:Nat} {tr:List Tr} {f:α→Option CO} {g:β→Option CO}:EA M p dst rest j tr k σ (MT q f g)=MT q (fun x=>EA M p dst rest j tr k σ (f x)) (fun y=>EA M p dst rest j tr k σ (g y)):=by cases q<;>rfl
end steps
attribute [go_sem] pkO_f prc_ok prc_pn bind_prc map_prc stepP_prc stepDP_prc entXP Ny Kf entX1 Yw Kn OE LR isIn Yv unwX_ret unwX_pan unwQ unwR List.zip_cons_cons List.zip_nil_left wM.ren
section ends
variable {R:Type} {M:Mach R} {α β α1 β1 α2 β2:Type}
noncomputable def NC (P:Program) (rs:List ResultVar) (pos:List Loc) (base:List Nat) (low:Nat) (os:OL β1) (s:AL α1) (σ:AState):Option (PR (β1×α1) (β2×α2)):=(Cy P rs pos base low os s σ).map .ok
noncomputable def ND (pos:List Loc) (base:List Nat) (low:Nat) (os:OL β2) (s:AL α2) (x:AV) (σ:AState):Option (PR (β1×α1) (β2×α2)):=(outL [x] pos base low os s σ).map .pn
attribute [go_sem] NC ND
theorem tupOf_one {y:AV}:vX [y]=y:=rfl
theorem V1 {f:FuncId} {fn:Func} {args:List AV} {H:List AObj} {r:PR (β1×α1) (β2×α2)} {M:Mach (PR (β1×α1) (β2×α2))} {n:Nat} {rs:List ResultVar} {At:OL β1} {EF:AL α1} {Hj:OL β2} {N9:AL α2} {p1 p2:List Loc} {b1 b2:List Nat} {low:Nat} (G:Good M) (hf:M.P.funcs[f]? =some fn) (hb:fn.body=some M.body) (hne:(fn.name != "runtime.NumGoroutine")=true)
 (hnb:nbL H.length args) (Dz: ∀x∈H,objNb H.length x) (hn:fn.ntmps=n) (Om:fn.results=rs.toArray) (Wy:b1=gF low) (hb2:b2=gF low) (hone: ∀b a,∃y,N9.enc (Hj.lens b) a=[y])
 (ho:M.out=NC M.P rs p1 b1 low At EF) (hq:M.xT=ND p2 b2 low Hj N9)
 (h:run M [.at []] {slots:=args++gC (n-args.length) .any,heap:=H,low:=H.length}=some r):FnP M.P f args H (enP true At EF Hj N9 r):=by
 refine RF G hf hb hne hnb Dz hn Om (fun σ hs=> ?_) (fun x σ hs=> ?_) h
 ·rw[ho] at hs
  unfold NC at hs
  rw[gE] at hs
  obtain ⟨q,hq,rfl⟩:=hs
  obtain ⟨hd,xs,hx,himp⟩:=Bo Wy hq
  rw[hd]
  exact Je hx himp
 ·rw[hq] at hs
  unfold ND at hs
  rw[gE] at hs
  obtain ⟨q,hq,rfl⟩:=hs
  obtain ⟨hd,himp⟩:=QJ hb2 hq
  rw[hd]
  obtain ⟨y,hy⟩:=hone q.1 q.2
  rw[hy] at himp
  have:=gEnd_pan (P:=M.P) (rs:=rs) himp.e
  simp only[enP,MT,hy,tupOf_one,pkO]
  exact this
noncomputable def RY (P:Program) (rs:List ResultVar) (p1:List Loc) (base:List Nat) (low:Nat) (At:OL β1) (s1:AL α1) (p2:List Loc) (Hj:OL β2) (s2:AL α2) (σ:AState):Option (PR (β1×α1) (β2×α2)):=
 ((Cy P rs p1 base low At s1 σ).map .ok).or ((Cy P rs p2 base low Hj s2 σ).map .pn)
attribute [go_sem] RY
theorem fnS_run {f:FuncId} {fn:Func} {args:List AV} {H:List AObj} {r:PR (β1×α1) (β2×α2)} {M:Mach (PR (β1×α1) (β2×α2))} {n:Nat} {rs:List ResultVar} {At:OL β1} {EF:AL α1} {Hj:OL β2} {N9:AL α2} {p1 p2:List Loc} {b1:List Nat} {low:Nat} (G:Good M) (hf:M.P.funcs[f]? =some fn) (hb:fn.body=some M.body) (hne:(fn.name != "runtime.NumGoroutine")=true)
 (hnb:nbL H.length args) (Dz: ∀x∈H,objNb H.length x) (hn:fn.ntmps=n) (Om:fn.results=rs.toArray) (Wy:b1=gF low) (ho:M.out=RY M.P rs p1 b1 low At EF p2 Hj N9)
 (h:run M [.at []] {slots:=args++gC (n-args.length) .any,heap:=H,low:=H.length}=some r) (hP: ∀x σ',M.xT x σ'=none:=by intros;rfl):FnP M.P f args H (enP false At EF Hj N9 r):=by
 refine RF G hf hb hne hnb Dz hn Om (fun σ hs=> ?_) (fun x σ hs=>by rw[hP x σ] at hs;cases hs) h
 rw[ho] at hs
 unfold RY at hs
 rw[Option.or_eq_some_iff] at hs
 rcases hs with hs|⟨_,hs⟩
 ·rw[gE] at hs
  obtain ⟨q,hq,rfl⟩:=hs
  obtain ⟨hd,xs,hx,himp⟩:=Bo Wy hq
  rw[hd]
  exact Je hx himp
 ·rw[gE] at hs
  obtain ⟨q,hq,rfl⟩:=hs
  obtain ⟨hd,xs,hx,himp⟩:=Bo Wy hq
  rw[hd]
  exact Je hx himp
noncomputable def enC {ρ:Type} (P:Program) (rs:List ResultVar) (t:Ty ρ):Option AV→AState→Option ρ
 |none,σ=>pS P rs t σ
 |some _,_=>none
theorem enC_f {ρ:Type} {P:Program} {rs:List ResultVar} {t:Ty ρ} {σ:AState}:enC P rs t none σ=pS P rs t σ∧ ∀x,enC P rs t (some x) σ=none:=⟨rfl,fun _=>rfl⟩
noncomputable def outU {ρ:Type} (cr cp:Qg) (P:Program) (rs:List ResultVar) (t:Ty ρ) (σ:AState):Option ρ:=LQ cr cp (enC P rs t) σ.df none σ
noncomputable def outUP {ρ:Type} (cr cp:Qg) (P:Program) (rs:List ResultVar) (t:Ty ρ) (x:AV) (σ:AState):Option ρ:=LQ cr cp (enC P rs t) σ.df (some x) σ
attribute [go_sem] enC_f outU outUP
theorem fnC_runU {ρ:Type} {M:Mach ρ} {f:FuncId} {fn:Func} {args:List AV} {r:ρ} {n:Nat} {rs:List ResultVar} {t:Ty ρ} {cr cp:Qg} (G:Good M) (hcr:QOK M.P (Xe M.P) cr) (hcp:QOK M.P (Xf M.P) cp) (hf:M.P.funcs[f]? =some fn) (hb:fn.body=some M.body) (hne:(fn.name != "runtime.NumGoroutine")=true) (hnb:nbL 0 args)
 (hn:fn.ntmps=n) (Om:fn.results=rs.toArray) (ho:M.out=outU cr cp M.P rs t) (hq:M.xT=outUP cr cp M.P rs t)
 (h:run M [.at []] {slots:=args++gC (n-args.length) .any,heap:=[]}=some r):xY M.P f args (fun v=>v=t.enc r):=by
 have hend: ∀m σ,σ.df=[]→enC M.P rs t m σ=some r→cEnd M.P rs (fun v=>v=t.enc r) m σ:=by
  intro m σ _ he
  cases m with
  |none=>exact (oZ he).2
  |some x=>cases he
 refine VF hf hb hne hnb ?_
 rw[Om,hn]
 refine MN G h (fun σ hs=> ?_) (fun x σ hs=> ?_)
 ·rw[ho] at hs
  have:=NA hcr hcp hend σ.df none σ rfl hs
  exact ⟨this,this⟩
 ·rw[hq] at hs
  exact NA hcr hcp hend σ.df (some x) σ rfl hs
theorem Yy {M:Mach (β1×α1)} {f:FuncId} {fn:Func} {id:Nat} {ops:Array Oper} {y:Code} {o:Oper} {rest:List Oper} {args:List AV} {x:AV} {H:List AObj} {r:β1×α1} {n:Nat} {rs:List ResultVar} {At:OL β1} {EF:AL α1} {p1:List Loc} {b1:List Nat} {low:Nat} (G:Good M)
 (hf:M.P.funcs[f]? =some fn) (hb:fn.body=some M.body) (hbody:M.body= .seq (.region id ops false) y) (KM:ops.toList=o::rest) (Ih:isRec o=true) (PD:Lx rest=true)
 (hnb:nbL H.length (args++[x])) (Dz: ∀x∈H,objNb H.length x) (hn:fn.ntmps=n) (Om:fn.results=rs.toArray) (Wy:b1=gF low) (ho:M.out=Cy M.P rs p1 b1 low At EF)
 (h:run M [.ops ops rest,.cut [1],.at [1]] (AState.put {slots:=args++gC (n-args.length) .any,heap:=H,low:=H.length} o.dst x)=some r) (hP: ∀x σ',M.xT x σ'=none:=by intros;rfl):
 Xb M.P (Xf M.P f) (args++[x]) H (fun o H'=>o=(Yw At EF r).1∧H'=(Yw At EF r).2):=by
 refine Qe hf (by rw[hb,hbody]) KM Ih hnb Dz hn Om (rec_run G hbody PD (fun σ hs=> ?_) h hP)
 rw[ho] at hs
 obtain ⟨hd,xs,hx,himp⟩:=Bo Wy hs
 have:=Je hx himp
 exact ⟨⟨hd,this⟩,hd,this⟩
theorem Yz {M:Mach (β1×α1)} {f:FuncId} {fn:Func} {id:Nat} {ops:Array Oper} {y:Code} {o:Oper} {rest:List Oper} {args:List AV} {H:List AObj} {r:β1×α1} {n:Nat} {rs:List ResultVar} {At:OL β1} {EF:AL α1} {p1:List Loc} {b1:List Nat} {low:Nat} (G:Good M)
 (hf:M.P.funcs[f]? =some fn) (hb:fn.body=some M.body) (hbody:M.body= .seq (.region id ops false) y) (KM:ops.toList=o::rest) (Ih:isRec o=true) (PD:Lx rest=true)
 (hnb:nbL H.length args) (Dz: ∀x∈H,objNb H.length x) (hn:fn.ntmps=n) (Om:fn.results=rs.toArray) (Wy:b1=gF low) (ho:M.out=Cy M.P rs p1 b1 low At EF)
 (h:run M [.ops ops rest,.cut [1],.at [1]] (AState.put {slots:=args++gC (n-args.length) .any,heap:=H,low:=H.length} o.dst (.raw .nilIface))=some r) (hP: ∀x σ',M.xT x σ'=none:=by intros;rfl):
 Xb M.P (Xe M.P f) args H (fun o H'=>o=(Yw At EF r).1∧H'=(Yw At EF r).2):=by
 refine Qf hf (by rw[hb,hbody]) KM Ih hnb Dz hn Om (rec_run G hbody PD (fun σ hs=> ?_) h hP)
 rw[ho] at hs
 obtain ⟨hd,xs,hx,himp⟩:=Bo Wy hs
 have:=Je hx himp
 exact ⟨⟨hd,this⟩,hd,this⟩
end ends
def dIf {α:Type} (t:TypeId) (a:Ty α):AV→Option α
 | .iface t' v=>if t'=t then a.dec [] v else none
 |_=>none
theorem sub_iface {t:TypeId} {x y:AV} (h:Sub x y):Sub (.iface t x) (.iface t y):=by
 rintro E v ⟨u,hu,r⟩
 exact ⟨u,hu,h _ _ r⟩
def Fq {α:Type} (t:TypeId) (a:Ty α):Ty α where
 enc x:= .iface t (a.enc x)
 dec _:=dIf t a
 ok H n v x h:=by
  unfold dIf at h
  split at h
  ·split at h
   ·rename_i ht
    subst ht
    exact Co.sub (sub_iface (a.ok [] n _ _ h).toSub) (a.nb n x)
   ·cases h
  ·cases h
 nb n x:=a.nb n x
theorem tyIf_f {α:Type} {t:TypeId} {a:Ty α}:(∀x,(Fq t a).enc x= .iface t (a.enc x))∧(∀H v,(Fq t a).dec H v=dIf t a v)∧ ∀v,dIf t a (.iface t v)=a.dec [] v:=⟨fun _=>rfl,fun _ _=>rfl,fun _=>by simp [dIf]⟩
def dE0:AV→Option Unit
 | .agg []=>some ()
 |_=>none
def Ft:Ty Unit where
 enc _:= .agg []
 dec _:=dE0
 ok H n v x h:=by
  unfold dE0 at h
  split at h
  ·exact Co.same trivial
  ·cases h
 nb n x:=trivial
theorem tyE0_f:(∀x,Ft.enc x= .agg [])∧(∀H v,Ft.dec H v=dE0 v)∧dE0 (.agg [])=some ():=⟨fun _=>rfl,fun _ _=>rfl,rfl⟩
attribute [go_sem] tyIf_f tyE0_f
end Go.Abs
namespace Go.Abs
def mcT {α:Type} (t:Ty α) (p:Str×α):AV×AV:=(.str (sb p.1),t.enc p.2)
section
variable {α:Type} {t:Ty α}
theorem KN: ∀xs:List (Str×α),FP (xs.map (mcT t))=true
 |[]=>rfl
 |_::xs=>KN xs
theorem NF (s:Str): ∀xs:List (Str×α),xZ (sb s) (xs.map (mcT t))=(sE s xs).map t.enc
 |[]=>rfl
 |(k,v)::xs=>by
  show (bif sb s==sb k then some (t.enc v) else xZ (sb s) (xs.map (mcT t)))=_
  rw[VW,NF s xs]
  simp only[sE]
  cases s==k<;>rfl
theorem PJ (s:Str) (v:α): ∀xs:List (Str×α),Eu (sb s) (t.enc v) (xs.map (mcT t))=(z8 s v xs).map (mcT t)
 |[]=>rfl
 |(k,u)::xs=>by
  show (bif sb s==sb k then (AV.str (sb k),t.enc v)::xs.map (mcT t) else (AV.str (sb k),t.enc u)::Eu (sb s) (t.enc v) (xs.map (mcT t)))=_
  rw[VW,PJ s v xs]
  simp only[z8]
  cases s==k<;>rfl
def PK {γ:Type} (o:Option α) (a:γ) (f:α→γ):γ:=match o with
 |none=>a
 |some x=>f x
theorem oel_none {γ:Type} {a:γ} {f:α→γ}:PK none a f=a:=rfl
theorem oel_some {γ:Type} {x:α} {a:γ} {f:α→γ}:PK (some x) a f=f x:=rfl
theorem lookOk_T {z:AV} {l:Nat} {s:Str} {xs:List (Str×α)}:Ob z l (sb s) (some (.map (mp (mcT t) xs)))=PK (sE s xs) (some {val:= .tup [z,.bool false],rd:=[l]}) (fun x=>some {val:= .tup [t.enc x,.bool true],rd:=[l]}):=by
 rw[uq]
 simp only[Ob,KN,if_true,NF]
 cases sE s xs<;>rfl
theorem V2 {l:Nat} {s:Str} {v:α} {xs:List (Str×α)}:mapUpEff l (sb s) (t.enc v) (some (.map (mp (mcT t) xs)))=some {val:= .any,rd:=[l],up:=[(l,.map (mp (mcT t) (z8 s v xs)))]}:=by
 rw[uq,uq]
 simp only[mapUpEff,KN,if_true,PJ]
theorem NG (n:Nat) (xs:List (Str×α)):objNb n (.map (mp (mcT t) xs))=True:=by
 refine eq_true fun p hp=> ?_
 rw[uq,gU] at hp
 obtain ⟨q,_,rfl⟩:=hp
 exact ⟨trivial,t.nb n q.2⟩
theorem mapNbF_T (n:Nat) (xs:List (Str×α)):(∀p:AV×AV,p∈mp (mcT t) xs→AV.nb n p.1∧AV.nb n p.2)=True:=NG n xs
theorem YA (ρ:Nat→Nat) (xs:List (Str×α)):(mp (mcT t) xs).map (fun p=>(AV.ren ρ p.1,AV.ren ρ p.2))=mp (mcT t) xs:=by
 rw[uq,gV]
 refine gM fun q _=> ?_
 show (AV.ren ρ (.str (sb q.1)),AV.ren ρ (t.enc q.2))=(.str (sb q.1),t.enc q.2)
 rw[Ey ρ _ (t.nb 0 q.2)];rfl
theorem YB (τ:Nat→Nat) (xs:List (Str×α)):(AObj.map (mp (mcT t) xs)).ren τ= .map (mp (mcT t) xs):=by
 show AObj.map ((mp (mcT t) xs).map _)=_
 congr 1
 exact YA τ xs
noncomputable def MU (t:Ty α) (x:AObj):Option (List (Str×α)):= @dite _ (∃xs,x= .map (mp (mcT t) xs)) (Classical.propDecidable _) (fun h=>some h.choose) (fun _=>none)
theorem V3 {x:AObj} {xs:List (Str×α)} (h:MU t x=some xs):x= .map (mp (mcT t) xs):=by
 unfold MU at h
 split at h
 ·rename_i hh
  simp only[gz] at h
  subst h
  exact hh.choose_spec
 ·cases h
end
theorem mapUp_nilB {α:Type} {t:Ty α} {l:Nat} {s:Str} {v:α}:mapUpEff l (sb s) (t.enc v) (some (.map (mp mcB [])))=some {val:= .any,rd:=[l],up:=[(l,.map (mp (mcT t) [(s,v)]))]}:=by
 have:=V2 (t:=t) (l:=l) (s:=s) (v:=v) (xs:=[])
 rw[uq] at this ⊢
 exact this
section inj
variable {α:Type} {t:Ty α} (hinj: ∀x y,t.enc x=t.enc y→x=y)
include hinj
theorem mcT_inj: ∀xs ys:List (Str×α),xs.map (mcT t)=ys.map (mcT t)→xs=ys
 |[],[],_=>rfl
 |[],_::_,h=>by simp at h
 |_::_,[],h=>by simp at h
 |(s,x)::xs,(s',y)::ys,h=>by
  simp only[List.map_cons,List.cons.injEq] at h
  obtain ⟨h1,h2⟩:=h
  simp only[mcT,gI,AV.str.injEq] at h1
  have e1:s=s':=by
   have:=congrArg ByteArray.toList h1.1
   rwa [EE,EE] at this
  rw[e1,hinj _ _ h1.2,mcT_inj xs ys h2]
theorem V4 (xs:List (Str×α)):MU t (.map (mp (mcT t) xs))=some xs:=by
 have hh: ∃ys,(AObj.map (mp (mcT t) xs))= .map (mp (mcT t) ys):=⟨xs,rfl⟩
 unfold MU
 rw[dif_pos hh]
 have e:AObj.map (mp (mcT t) xs)=AObj.map (mp (mcT t) hh.choose):=hh.choose_spec
 have e2:mp (mcT t) xs=mp (mcT t) hh.choose:=AObj.map.inj e
 have e3:xs.map (mcT t)=hh.choose.map (mcT t):=by rw[←uq,←uq];exact e2
 exact congrArg some (mcT_inj hinj _ _ e3).symm
theorem ddMT_nilB:MU t (.map (mp mcB []))=some []:=by
 have:=V4 hinj []
 rw[uq] at this ⊢
 exact this
theorem ddMT_all:(∀xs,MU t (.map (mp (mcT t) xs))=some xs)∧MU t (.map [])=some []∧MU t (.map (mp mcB []))=some []:=by
 refine ⟨V4 hinj,?_,ddMT_nilB hinj⟩
 have:=V4 hinj []
 rwa [uq] at this
end inj
section og
variable {α:Type}
noncomputable def wI (t:Ty α):OG (List (Str×α)) where
 enc _ xs:= .map (mp (mcT t) xs)
 dec _ _ _:=MU t
 len _:=0
 need:=0
 nb L g:=of_eq_true (NG 0 g)
 ok ρ L H n x g _ h:=by
  rw[V3 h]
  rw[YB]
  exact .inr (.inl ⟨rfl,of_eq_true (NG n g)⟩)
 RR ρ L H x g h:=by
  rw[V3 h];rfl
theorem ogMT_f {t:Ty α}:(∀L g,(wI t).enc L g= .map (mp (mcT t) g))∧(∀ρ L H x,(wI t).dec ρ L H x=MU t x)∧(∀g,(wI t).len g=0)∧(wI t).need=0:=⟨fun _ _=>rfl,fun _ _ _ _=>rfl,fun _=>rfl,rfl⟩
noncomputable def oM (t:Ty α):ZO:=⟨fun _ _ x=>(MU t x).bind fun xs=>some (.map (mp (mcT t) xs)),fun H n x y h=>by
 simp only[gy,gz] at h
 obtain ⟨xs,hx,rfl⟩:=h
 rw[V3 hx]
 exact .inr (.inl ⟨rfl,of_eq_true (NG n xs)⟩)⟩
theorem oM_f {t:Ty α} {H:List AObj} {n:Nat} {x:AObj}:(oM t).f H n x=(MU t x).bind fun xs=>some (.map (mp (mcT t) xs)):=rfl
end og
theorem entXO_ok {α β α1 β1:Type} {P:Program} {f:FuncId} {pos:List Loc} {os:OL β} {as:AL α} {At:OL β1} {EF:AL α1} {F:β→α→Option (β1×α1)}
 (h: ∀b a r,F b a=some r→QF P f (as.enc (os.lens b) a) (os.enc (os.lens b) b) (fun o H'=>o= .ret (vX (EF.enc (At.lens r.1) r.2))∧H'=At.enc (At.lens r.1) r.1)):
 EntCOK P f (Ny pos os as At EF At EF (fun b a=>(F b a).map fun r=>(PR.ok r:PR (β1×α1) (β1×α1)))):=by
 refine Yu (fun b a r hr=> ?_)
 rw[gE] at hr
 obtain ⟨r',hr,rfl⟩:=hr
 exact h b a r' hr
noncomputable def dalK {δ:Type} (v:AV) (s:AL δ) (ρ:List Nat) (L:Bx) (H:List AObj):List AV→Option δ
 |x::xs=>pcond (x=v) (s.dec ρ L H xs)
 |_=>none
noncomputable def alK {δ:Type} (v:AV) (hv:v.nb 0) (s:AL δ):AL δ where
 enc L g:=v::s.enc L g
 dec:=dalK v s
 need:=s.need
 nb L g:=⟨AV.Pf (Nat.zero_le _) v hv,s.nb L g⟩
 ok ρ L H n vs g hc h:=by
  unfold dalK at h
  split at h
  ·rw[pU] at h
   obtain ⟨rfl,h⟩:=h
   refine AE.cons ?_ (s.ok ρ L H n _ _ hc h)
   rw[Ey _ _ hv]
   exact Co.same (AV.Pf (Nat.zero_le _) _ hv)
  ·cases h
theorem alK_f {δ:Type} {v:AV} {hv:v.nb 0} {s:AL δ}:(∀L g,(alK v hv s).enc L g=v::s.enc L g)∧(∀ρ L H xs,(alK v hv s).dec ρ L H xs=dalK v s ρ L H xs)∧(alK v hv s).need=s.need:=⟨fun _ _=>rfl,fun _ _ _ _=>rfl,rfl⟩
attribute [go_sem] alK_f dalK
section steps
variable {R:Type} {M:Mach R} {k:List Kt} {σ:AState} {α:Type} {o:Option α}
theorem stepE_oel {ops:Array Oper} {dst:Option Tmp} {rest:List Oper} {a:Option wL} {f:α→Option wL}:sJ M ops dst rest k σ (PK o a f)=PK o (sJ M ops dst rest k σ a) (fun x=>sJ M ops dst rest k σ (f x)):=by cases o<;>rfl
theorem stepDE_oel {p:List Nat} {dst:Option Tmp} {rest:List Oper} {j:Nat} {tr:List Tr} {a:Option wL} {f:α→Option wL}:wO M p dst rest j tr k σ (PK o a f)=PK o (wO M p dst rest j tr k σ a) (fun x=>wO M p dst rest j tr k σ (f x)):=by cases o<;>rfl
theorem bind_oel {γ δ:Type} {a:Option γ} {f:α→Option γ} {h:γ→Option δ}:(PK o a f).bind h=PK o (a.bind h) (fun x=>(f x).bind h):=by cases o<;>rfl
theorem map_oel {γ δ:Type} {a:Option γ} {f:α→Option γ} {h:γ→δ}:(PK o a f).map h=PK o (a.map h) (fun x=>(f x).map h):=by cases o<;>rfl
end steps
attribute [go_sem] oM_f oel_none oel_some lookOk_T ogMT_f YB stepE_oel stepDE_oel bind_oel map_oel Vj
attribute [go_sem high] NG YA mapNbF_T
def recB (d:Nat):Code→Bool
 | .seq (.region _ ops false) _=>match ops.toList with
   |o::rest=>isRec o&&(o.dst==some d)&&Lx rest
   |[]=>false
 |_=>false
theorem UQ {d:Nat} {c:Code} (h:recB d c=true): ∃id ops y o rest,c= .seq (.region id ops false) y∧ops.toList=o::rest∧isRec o=true∧o.dst=some d∧Lx rest=true:=by
 unfold recB at h
 split at h
 ·rename_i id ops y
  split at h
  ·rename_i o rest ho
   simp only[gD,beq_iff_eq] at h
   exact ⟨id,ops,y,o,rest,rfl,ho,h.1.1,h.1.2,h.2⟩
  ·cases h
 ·cases h
section recrun
variable {α1 β1:Type}
theorem V5 {M:Mach (β1×α1)} {f:FuncId} {fn:Func} {d:Nat} {args:List AV} {x:AV} {H:List AObj} {r:β1×α1} {n:Nat} {rs:List ResultVar} {At:OL β1} {EF:AL α1} {p1:List Loc} {b1:List Nat} {low:Nat} (G:Good M)
 (hf:M.P.funcs[f]? =some fn) (hb:fn.body=some M.body) (Ih:recB d M.body=true)
 (hnb:nbL H.length (args++[x])) (Dz: ∀x∈H,objNb H.length x) (hn:fn.ntmps=n) (Om:fn.results=rs.toArray) (Wy:b1=gF low) (ho:M.out=Cy M.P rs p1 b1 low At EF)
 (h:run M [.ops (tM M [0]) ((tM M [0]).toList.drop 1),.cut [1],.at [1]] (AState.put {slots:=args++gC (n-args.length) .any,heap:=H,low:=H.length} (some d) x)=some r) (hP: ∀x σ',M.xT x σ'=none:=by intros;rfl):
 Xb M.P (Xf M.P f) (args++[x]) H (fun o H'=>o=(Yw At EF r).1∧H'=(Yw At EF r).2):=by
 obtain ⟨id,ops,y,o,rest,hbody,KM,h1,h2,h3⟩:=UQ Ih
 have e:tM M [0]=ops:=by unfold tM;rw[hbody];rfl
 rw[e,KM,List.drop_one,List.tail_cons,←h2] at h
 exact Yy G hf hb hbody KM h1 h3 hnb Dz hn Om Wy ho h hP
theorem V6 {M:Mach (β1×α1)} {f:FuncId} {fn:Func} {d:Nat} {args:List AV} {H:List AObj} {r:β1×α1} {n:Nat} {rs:List ResultVar} {At:OL β1} {EF:AL α1} {p1:List Loc} {b1:List Nat} {low:Nat} (G:Good M)
 (hf:M.P.funcs[f]? =some fn) (hb:fn.body=some M.body) (Ih:recB d M.body=true)
 (hnb:nbL H.length args) (Dz: ∀x∈H,objNb H.length x) (hn:fn.ntmps=n) (Om:fn.results=rs.toArray) (Wy:b1=gF low) (ho:M.out=Cy M.P rs p1 b1 low At EF)
 (h:run M [.ops (tM M [0]) ((tM M [0]).toList.drop 1),.cut [1],.at [1]] (AState.put {slots:=args++gC (n-args.length) .any,heap:=H,low:=H.length} (some d) (.raw .nilIface))=some r) (hP: ∀x σ',M.xT x σ'=none:=by intros;rfl):
 Xb M.P (Xe M.P f) args H (fun o H'=>o=(Yw At EF r).1∧H'=(Yw At EF r).2):=by
 obtain ⟨id,ops,y,o,rest,hbody,KM,h1,h2,h3⟩:=UQ Ih
 have e:tM M [0]=ops:=by unfold tM;rw[hbody];rfl
 rw[e,KM,List.drop_one,List.tail_cons,←h2] at h
 exact Yz G hf hb hbody KM h1 h3 hnb Dz hn Om Wy ho h hP
end recrun
end Go.Abs
namespace Go.Abs
section
variable {C:Ctx} {φ:Nat→Value} {σ:AState} {a:Act} {w:World}
variable {α γ:Type}
noncomputable def outM (P:Program) (rs:List ResultVar) (j:Nat) (r:Row γ) (s:Cx (List γ×Unit) α) (σ:AState):Option ((List γ×Unit)×α):=
 bif σ.df.isEmpty then (zO P σ rs).bind fun xs=>outM1 (Jb j r.sz false ⟨xs,σ.heap,0,[]⟩) j r s σ.low else none
where
 outM1 (τ:AState) (j:Nat) (r:Row γ) (s:Cx (List γ×Unit) α) (low:Nat):Option ((List γ×Unit)×α):=
  match τ.slots[j]? with
  |some (.acc l _)=>match τ.heap[l]? with
   |some y=>pcond (low=0∧objNb 0 y∧nbL 1 (renL (outX 0 l) τ.slots)) (((RD (P8 false r) Ov).dec [y] [y]).bind fun b=>(s.dec b [y] (renL (outX 0 l) τ.slots)).bind fun a=>bif decide (s.need≤1) then some (b,a) else none)
   |none=>none
  |_=>none
theorem V7 {P:Program} {rs:List ResultVar} {j:Nat} {r:Row γ} {s:Cx (List γ×Unit) α} {σ:AState} {q:(List γ×Unit)×α} (h:outM P rs j r s σ=some q):
 σ.df=[]∧ ∃xs,zO P σ rs=some xs∧Ow ⟨xs,σ.heap,σ.low,[]⟩ ⟨s.enc q.1 q.2,(RD (P8 false r) Ov).enc q.1,σ.low,[]⟩:=by
 unfold outM at h
 cases hd0:σ.df with
 |cons p q=>rw[hd0] at h;cases h
 |nil=>
 rw[hd0] at h
 simp only[List.isEmpty_nil,cond_true] at h
 simp only[gy] at h
 obtain ⟨xs,hx,h⟩:=h
 refine ⟨rfl,xs,hx,?_⟩
 unfold outM.outM1 at h
 split at h
 case h_2=>cases h
 rename_i l m hs
 split at h
 case h_2=>cases h
 rename_i y hl
 rw[pU] at h
 obtain ⟨⟨Dt,h1,h2⟩,h⟩:=h
 simp only[gy] at h
 obtain ⟨b,hb,a,ha,h⟩:=h
 cases hd:decide (s.need≤1) with
 |false=>simp [hd] at h
 |true=>
  simp only[hd,cond_true,gz] at h
  subst h
  rw[Dt]
  have i1:FN ⟨xs,σ.heap,0,[]⟩ (Jb j r.sz false ⟨xs,σ.heap,0,[]⟩):=XO
  have hlow0:(Jb j r.sz false ⟨xs,σ.heap,0,[]⟩).low=0:=by unfold Jb;split<;>rfl
  have hdf0:(Jb j r.sz false ⟨xs,σ.heap,0,[]⟩).df=[]:=by unfold Jb;split<;>rfl
  generalize hτ:Jb j r.sz false ⟨xs,σ.heap,0,[]⟩=τ at*
  have i2:Ow ⟨τ.slots,τ.heap,0,[]⟩ ⟨renL (outX 0 l) τ.slots,τ.heap.take 0++[y],0,[]⟩:=RI hl (Nat.zero_le _) (by simp) h1 h2
  have e:τ=⟨τ.slots,τ.heap,0,[]⟩:=by cases τ;simp only at hlow0 hdf0;subst hlow0 hdf0;rfl
  rw[e] at i1
  refine (i1.e.trans i2).trans ?_
  simp only[List.take_zero,List.nil_append]
  obtain ⟨h5,h6⟩:=(RD (P8 false r) Ov).ok [y] 1 _ _ hb
  refine FN.e (S6.imp (σ:=⟨renL (outX 0 l) τ.slots,[y],0,[]⟩) (σ':=⟨s.enc b a,(RD (P8 false r) Ov).enc b,0,[]⟩) ⟨⟨⟨rfl,Nat.zero_le _⟩,rfl,Nd⟩,?_,?_⟩)
  ·show AE [y] ((RD (P8 false r) Ov).enc b).length _ _
   rw[h6]
   exact s.ok b [y] 1 _ a (of_decide_eq_true hd) ha
  ·show Lr [y] ((RD (P8 false r) Ov).enc b).length [y] _
   rw[h6]
   exact h5
end
section open_
variable {R:Type} {M:Mach R} {k:List Kt} {σ:AState}
theorem stepDE_any {p:List Nat} {dst:Option Tmp} {rest:List Oper} {j:Nat} {tr:List Tr} {x:AV} {rd:List Nat} {up:List (Nat×AObj)} {nw:List AObj} {pr:Prop}:
 wO M p dst rest j tr k σ (some {val:=x,rd,up,nw,pre:=pr,whole:=true})=pcond pr (pcond (HF M p tr j {val:=x,rd,up,nw,pre:=pr,whole:=true}) (run M (.GF p rest (j+1) (CY tr j σ.heap.length {val:=x,rd,up,nw,pre:=pr,whole:=true})::k) {σ.put dst x with heap:=p4 σ.heap up++nw})):=by
 rw[←I6];rfl
def restE (M:Mach R) (p:List Nat) (c:Nat) (o:Oper) (rest:List Oper) (j:Nat) (σ:AState):Option wL→Prop
 |some e=>(e.pre∧e.up=[]∧e.nw=[])∧KH M p c rest (j+1) (σ.put o.dst e.val)
 |none=>False
def YC (M:Mach R) (p:List Nat) (c:Nat) (o:Oper) (rest:List Oper) (j:Nat) (σ:AState):Option (FuncId×List AV)→Prop
 |some _=>False
 |none=>restE M p c o rest j σ (FW M.P σ o.op)
def restW (M:Mach R) (p:List Nat) (c:Nat) (o:Oper) (rest:List Oper) (j:Nat) (σ:AState):Option Bool→Prop
 |none=>False
 |some false=>KH M p c rest (j+1) (σ.put o.dst (.raw undef))
 |some true=>YC M p c o rest j σ (qn σ o.op)
theorem restE_some {p:List Nat} {c:Nat} {o:Oper} {rest:List Oper} {j:Nat} {e:wL}:restE M p c o rest j σ (some e)=((e.pre∧e.up=[]∧e.nw=[])∧KH M p c rest (j+1) (σ.put o.dst e.val)):=rfl
theorem restC_none {p:List Nat} {c:Nat} {o:Oper} {rest:List Oper} {j:Nat}:YC M p c o rest j σ none=restE M p c o rest j σ (FW M.P σ o.op):=rfl
theorem restW_true {p:List Nat} {c:Nat} {o:Oper} {rest:List Oper} {j:Nat}:restW M p c o rest j σ (some true)=YC M p c o rest j σ (qn σ o.op):=rfl
theorem YD {p:List Nat} {c:Nat} {o:Oper} {rest:List Oper} {j:Nat}:restW M p c o rest j σ (some false)=KH M p c rest (j+1) (σ.put o.dst (.raw undef)):=rfl
theorem restP_next {p:List Nat} {c j:Nat} {o:Oper} {rest:List Oper} (h:XB M p c j=false):KH M p c (o::rest) j σ=restW M p c o rest j σ (sH (tM M p) o σ):=by
 unfold XB at h
 show HC M.P (tM M p) c (o::rest) j σ=_
 simp only[HC,h]
 cases hw:sH (tM M p) o σ with
 |none=>rfl
 |some b=>
  cases b with
  |false=>rfl
  |true=>
   simp only[restW]
   cases hc:qn σ o.op with
   |some q=>simp [YC]
   |none=>
    simp only[true_and,YC,←sK]
    cases n6 M.P σ o.op with
    |none=>rfl
    |some e=>rfl
end open_
attribute [go_sem] stepDE_any restE_some restC_none restW_true YD restP_next Z3
attribute [go_sem] outM outM.outM1
end Go.Abs
namespace Go.Abs
section
variable {P:Program} {f:FuncId} {α:Type}
theorem raw0_rep {E:Env} {r:Row α} {ys:List AV} {vs:List Value} (h:nj E ((tyL r).enc []::ys) vs): ∃base c,nj E (.raw (.slice base 0 c)::ys) vs:=by
 obtain ⟨u,us,e,⟨base,cap,hu,_⟩,h2⟩:=h
 have hl:(mp r.enc ([]:List α)).length=0:=EB _ _
 rw[hl] at hu
 exact ⟨base,cap,u,us,e,hu,h2⟩
theorem fnG_raw0 {r:Row α} {ys:List AV} {V:wM→List AObj→Prop} (h: ∀base c,QF P f (.raw (.slice base 0 c)::ys) [] V):QF P f ((tyL r).enc []::ys) [] V:=by
 obtain ⟨h1,h2,h2',h3⟩:=h none 0
 refine ⟨h1,⟨(tyL r).nb 0 _,h2.2⟩,h2',fun C φ w a b c d e e2 vs hv=> ?_⟩
 obtain ⟨base,cap,hr⟩:=raw0_rep hv
 exact (h base cap).2.2.2 C φ w a b c d e e2 vs hr
theorem mp_isEmpty_cons {f:α→List AV} {x:α} {xs:List α}:(mp f (x::xs)).isEmpty=false:=by rw[Rw];rfl
theorem cellsOf_nil:cellsOf (.agg [])=some []:=rfl
theorem splice_nil:splice [] 0 []=[]:=rfl
theorem av_ne:(∀l o v,(AV.ptr l o=AV.raw v)=False)∧(∀l o v,(AV.raw v=AV.ptr l o)=False)∧((AV.bool true=AV.bool false)=False)∧((AV.bool false=AV.bool true)=False):=by simp
theorem PL {b:Bool}:(AV.bool b).nb 0:=trivial
theorem nbK_r {v:Value}:(AV.raw v).nb 0:=trivial
end
attribute [go_sem] mp_isEmpty_cons List.isEmpty_nil cellsOf_nil splice_nil av_ne
end Go.Abs
namespace Go.Abs
noncomputable def YE {R:Type} (P:Program) (f:Func) (n:Nat) (out:AState→Option R) (cl:FuncId→List AV→List AObj→Option (AV×List AObj):=oJ []) (cd:FuncId→List AV→Option AV:=oN [])
 (qR:List Nat→AState→Option AState:=oO []) (cut:List Nat→AState→Option AState:=oP []) (q6:FuncId→Bool:=nJ []) (cp:FuncId→List AV→List AObj→Option (wM×List AObj):=fun _ _ _=>none)
 (xT:AV→AState→Option R:=fun _ _=>none) (B1:FuncId→Bool:=fun _=>false) (co:FuncId→List AV→List AObj→Option CO:=fun _ _ _=>none) (B0:FuncId→Bool:=fun _=>false)
 (ce:FuncId→List AV→List AObj→Option wL:=fun _ _ _=>none) (js:List Nat→List (Int×Code):=fun _=>[]) (cy:Nat→List AV→List AObj→Option (AV×List AObj):=fun _ _ _=>none):Mach R:=
 {P:=P,body:=f.body.getD .skip,cl:=cl,cd:=cd,qR:=qR,cut:=cut,n:=n,out:=out,q6:=q6,cp:=cp,xT:=xT,B1:=B1,co:=co,B0:=B0,ce:=ce,js:=js,cy:=cy}
section
variable {R:Type} {P:Program} {f:Func} {n:Nat} {out:AState→Option R} {cl:FuncId→List AV→List AObj→Option (AV×List AObj)} {cd:FuncId→List AV→Option AV} {qR:List Nat→AState→Option AState} {cut:List Nat→AState→Option AState} {q6:FuncId→Bool} {cp:FuncId→List AV→List AObj→Option (wM×List AObj)}
 {xT:AV→AState→Option R} {B1:FuncId→Bool} {co:FuncId→List AV→List AObj→Option CO} {B0:FuncId→Bool} {ce:FuncId→List AV→List AObj→Option wL} {js:List Nat→List (Int×Code)} {cy:Nat→List AV→List AObj→Option (AV×List AObj)}
theorem mkA_f:(YE P f n out cl cd qR cut q6 cp xT B1 co B0 ce js cy).P=P∧(YE P f n out cl cd qR cut q6 cp xT B1 co B0 ce js cy).body=f.body.getD .skip∧(YE P f n out cl cd qR cut q6 cp xT B1 co B0 ce js cy).n=n∧
 (YE P f n out cl cd qR cut q6 cp xT B1 co B0 ce js cy).out=out∧(YE P f n out cl cd qR cut q6 cp xT B1 co B0 ce js cy).cl=cl∧(YE P f n out cl cd qR cut q6 cp xT B1 co B0 ce js cy).cd=cd∧
 (YE P f n out cl cd qR cut q6 cp xT B1 co B0 ce js cy).qR=qR∧(YE P f n out cl cd qR cut q6 cp xT B1 co B0 ce js cy).cut=cut∧(YE P f n out cl cd qR cut q6 cp xT B1 co B0 ce js cy).q6=q6∧
 (YE P f n out cl cd qR cut q6 cp xT B1 co B0 ce js cy).cp=cp∧(YE P f n out cl cd qR cut q6 cp xT B1 co B0 ce js cy).xT=xT∧(YE P f n out cl cd qR cut q6 cp xT B1 co B0 ce js cy).B1=B1∧
 (YE P f n out cl cd qR cut q6 cp xT B1 co B0 ce js cy).co=co∧(YE P f n out cl cd qR cut q6 cp xT B1 co B0 ce js cy).B0=B0∧(YE P f n out cl cd qR cut q6 cp xT B1 co B0 ce js cy).ce=ce∧
 (YE P f n out cl cd qR cut q6 cp xT B1 co B0 ce js cy).js=js∧(YE P f n out cl cd qR cut q6 cp xT B1 co B0 ce js cy).cy=cy:=⟨rfl,rfl,rfl,rfl,rfl,rfl,rfl,rfl,rfl,rfl,rfl,rfl,rfl,rfl,rfl,rfl,rfl⟩
end
@[reducible] def ini (args:List AV) (n:Nat) (H:List AObj:=[]):AState:={slots:=args++gC (n-args.length) .any,heap:=H,low:=H.length}
attribute [go_sem] mkA_f ini
end Go.Abs
