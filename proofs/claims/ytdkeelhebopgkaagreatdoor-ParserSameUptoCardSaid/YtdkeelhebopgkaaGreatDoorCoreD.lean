/- A part of the proof: abstract states and the rules for them. -/
import Derived.Test.YtdkeelhebopgkaaGreatDoorCoreC
import Derived.Below
import Derived.Laws.AppendOwn
import Derived.Lib.Join
import Derived.Lib.SplitLaws
import Derived.Lib.IndexAny
import Derived.Lib.IndexMore
import Derived.Deep.Draws
import Derived.RecoverIn
import Derived.Lib.Atoi
import Derived.Lib.AtoiErrMem
set_option linter.all false
open Option renaming bind_eq_some_iff → gE,map_eq_some_iff → gI,or_eq_some_iff → iw
open Option.some renaming injEq → gF
open List renaming getElem?_eq_some_iff → gG,replicate → gH,getElem?_eq_getElem → gJ,range → gK,take_left' → gO,drop_left' → gP,getElem?_map → gS,take_of_length_le → gT,getElem?_eq_none → gU,getElem?_of_mem → gV,mem_of_getElem? → gW,map_congr_left → gZ,getElem?_append_right → hJ,getElem?_append_left → hO,append_nil → hU,map_append → ig,drop_eq_nil_of_le → ij,getElem?_set_self → iq,set_getElem_self → iy,mem_map → iz,map_map → iA,range' → iD
open Bool renaming and_eq_true → gL,eq_iff_iff → ia
open Array renaming replicate → gM,toList_append → gY,toList_replicate → ir
open Prod.mk renaming injEq → gN
open Nat renaming zero_le → gQ,le_refl → gR,sub_self → iB,le_trans → iC
open List.cons renaming injEq → gX
namespace Go.Abs
inductive Loc where
 |arg (i:Nat) (cs:List Nat)
 |obj (k c:Nat) (cs:List Nat)
def nameV:AV→Option Nat
 | .ptr l _=>some l
 | .acc l _=>some l
 | .map l=>some l
 |_=>none
def down:List Nat→AV→Option AV
 |[],v=>some v
 |i::is,.func _ _ cap=>match cap[i]? with
  |some u=>down is u
  |none=>none
 |_::_,_=>none
def cellAt (c:Nat):Option AObj→Option AV
 |some (.cells xs)=>xs[c]?
 |some (.loop _ xs _ _)=>xs[c]?
 |_=>none
def locN (args:List AV) (H:List AObj) (ρ:List Nat):Loc→Option Nat
 | .arg i cs=>(args[i]?).bind fun v=>(down cs v).bind nameV
 | .obj k c cs=>(ρ[k]?).bind fun l=>(cellAt c H[l]?).bind fun v=>(down cs v).bind nameV
def locs (args:List AV) (H:List AObj):List Loc→List Nat→Option (List Nat)
 |[],ρ=>some ρ
 |p::ps,ρ=>(locN args H ρ p).bind fun l=>locs args H ps (ρ++[l])
theorem Zr {args:List AV} {H:List AObj}: ∀ {ps:List Loc} {ρ ρ':List Nat},locs args H ps ρ=some ρ'→ ∃ls,ρ'=ρ++ls
 |[],ρ,ρ',h=>by simp only[locs,gF] at h;exact ⟨[],by rw[h,hU]⟩
 |p::ps,ρ,ρ',h=>by
  simp only[locs,gE] at h
  obtain ⟨l,_,h⟩:=h
  obtain ⟨ls,hl⟩:=Zr h
  exact ⟨l::ls,by rw[hl,List.append_assoc];rfl⟩
def Wm (xs:List AObj) (k:Nat):Nat:=(lN xs[k]?).getD 0
theorem callXT {P:Program} {T:Value→World→Array Value→(Ending→World→Prop)→Prop} (hT:Sg T) {l0:Nat} {σ:AState} {Kb args:List AV} {Ys Ys':List AObj} {O:ud} {ρ:List Nat} (hG:Y0 P T args Ys (fun o H'=>o=O∧H'=Ys')) (hnd:ρ.Nodup) (hlen:ρ.length=Ys.length) (hlen':ρ.length≤Ys'.length)
 (hz: ∀φ:Nat→Value,T (φ (mO ρ σ.heap.length 0))=T (φ l0))
 (Hp: ∀ (i k:Nat),ρ[i]? =some k→ ∃x y,σ.heap[k]? =some x∧Ys[i]? =some y∧Mk σ.heap σ.heap.length x (y.ren (mO ρ σ.heap.length))) (hargs:B8 σ.heap σ.heap.length Kb (renL (mO ρ σ.heap.length) args)):
 NF P T l0 Kb σ (fun o H'=>o=O.ren (mO ρ σ.heap.length)∧H'=tw ρ σ.heap Ys'):=by
 intro C φ a w hP S vs hr
 let H1:=qb σ.heap ρ (Ys.map (AObj.ren (mO ρ σ.heap.length)))
 have hl1:H1.length=σ.heap.length:=vU _ _ _
 have S0:mA C φ ⟨σ.slots++Kb,σ.heap,σ.low,σ.df⟩ {tmps:=a.tmps++vs,defers:=a.defers} w:={S with slots:=by simpa using S.slots.append hr,defers:=S.defers}
 have hat: ∀ (i k:Nat),ρ[i]? =some k→ ∃x y,σ.heap[k]? =some x∧Ys[i]? =some y∧Mk σ.heap σ.heap.length x (y.ren (mO ρ σ.heap.length))∧H1[k]? =some (y.ren (mO ρ σ.heap.length)):=by
  intro i k hi
  obtain ⟨x,y,hx,hy,hc⟩:=Hp i k hi
  exact ⟨x,y,hx,hy,hc,Pa ρ σ.heap _ i k _ hnd hi (by rw[gS,hy];rfl) (gG.1 hx).1⟩
 have hw:YO ⟨σ.slots++Kb,σ.heap,σ.low,σ.df⟩ ⟨σ.slots++renL (mO ρ σ.heap.length) args,H1,σ.low,σ.df⟩:=by
  refine ⟨⟨⟨rfl,by show σ.low≤H1.length;rw[hl1];exact S.low.2⟩,rfl,by show dfNb H1.length σ.df;rw[hl1];exact J6.nb S.defers.2.2⟩,?_,?_⟩
  ·show B8 σ.heap H1.length _ _
   rw[hl1]
   exact B8.append (B8.same (k6.nb _ _ S.slots)) hargs
  ·show Sb σ.heap H1.length σ.heap H1
   rw[hl1]
   refine Qo fun k y hy=> ?_
   by_cases hk:k∈ρ
   ·obtain ⟨i,hi⟩:=gV hk
    obtain ⟨x,y',hx,_,hc,hy'⟩:=hat i k hi
    rw[hy'] at hy;cases hy
    exact ⟨x,hx,hc⟩
   ·have hy2:σ.heap[k]? =some y:=by rw[←hy];exact (EG ρ σ.heap _ k hk).symm
    exact ⟨y,hy2,.inr (.inl ⟨rfl,O8 (S.objs k y hy2)⟩)⟩
 have S1:=hw.sim S0
 have UD:=S1.slots
 simp only[gY] at UD
 have hsz:a.tmps.toList.length=σ.slots.length:=S.slots.length
 have h1:=UD.take σ.slots.length
 have h2:=UD.drop σ.slots.length
 rw[gO rfl,gO hsz] at h1
 rw[gP rfl,gP hsz] at h2
 have S2:mA C φ {σ with heap:=H1} a w:={S1 with slots:=h1,defers:=S1.defers}
 have ya:NF P T l0 (renL (mO ρ H1.length) args) {σ with heap:=H1} (fun o H'=>o=O.ren (mO ρ H1.length)∧H'=tw ρ σ.heap Ys'):=by
  refine We (σ:={σ with heap:=H1}) hT hG ρ hlen hnd (by show ∀φ:Nat→Value,T (φ (mO ρ H1.length 0))=T (φ l0);rw[hl1];exact hz) (qJ.refl _) ?_ ?_
  ·intro i k x hi hx
   obtain ⟨x',y,_,hy,_,hy'⟩:=hat i k hi
   rw[hy] at hx;cases hx
   show H1[k]? =some (x.ren (mO ρ H1.length))
   rw[hy',hl1]
  ·rintro o H' ⟨rfl,rfl⟩
   refine ⟨rfl,?_⟩
   show tw ρ H1 H'=_
   unfold tw
   rw[hl1]
   simp only[H1]
   rw[Oc ρ σ.heap _ _ hnd (by rw[List.length_map];exact hlen')]
 rw[hl1] at ya
 exact ya C φ a w hP S2 vs h2
section entX
variable {α β α' β':Type}
def Zs (base:List Nat) (pos:List Loc) (os:OL β) (as:AL α) (os':OL β') (rs:AL α') (F:β→α→Option (β'×α')):Ent:=fun args H=>
 (locs args H pos base).bind fun ρ=>bif nodupB ρ&&(decide (os.need≤ρ.length)&&(decide (as.need≤ρ.length)&&decide (ρ.length≤os'.size))) then
   (mapO (XC H) ρ).bind fun xs=>(os.dec ρ (Wm xs) H xs).bind fun b=>(as.dec ρ (Wm xs) H args).bind fun a=>(F b a).bind fun r=>
     some ((s9 (rs.enc (os'.lens r.1) r.2)).ren (mO ρ H.length),tw ρ H (os'.enc (os'.lens r.1) r.1)) else none
def entX (pos:List Loc) (os:OL β) (as:AL α) (os':OL β') (rs:AL α') (F:β→α→Option (β'×α')):Ent:=Zs [] pos os as os' rs F
noncomputable def entY (pos:List Loc) (os:OL β) (as:AL α) (os':OL β') (rs:AL α') (F:β→α→Option (β'×α')) (l:Nat):Ent:=fun args H=>
 match H[l]? with
 |some (.loop k _ _ _)=>pcond (args.length=k.ps.size) (Zs [l] pos os as os' rs F args H)
 |_=>none
theorem entX0_ok {P:Program} {T:Value→World→Array Value→(Ending→World→Prop)→Prop} (hT:Sg T) {l0:Nat} {base:List Nat} {pos:List Loc} {os:OL β} {as:AL α} {os':OL β'} {rs:AL α'} {F:β→α→Option (β'×α')}
 (hz: ∀ (ls:List Nat) (n:Nat) (φ:Nat→Value),T (φ (mO (base++ls) n 0))=T (φ l0)) {args:List AV} {σ:AState} {r:AV} {H':List AObj} (he:Zs base pos os as os' rs F args σ.heap=some (r,H')):
 ∃b a q,F b a=some q∧(Y0 P T (as.enc (os.lens b) a) (os.enc (os.lens b) b) (fun o H'=>o= .ret (s9 (rs.enc (os'.lens q.1) q.2))∧H'=os'.enc (os'.lens q.1) q.1)→NF P T l0 args σ (fun o C6=>o= .ret r∧C6=H')):=by
 unfold Zs at he
 simp only[gE] at he
 obtain ⟨ρ,hρ,he⟩:=he
 cases hc:(nodupB ρ&&(decide (os.need≤ρ.length)&&(decide (as.need≤ρ.length)&&decide (ρ.length≤os'.size)))) with
 |false=>simp [hc] at he
 |true=>
  simp only[hc,cond_true,gE,gF,gN] at he
  obtain ⟨xs,hxs,b,hb,a,ha,q,hq,rfl,rfl⟩:=he
  refine ⟨b,a,q,hq,fun hfn=> ?_⟩
  simp only[gL,decide_eq_true_eq] at hc
  obtain ⟨hnd,n1,n2,n3⟩:=hc
  obtain ⟨h1,h2⟩:=Pg hxs
  have hcov: ∀m,m≤ρ.length→Cov ρ m σ.heap.length:=by
   intro m hm k hk
   have hk':k<ρ.length:=by omega
   obtain ⟨x,hx,hx'⟩:=h2 k _ (gJ hk')
   exact ⟨_,gJ hk',(gG.1 hx').1⟩
  have hL:os.lens b=Wm xs:=funext fun k=>os.Xb ρ _ _ _ _ hb k
  obtain ⟨h3,h4⟩:=os.ok ρ _ σ.heap σ.heap.length _ _ (hcov _ n1) hb
  have Sa: ∀l,l<ρ.length→Wl ρ l=mO ρ σ.heap.length l:=fun l hl=>by unfold mO Wl;rw[if_pos hl]
  rw[←hL] at ha h4
  obtain ⟨ls,hls⟩:=Zr hρ
  refine callXT hT hfn (Mf hnd) (by rw[h1,h3,os.sz]) (by rw[os'.sz];exact n3) (fun φ=>by rw[hls];exact hz ls _ φ) ?_ ?_
  ·intro i k hi
   obtain ⟨x,hx,hx'⟩:=h2 i k hi
   have hlt:i<(os.enc (os.lens b) b).length:=by rw[os.sz,←h3,←h1];exact (gG.1 hi).1
   have hy:=gJ hlt
   obtain ⟨x2,Mg,hcc⟩:=h4 i _ hy
   rw[hx] at Mg;cases Mg
   refine ⟨x,_,hx',hy,?_⟩
   rw[←objRen_congr (n:=os.need) (fun l hl=>Sa l (by omega)) _ (os.nb _ _ _ (gW hy))]
   exact hcc
  ·rw[←Cn (n:=as.need) (fun l hl=>Sa l (by omega)) _ (as.nb _ _)]
   exact as.ok ρ _ σ.heap _ _ _ (hcov _ n2) ha
theorem Dy {P:Program} {f:FuncId} {pos:List Loc} {os:OL β} {as:AL α} {os':OL β'} {rs:AL α'} {F:β→α→Option (β'×α')}
 (h: ∀b a r,F b a=some r→ZW P f (as.enc (os.lens b) a) (os.enc (os.lens b) b) (fun o H'=>o= .ret (s9 (rs.enc (os'.lens r.1) r.2))∧H'=os'.enc (os'.lens r.1) r.1)):NH P f (entX pos os as os' rs F):=by
 intro args σ r H' he
 obtain ⟨b,a,q,hq,ya⟩:=entX0_ok (P:=P) (T:=fun _ w vs R=>Calls P f vs w R) (l0:=0) VA (fun _ _ _=>rfl) he
 exact ⟨(h b a q hq).1,ya (h b a q hq).2⟩
theorem entY_ok {P:Program} {pos:List Loc} {os:OL β} {as:AL α} {os':OL β'} {rs:AL α'} {F:β→α→Option (β'×α')}
 (h: ∀b a r,F b a=some r→Y0 P (R8 P) (as.enc (os.lens b) a) (os.enc (os.lens b) b) (fun o H'=>o= .ret (s9 (rs.enc (os'.lens r.1) r.2))∧H'=os'.enc (os'.lens r.1) r.1))
 {l:Nat} {args:List AV} {σ:AState} {r:AV} {H':List AObj} (he:entY pos os as os' rs F l args σ.heap=some (r,H')):JD P l args σ (fun o C6=>o= .ret r∧C6=H'):=by
 unfold entY at he
 split at he
 ·rename_i k slots st sk hk
  rw[lV] at he
  obtain ⟨hlen,he⟩:=he
  obtain ⟨b,a,q,hq,ya⟩:=entX0_ok (P:=P) (T:=R8 P) (l0:=l) rounds_mono (fun ls n φ=>by simp [mO]) he
  exact ⟨⟨k,slots,st,sk,hk,hlen⟩,ya (h b a q hq)⟩
 ·cases he
noncomputable def tabY:List (Nat×(Nat→Ent))→Nat→Ent
 |[],_,_,_=>none
 |(l',e)::t,l,args,H=>bif l==l' then e l args H else tabY t l args H
theorem XE {P:Program}: ∀ (l:Nat) (args:List AV) (σ:AState) (r:AV) (H':List AObj),tabY [] l args σ.heap=some (r,H')→JD P l args σ (fun o C6=>o= .ret r∧C6=H'):=by
 intro l args σ r H' h;cases h
theorem Wn {P:Program} {l':Nat} {e:Nat→Ent} {t:List (Nat×(Nat→Ent))} (h1: ∀ (l:Nat) (args:List AV) (σ:AState) (r:AV) (H':List AObj),e l args σ.heap=some (r,H')→JD P l args σ (fun o C6=>o= .ret r∧C6=H'))
 (h2: ∀ (l:Nat) (args:List AV) (σ:AState) (r:AV) (H':List AObj),tabY t l args σ.heap=some (r,H')→JD P l args σ (fun o C6=>o= .ret r∧C6=H')):
 ∀ (l:Nat) (args:List AV) (σ:AState) (r:AV) (H':List AObj),tabY ((l',e)::t) l args σ.heap=some (r,H')→JD P l args σ (fun o C6=>o= .ret r∧C6=H'):=by
 intro l args σ r H' h
 simp only[tabY] at h
 cases hl:l==l' with
 |true=>rw[hl,cond_true] at h;exact h1 l args σ r H' h
 |false=>rw[hl,cond_false] at h;exact h2 l args σ r H' h
end entX
section outX
variable {α β γ:Type}
def outL (xs:List AV) (pos:List Loc) (base:List Nat) (low:Nat) (os:OL β) (s:AL α) (σ:AState):Option (β×α):=
 (locs xs σ.heap pos base).bind fun ρ=>bif nodupB ρ&&((σ.low==low)&&(σ.df.isEmpty&&(decide (low≤os.size)&&(decide (os.need≤os.size)&&decide (s.need≤os.size))))) then
   (mapO (XC σ.heap) ρ).bind fun ys=>(os.dec ρ (Wm ys) σ.heap ys).bind fun b=>(s.dec ρ (Wm ys) σ.heap xs).bind fun a=>some (b,a) else none
def EH (P:Program) (rs:List ResultVar) (pos:List Loc) (base:List Nat) (low:Nat) (os:OL β) (s:AL α) (σ:AState):Option (β×α):=
 (Ac P σ rs).bind fun xs=>outL xs pos base low os s σ
theorem Wo {xs:List AV} {pos:List Loc} {base:List Nat} {low:Nat} {os:OL β} {s:AL α} {σ:AState} {r:β×α} (hbase:base=gK low) (h:outL xs pos base low os s σ=some r):
 σ.df=[]∧Gk ⟨xs,σ.heap,σ.low,[]⟩ ⟨s.enc (os.lens r.1) r.2,os.enc (os.lens r.1) r.1,σ.low,[]⟩:=by
 unfold outL at h
 simp only[gE] at h
 obtain ⟨ρ,hρ,h⟩:=h
 cases hc:(nodupB ρ&&((σ.low==low)&&(σ.df.isEmpty&&(decide (low≤os.size)&&(decide (os.need≤os.size)&&decide (s.need≤os.size)))))) with
 |false=>simp [hc] at h
 |true=>
  simp only[hc,cond_true,gE,gF] at h
  obtain ⟨ys,hys,b,hb,a,ha,rfl⟩:=h
  simp only[gL,decide_eq_true_eq,beq_iff_eq] at hc
  obtain ⟨hnd,h1,hdf,n1,n2,n3⟩:=hc
  refine ⟨by simpa using hdf,?_⟩
  obtain ⟨ls,hls⟩:=Zr hρ
  obtain ⟨g1,g2⟩:=Pg hys
  have hL:os.lens b=Wm ys:=funext fun k=>os.Xb ρ _ _ _ _ hb k
  rw[←hL] at hb ha
  have hsize:ρ.length=os.size:=by
   have:ys.length=os.size:=os.Ht _ _ _ _ _ hb
   rw[g1,this]
  intro C φ a' w S
  have hcov: ∀m,m≤ρ.length→Cov ρ m σ.heap.length:=by
   intro m hm k hk
   have hk':k<ρ.length:=by omega
   obtain ⟨x,hx,hx'⟩:=g2 k _ (gJ hk')
   exact ⟨_,gJ hk',(gG.1 hx').1⟩
  let Ys:=os.enc (os.lens b) b
  have hYl:Ys.length=os.size:=os.sz _ _
  let H1:=qb σ.heap ρ (Ys.map (AObj.ren (Wl ρ)))
  have hl1:H1.length=σ.heap.length:=vU _ _ _
  obtain ⟨_,h4⟩:=os.ok ρ _ σ.heap σ.heap.length _ _ (hcov _ (by omega)) hb
  have hat: ∀ (i k:Nat) (y:AObj),ρ[i]? =some k→Ys[i]? =some y→ ∃x,σ.heap[k]? =some x∧Mk σ.heap σ.heap.length x (y.ren (Wl ρ))∧H1[k]? =some (y.ren (Wl ρ)):=by
   intro i k y hi hy
   obtain ⟨x,hx,hx'⟩:=g2 i k hi
   obtain ⟨x2,Mg,hcc⟩:=h4 i y hy
   rw[hx] at Mg;cases Mg
   exact ⟨x,hx',hcc,Pa ρ σ.heap _ i k _ (Mf hnd) hi (by rw[gS,hy];rfl) (gG.1 hx').1⟩
  have hw:YO ⟨xs,σ.heap,σ.low,[]⟩ ⟨renL (Wl ρ) (s.enc (os.lens b) a),H1,σ.low,[]⟩:=by
   refine ⟨⟨⟨rfl,by show σ.low≤H1.length;rw[hl1];exact S.low.2⟩,rfl,Sc⟩,?_,?_⟩
   ·show B8 σ.heap H1.length _ _
    rw[hl1]
    exact s.ok ρ _ σ.heap _ _ _ (hcov _ (by omega)) ha
   ·show Sb σ.heap H1.length σ.heap H1
    rw[hl1]
    refine Qo fun k y hy=> ?_
    by_cases hk:k∈ρ
    ·obtain ⟨i,hi⟩:=gV hk
     have hlt:i<Ys.length:=by rw[hYl,←hsize];exact (gG.1 hi).1
     obtain ⟨x,hx,hc,hy'⟩:=hat i k _ hi (gJ hlt)
     rw[hy'] at hy;cases hy
     exact ⟨x,hx,hc⟩
    ·have hy2:σ.heap[k]? =some y:=by rw[←hy];exact (EG ρ σ.heap _ k hk).symm
     exact ⟨y,hy2,.inr (.inl ⟨rfl,O8 (S.objs k y hy2)⟩)⟩
  obtain ⟨φ',S1⟩:=hw.imp C φ _ w S
  refine imp_select (ρ:=ρ) (Ys:=Ys) (by rw[hsize,hYl]) (Mf hnd) ?_ (by rw[hYl];omega) (sM (by omega) _ (s.nb _ _)) (fun y hy=>Bn (by omega) _ (os.nb _ _ y hy)) ?_ C φ' a' w S1
  ·intro k hk
   rw[hls,hbase,hO (by rw[List.length_range];omega),List.getElem?_range (by omega)]
  ·intro i k y hi hy
   obtain ⟨x,_,_,hy'⟩:=hat i k y hi hy
   exact hy'
theorem NJ {P:Program} {rs:List ResultVar} {pos:List Loc} {base:List Nat} {low:Nat} {os:OL β} {s:AL α} {σ:AState} {r:β×α} (hbase:base=gK low) (h:EH P rs pos base low os s σ=some r):
 σ.df=[]∧ ∃xs,Ac P σ rs=some xs∧VD ⟨xs,σ.heap,σ.low,[]⟩ ⟨s.enc (os.lens r.1) r.2,os.enc (os.lens r.1) r.1,σ.low,[]⟩:=by
 unfold EH at h
 simp only[gE] at h
 obtain ⟨xs,hx,h⟩:=h
 exact ⟨(Wo hbase h).1,xs,hx,(Wo hbase h).2.e⟩
end outX
end Go.Abs
namespace Go.Abs
theorem max_le_dec {a b c:Nat}:decide (max a b≤c)=(decide (a≤c)&&decide (b≤c)):=by
 rw[ia]
 simp only[decide_eq_true_eq,gL]
 exact Nat.max_le
theorem lnOf_def {xs:List AObj} {k:Nat}:Wm xs k=(lN xs[k]?).getD 0:=rfl
theorem accLen_f:(∀i s r,lN (some (.acc i s r))=some r.length)∧(∀c,lN (some (.cells c))=none)∧(∀e,lN (some (.map e))=none)∧lN (some .dead)=none∧lN none=none:=⟨fun _ _ _=>rfl,fun _=>rfl,fun _=>rfl,rfl,rfl⟩
theorem lolC_f {a:Nat} {f:DP}:XY a f 0=a∧ ∀k,XY a f (k+1)=f k:=⟨rfl,fun _=>rfl⟩
theorem lolC_1 {a:Nat} {f:DP}:XY a f 1=f 0:=rfl
theorem lolC_2 {a:Nat} {f:DP}:XY a f 2=f 1:=rfl
theorem lolC_3 {a:Nat} {f:DP}:XY a f 3=f 2:=rfl
theorem lolC_4 {a:Nat} {f:DP}:XY a f 4=f 3:=rfl
theorem lolC_5 {a:Nat} {f:DP}:XY a f 5=f 4:=rfl
theorem lolC_6 {a:Nat} {f:DP}:XY a f 6=f 5:=rfl
theorem vlN_n:vlN.need=0:=rfl
theorem vlT_n {α β:Type} {t:Ty α} {s:VL β}:(vlT t s).need=s.need:=rfl
theorem vlP_n {β:Type} {k:Nat} {s:VL β}:(vlP k s).need=max (k+1) s.need:=rfl
theorem vlM_n {β:Type} {k:Nat} {s:VL β}:(vlM k s).need=max (k+1) s.need:=rfl
theorem vlF_n {α β:Type} {f:FuncId} {c:VL α} {s:VL β}:(vlF f c s).need=max c.need s.need:=rfl
attribute [go_sem] vlN_n vlT_n vlP_n vlM_n vlF_n vlN_f vlT_f vlP_f vlM_f vlF_f alN_f alT_f alC_f alP_f alM_f alA_f alF_f alZ_f Ph ogA_f ogC_f olN_f olC_f dvlN dvlT dvlP dvlM dvlF dalT dalC dalP dalM dalA dalF dalZ docC dolN dolC
 entX EH locs locN nameV down cellAt lnOf_def accLen_f Option.getD_some Option.getD_none lolC_f lolC_1 lolC_2 lolC_3 lolC_4 lolC_5 lolC_6 max_le_dec gF
end Go.Abs
namespace Go.Abs
def stJ (lk:wQ) (j:Int):LoopState:=stP (oP lk.js j)
theorem stJ_zero {lk:wQ}:stJ lk 0= .ready:=rfl
section ogL
variable {γ β:Type}
noncomputable def dogL (lk:wQ) (c:AL γ) (ρ:List Nat) (L:DP) (H:List AObj):AObj→Option (γ×Int)
 | .loop lk' slots st j=>pcond (lk'=lk∧st=stJ lk j) ((c.dec ρ L H slots).bind fun g=>some (g,j))
 |_=>none
noncomputable def ogL (lk:wQ) (c:AL γ):OG (γ×Int) where
 enc L g:= .loop lk (c.enc L g.1) (stJ lk g.2) g.2
 dec:=dogL lk c
 len _:=0
 need:=c.need
 nb L g:=c.nb L g.1
 ok ρ L H n x g hv h:=by
  unfold dogL at h
  split at h
  ·simp only[lV,gE,gF] at h
   obtain ⟨⟨rfl,rfl⟩,y,hy,rfl⟩:=h
   exact .inr (.inr (.inr (.inr ⟨_,_,_,_,_,rfl,rfl,c.ok ρ L H n _ _ hv hy⟩)))
  ·cases h
 Zq ρ L H x g h:=by
  unfold dogL at h
  split at h
  ·rfl
  ·cases h
noncomputable def dogL0 (lk:wQ) (c:AL γ) (ρ:List Nat) (L:DP) (H:List AObj):AObj→Option γ
 | .loop lk' slots st j=>bif j==0 then pcond (lk'=lk∧st=stJ lk j) (c.dec ρ L H slots) else none
 |_=>none
noncomputable def ogL0 (lk:wQ) (c:AL γ):OG γ where
 enc L g:= .loop lk (c.enc L g) .ready 0
 dec:=dogL0 lk c
 len _:=0
 need:=c.need
 nb L g:=c.nb L g
 ok ρ L H n x g hv h:=by
  unfold dogL0 at h
  split at h
  ·rename_i lk' slots st j
   cases hj:j==0 with
   |false=>rw[hj] at h;cases h
   |true=>
    rw[hj,cond_true] at h
    have hj':j=0:=by simpa using hj
    subst hj'
    simp only[lV] at h
    obtain ⟨⟨rfl,rfl⟩,hy⟩:=h
    exact .inr (.inr (.inr (.inr ⟨_,_,_,_,_,rfl,rfl,c.ok ρ L H n _ _ hv hy⟩)))
  ·cases h
 Zq ρ L H x g h:=by
  unfold dogL0 at h
  split at h
  ·rfl
  ·cases h
theorem dogL_f {lk lk':wQ} {c:AL γ} {ρ:List Nat} {L:DP} {H:List AObj} {s:List AV} {st:LoopState} {j:Int}:dogL lk c ρ L H (.loop lk' s st j)=pcond (lk'=lk∧st=stJ lk j) ((c.dec ρ L H s).bind fun g=>some (g,j)):=rfl
theorem dogL0_f {lk lk':wQ} {c:AL γ} {ρ:List Nat} {L:DP} {H:List AObj} {s:List AV} {st:LoopState} {j:Int}:dogL0 lk c ρ L H (.loop lk' s st j)=bif j==0 then pcond (lk'=lk∧st=stJ lk j) (c.dec ρ L H s) else none:=rfl
theorem ogL_f {lk:wQ} {c:AL γ}:(∀L g,(ogL lk c).enc L g= .loop lk (c.enc L g.1) (stJ lk g.2) g.2)∧(∀ρ L H x,(ogL lk c).dec ρ L H x=dogL lk c ρ L H x)∧(∀g,(ogL lk c).len g=0)∧(ogL lk c).need=c.need:=⟨fun _ _=>rfl,fun _ _ _ _=>rfl,fun _=>rfl,rfl⟩
theorem ogL0_f {lk:wQ} {c:AL γ}:(∀L g,(ogL0 lk c).enc L g= .loop lk (c.enc L g) .ready 0)∧(∀ρ L H x,(ogL0 lk c).dec ρ L H x=dogL0 lk c ρ L H x)∧(∀g,(ogL0 lk c).len g=0)∧(ogL0 lk c).need=c.need:=⟨fun _ _=>rfl,fun _ _ _ _=>rfl,fun _=>rfl,rfl⟩
end ogL
def Oe:List (Int×Code)→mX→Int
 |(k,.ret)::_,.ret=>k
 |(k,.exit n)::t,.exit m=>bif n==m then k else Oe t (.exit m)
 |_::t,e=>Oe t e
 |[],_=>0
section outRd
variable {β:Type}
noncomputable def outR2 (js:List (Int×Code)) (pos:List Loc) (base:List Nat) (low:Nat) (os:OL β) (e:mX) (σ:AState):Option AObj→Option (β×(Bool×Unit))
 |some (.loop lk sl .busy 0)=>pcond (Y4 e=some (oP lk.js (Oe js e))) (outL [.bool (oP lk.js (Oe js e)).isNone] pos base low os (lM pQ kZ) {σ with heap:=σ.heap.set 0 (.loop lk sl (stJ lk (Oe js e)) (Oe js e))})
 |_=>none
noncomputable def outRd (js:List (Int×Code)) (pos:List Loc) (base:List Nat) (low:Nat) (os:OL β) (e:mX) (σ:AState):Option (β×(Bool×Unit)):=outR2 js pos base low os e σ σ.heap[0]?
theorem outR2_f {js:List (Int×Code)} {pos:List Loc} {base:List Nat} {low:Nat} {os:OL β} {e:mX} {σ:AState} {lk:wQ} {sl:List AV}:outR2 js pos base low os e σ (some (.loop lk sl .busy 0))=
 pcond (Y4 e=some (oP lk.js (Oe js e))) (outL [.bool (oP lk.js (Oe js e)).isNone] pos base low os (lM pQ kZ) {σ with heap:=σ.heap.set 0 (.loop lk sl (stJ lk (Oe js e)) (Oe js e))}):=rfl
theorem export_of_imp {σ:AState} {x r:AV} {H':List AObj} (h:Gk ⟨[x],σ.heap,σ.low,[]⟩ ⟨[r],H',σ.low,[]⟩):N9 σ x r H':=by
 intro C φ a w S v hv
 obtain ⟨φ',S'⟩:=h C φ {tmps:= #[v],defers:=[]} w {S with slots:=⟨v,[],rfl,hv,rfl⟩,defers:=rB.nil}
 obtain ⟨v',_,e,hr,_⟩:=S'.slots
 simp only[gX] at e
 obtain ⟨rfl,_⟩:=e
 exact ⟨φ',{S' with slots:=rfl,defers:=rB.nil},hr⟩
theorem outRd_ok {js:List (Int×Code)} {pos:List Loc} {base:List Nat} {low:Nat} {os:OL β} {e:mX} {σ:AState} {r:β×(Bool×Unit)} (hbase:base=gK low) (h:outRd js pos base low os e σ=some r):
 rPost (fun o H'=>o= .ret (s9 ((lM pQ kZ).enc (os.lens r.1) r.2))∧H'=os.enc (os.lens r.1) r.1) e σ:=by
 unfold outRd outR2 at h
 split at h
 ·rename_i lk sl hk
  simp only[lV] at h
  obtain ⟨hj,h⟩:=h
  have:=Wo hbase h
  exact ⟨_,lk,sl,hj,hk,_,_,export_of_imp (σ:={σ with heap:=σ.heap.set 0 (.loop lk sl (stJ lk (Oe js e)) (Oe js e))}) this.2,rfl,rfl⟩
 ·cases h
end outRd
section rules
variable {R:Type} {M:lF R} {k:List Kt} {σ:AState}
theorem stepR2_J {H':List AObj} {lk:wQ} {s:List AV} {j:Int}:W2 M k σ H' (some (.loop lk s (stJ lk j) j))=Sh M k {σ with heap:=H'.set σ.heap.length .dead} (oP lk.js j):=by
 rw[Xy];exact VE
theorem stepR2_0 {H':List AObj} {lk:wQ} {s:List AV}:W2 M k σ H' (some (.loop lk s .ready 0))=Sh M k {σ with heap:=H'.set σ.heap.length .dead} none:=by
 rw[Xy];exact VE
end rules
theorem renObj_L {τ:Nat→Nat} {lk:wQ} {s:List AV} {st:LoopState} {j:Int}:(AObj.loop lk s st j).ren τ= .loop lk (renL τ s) st j:=rfl
theorem accLen_L {lk:wQ} {s:List AV} {st:LoopState} {j:Int}:lN (some (.loop lk s st j))=none:=rfl
theorem cellAt_f {c:Nat}:(∀xs,cellAt c (some (.cells xs))=xs[c]?)∧(∀lk xs st j,cellAt c (some (.loop lk xs st j))=xs[c]?):=⟨fun _=>rfl,fun _ _ _ _=>rfl⟩
theorem jumpE_f:Y4 .normal=some none∧Y4 .ret=some (some .ret)∧ ∀id,Y4 (.exit id)=some (some (.exit id)):=⟨rfl,rfl,fun _=>rfl⟩
theorem numJ_f:(∀k t,Oe ((k,.ret)::t) .ret=k)∧(∀k n t,Oe ((k,.exit n)::t) .ret=Oe t .ret)∧(∀k t m,Oe ((k,.ret)::t) (.exit m)=Oe t (.exit m))∧(∀k n t m,Oe ((k,.exit n)::t) (.exit m)=bif n==m then k else Oe t (.exit m))∧
 (∀js,Oe js .normal=0)∧(∀e,Oe [] e=0):=
 ⟨fun _ _=>rfl,fun _ _ _=>rfl,fun _ _ _=>rfl,fun _ _ _ _=>rfl,fun js=>by induction js with|nil=>rfl|cons x t ih=>obtain ⟨k,c⟩:=x;cases c<;>exact ih,fun _=>rfl⟩
noncomputable def entYo {α β α' β':Type} (pos:List Loc) (os:OL β) (as:AL α) (os':OL β') (rs:AL α') (F:β→α→Option (β'×α')) (l:Nat) (args:List AV) (H:List AObj):Option AObj→Option (AV×List AObj)
 |some (.loop k _ _ _)=>pcond (args.length=k.ps.size) (Zs [l] pos os as os' rs F args H)
 |_=>none
theorem entY_o {α β α' β':Type} {pos:List Loc} {os:OL β} {as:AL α} {os':OL β'} {rs:AL α'} {F:β→α→Option (β'×α')} {l:Nat} {args:List AV} {H:List AObj}:
 entY pos os as os' rs F l args H=entYo pos os as os' rs F l args H H[l]? :=rfl
theorem entYo_f {α β α' β':Type} {pos:List Loc} {os:OL β} {as:AL α} {os':OL β'} {rs:AL α'} {F:β→α→Option (β'×α')} {l:Nat} {args:List AV} {H:List AObj} {k:wQ} {s:List AV} {st:LoopState} {j:Int}:
 entYo pos os as os' rs F l args H (some (.loop k s st j))=pcond (args.length=k.ps.size) (Zs [l] pos os as os' rs F args H):=rfl
def Zt:Code→Code
 | .rangeFunc _ _ a _=>a
 |_=> .skip
def bdyC:Code→Code
 | .rangeFunc _ _ _ b=>b
 |_=> .skip
attribute [go_sem] Zt bdyC
def tabJ:List (List Nat×List (Int×Code))→List Nat→List (Int×Code)
 |[],_=>[]
 |(p',js)::t,p=>if p=p' then js else tabJ t p
theorem ready_J {lk:wQ}:(LoopState.ready=stJ lk 0)=True:=by simp [stJ_zero]
noncomputable def oLf (zs:List NZ) (H:List AObj) (n:Nat):AObj→Option AObj
 | .loop lk s st j=>pcond (st=stJ lk j) ((XS zs H n s).bind fun ds=>some (.loop lk ds (stJ lk j) j))
 |_=>none
noncomputable def oL (zs:List NZ):ZO:=⟨oLf zs,fun H n x y h=>by
 unfold oLf at h
 split at h
 ·simp only[lV,gE,gF] at h
  obtain ⟨rfl,ds,hd,rfl⟩:=h
  exact .inr (.inr (.inr (.inr ⟨_,_,_,_,_,rfl,rfl,Yo hd⟩)))
 ·cases h⟩
theorem oL_f {zs:List NZ} {H:List AObj} {n:Nat} {lk:wQ} {s:List AV} {st:LoopState} {j:Int}:(oL zs).f H n (.loop lk s st j)=pcond (st=stJ lk j) ((XS zs H n s).bind fun ds=>some (.loop lk ds (stJ lk j) j)):=rfl
attribute [go_sem] ready_J oL_f ogL_f ogL0_f dogL_f dogL0_f outRd outR2_f outL Zs stepR2_J stepR2_0 renObj_L accLen_L cellAt_f jumpE_f numJ_f entY_o entYo_f tabY
end Go.Abs
namespace Go.Abs
def mcB (p:Str×Bool):AV×AV:=(.str (sb p.1),.bool p.2)
def Qr {α:Type} (s:Str):List (Str×α)→Option α
 |[]=>none
 |(k,v)::es=>bif s==k then some v else Qr s es
def U9 {α:Type} (s:Str) (v:α):List (Str×α)→List (Str×α)
 |[]=>[(s,v)]
 |(k,u)::es=>bif s==k then (k,v)::es else (k,u)::U9 s v es
theorem sb_beq (a b:Str):(sb a==sb b)=(a==b):=by
 rw[ia,MapKept.bytes_beq,beq_iff_eq]
 constructor
 ·intro h
  have:=congrArg ByteArray.toList h
  rwa [JI,JI] at this
 ·rintro rfl;rfl
theorem Zu: ∀xs:List (Str×Bool),K6 (xs.map mcB)=true
 |[]=>rfl
 |_::xs=>Zu xs
theorem mapStr_mp (xs:List (Str×Bool)):K6 (mp mcB xs)=true:=by rw[qe];exact Zu xs
theorem XF (s:Str): ∀xs:List (Str×Bool),yw (sb s) (xs.map mcB)=(Qr s xs).map AV.bool
 |[]=>rfl
 |(k,v)::xs=>by
  show (bif sb s==sb k then some (AV.bool v) else yw (sb s) (xs.map mcB))=_
  rw[sb_beq,XF s xs]
  simp only[Qr]
  cases s==k<;>rfl
theorem mapFind_mp (s:Str) (xs:List (Str×Bool)):yw (sb s) (mp mcB xs)=(Qr s xs).map AV.bool:=by rw[qe];exact XF s xs
theorem Zv (s:Str) (v:Bool): ∀xs:List (Str×Bool),JA (sb s) (.bool v) (xs.map mcB)=(U9 s v xs).map mcB
 |[]=>rfl
 |(k,u)::xs=>by
  show (bif sb s==sb k then (AV.str (sb k),AV.bool v)::xs.map mcB else (AV.str (sb k),AV.bool u)::JA (sb s) (.bool v) (xs.map mcB))=_
  rw[sb_beq,Zv s v xs]
  simp only[U9]
  cases s==k<;>rfl
theorem mapSet_mp (s:Str) (v:Bool) (xs:List (Str×Bool)):JA (sb s) (.bool v) (mp mcB xs)=mp mcB (U9 s v xs):=by rw[qe,qe];exact Zv s v xs
theorem mapGet_bool (o:Option Bool) (z:Bool):(o.map AV.bool).getD (.bool z)= .bool (o.getD z):=by cases o<;>rfl
theorem map_nil_mp:AObj.map []= .map (mp mcB []):=by rw[qe];rfl
theorem lookEff_mp {z:AV} {l:Nat} {s:Str} {xs:List (Str×Bool)}:Us z l (sb s) (some (.map (mp mcB xs)))=some {val:=((Qr s xs).map AV.bool).getD z,rd:=[l]}:=by
 simp only[Us,mapStr_mp,if_true,mapFind_mp]
theorem mapUpEff_mp {l:Nat} {s:Str} {v:Bool} {xs:List (Str×Bool)}:mapUpEff l (sb s) (.bool v) (some (.map (mp mcB xs)))=some {val:= .any,rd:=[l],up:=[(l,.map (mp mcB (U9 s v xs)))]}:=by
 simp only[mapUpEff,mapStr_mp,if_true,mapSet_mp]
theorem Wp (n:Nat) (xs:List (Str×Bool)):objNb n (.map (mp mcB xs))=True:=by
 refine eq_true fun p hp=> ?_
 rw[qe,iz] at hp
 obtain ⟨q,_,rfl⟩:=hp
 exact ⟨trivial,trivial⟩
theorem mapRen_mp (ρ:Nat→Nat) (xs:List (Str×Bool)):(mp mcB xs).map (fun p=>(AV.ren ρ p.1,AV.ren ρ p.2))=mp mcB xs:=by
 rw[qe,iA]
 exact gZ fun _ _=>rfl
theorem mapNbF_mp (n:Nat) (xs:List (Str×Bool)):(∀p:AV×AV,p∈mp mcB xs→AV.nb n p.1∧AV.nb n p.2)=True:=Wp n xs
attribute [go_sem high] mapRen_mp mapNbF_mp
def ddB:AV×AV→Option (Str×Bool)
 |(.str s,.bool b)=>some (s.toList,b)
 |_=>none
theorem ddB_ok {p:AV×AV} {q:Str×Bool} (h:ddB p=some q):p=mcB q:=by
 unfold ddB at h
 split at h
 ·rename_i s b
  simp only[gF] at h
  subst h
  simp only[mcB,gN,AV.str.injEq,and_true]
  obtain ⟨⟨l⟩⟩:=s
  rw[ByteArray.toList_eq];rfl
 ·cases h
theorem mapO_ddB': ∀ {es:List (AV×AV)} {xs:List (Str×Bool)},mapO ddB es=some xs→es=xs.map mcB
 |[],xs,h=>by simp only[mapO,gF] at h;subst h;rfl
 |p::es,xs,h=>by
  simp only[mapO,gE,gF] at h
  obtain ⟨q,hq,ys,hys,rfl⟩:=h
  rw[ddB_ok hq,mapO_ddB' hys];rfl
theorem mapO_ddB {es:List (AV×AV)} {xs:List (Str×Bool)} (h:mapO ddB es=some xs):es=mp mcB xs:=by rw[qe];exact mapO_ddB' h
theorem map_ren (τ:Nat→Nat) (xs:List (Str×Bool)):(AObj.map (mp mcB xs)).ren τ= .map (mp mcB xs):=by
 rw[qe]
 show AObj.map ((xs.map mcB).map _)=_
 congr 1
 rw[iA]
 exact gZ fun p _=>by obtain ⟨s,b⟩:=p;rfl
def daM:AObj→Option (List (Str×Bool))
 | .map es=>mapO ddB es
 |_=>none
theorem daM_mp {xs:List (Str×Bool)}:daM (.map (mp mcB xs))=some xs:=by
 show mapO ddB (mp mcB xs)=some xs
 exact Cm (fun x=>by obtain ⟨s,b⟩:=x;show some ((sb s).toList,b)=_;rw[JI]) xs
theorem daM_ok {x:AObj} {xs:List (Str×Bool)} (h:daM x=some xs):x= .map (mp mcB xs):=by
 unfold daM at h
 split at h
 ·rw[mapO_ddB h]
 ·cases h
def Gr:OG (List (Str×Bool)) where
 enc _ xs:= .map (mp mcB xs)
 dec _ _ _:=daM
 len _:=0
 need:=0
 nb L g:=of_eq_true (Wp 0 g)
 ok ρ L H n x g _ h:=by
  rw[daM_ok h]
  rw[map_ren]
  exact .inr (.inl ⟨rfl,of_eq_true (Wp n g)⟩)
 Zq ρ L H x g h:=by
  rw[daM_ok h];rfl
theorem ogM_f:(∀L g,Gr.enc L g= .map (mp mcB g))∧(∀ρ L H x,Gr.dec ρ L H x=daM x)∧(∀g,Gr.len g=0)∧Gr.need=0:=⟨fun _ _=>rfl,fun _ _ _ _=>rfl,fun _=>rfl,rfl⟩
def gAt:List (List Nat×List (Nat×Nat×Nat))→List Nat→AState→AState
 |[],_,σ=>σ
 |(q,g)::t,p,σ=>if p=q then Zg g σ else gAt t p σ
theorem gAt_ok: ∀ {t:List (List Nat×List (Nat×Nat×Nat))} {p:List Nat} {σ:AState},Gk σ (gAt t p σ)
 |[],_,_=>Gk.refl _
 |(q,g)::t,p,σ=>by
  unfold gAt
  split
  ·exact W6
  ·exact gAt_ok
noncomputable def tabG (fs:List (List Nat×List Nat)) (gs:List (List Nat×List (Nat×Nat×Nat))) (p:List Nat) (σ:AState):Option AState:=(UF fs p σ).map (gAt gs p)
theorem tabG_ok (fs:List (List Nat×List Nat)) (gs:List (List Nat×List (Nat×Nat×Nat))): ∀p σ σ',tabG fs gs p σ=some σ'→Gk σ σ':=by
 intro p σ σ' h
 simp only[tabG,gI] at h
 obtain ⟨σ1,h1,rfl⟩:=h
 exact (rA _ _ _ _ h1).trans gAt_ok
attribute [go_sem] gAt tabG
attribute [go_sem] lookEff_mp mapUpEff_mp mapGet_bool map_nil_mp daM_mp ogM_f map_ren
attribute [go_sem high] Wp
end Go.Abs
namespace Go.Abs
def Tup (α:Type):Nat→Type
 |0=>Unit
 |n+1=>α×Tup α n
section tup
variable {α:Type}
def Zw (c:α→List AV):(n:Nat)→Tup α n→List AV
 |0,_=>[]
 |n+1,x=>c x.1++Zw c n x.2
def Xc (d:List AV→Option α) (sz:Nat):(n:Nat)→List AV→Option (Tup α n)
 |0,cs=>if cs.isEmpty=true then some () else none
 |n+1,cs=>(d (cs.take sz)).bind fun x=>(Xc d sz n (cs.drop sz)).bind fun t=>some (x,t)
theorem tupNb {c:α→List AV} (h: ∀n x,nbL n (c x)) (k:Nat): ∀ (n:Nat) (v:Tup α n),nbL k (Zw c n v)
 |0,_=>trivial
 |n+1,v=>JE (h k v.1) (tupNb h k n v.2)
theorem tupOk {c:R0 α} {H:List AObj} {m sz:Nat}: ∀ {n:Nat} {cs:List AV} {v:Tup α n},Xc (c.dec H) sz n cs=some v→oN H m cs (Zw c.enc n v)
 |0,cs,v,h=>by
  simp only[Xc] at h
  split at h
  ·rename_i he
   rw[List.isEmpty_iff] at he
   subst he;exact oN.nil
  ·cases h
 |n+1,cs,v,h=>by
  simp only[Xc,gE] at h
  obtain ⟨x,hx,t,ht,he⟩:=h
  obtain rfl:(x,t)=v:=Option.some.inj he
  have:=oN.append (c.ok H m _ _ hx) (tupOk (c:=c) (m:=m) ht)
  rw[List.take_append_drop] at this
  exact this
def cA (c:R0 α) (sz n:Nat):R0 (Tup α n) where
 enc v:=Zw c.enc n v
 dec H cs:=Xc (c.dec H) sz n cs
 ok H m cs v h:=tupOk h
 nb k v:=tupNb c.nb k n v
theorem cA_f {c:R0 α} {sz n:Nat}:(∀v,(cA c sz n).enc v=Zw c.enc n v)∧ ∀H cs,(cA c sz n).dec H cs=Xc (c.dec H) sz n cs:=⟨fun _=>rfl,fun _ _=>rfl⟩
end tup
attribute [go_sem] cA_f
def Mr (xs:List Str):List AV:=[.l5 false 1 (mp mo xs)]
def dSS1:List AV→Option (List Str)
 |[c]=>dL nq [] c
 |_=>none
theorem scell_nbR (n:Nat) (xs:List Str):Lu n (mp mo xs):=wj (r:=nq) xs
def Zx:Row (List Str) where
 enc:=Mr
 dec:=dSS1
 sz:=1
 ok r x h:=by
  unfold dSS1 at h
  split at h
  ·exact AW.cons (Co1.toSub (n:=0) (Pc h)) AW.nil
  ·cases h
 nb n x:=⟨scell_nbR n x,trivial⟩
theorem rowSS_f:Zx.enc=Mr∧Zx.dec=dSS1∧Zx.sz=1:=⟨rfl,rfl,rfl⟩
theorem dSS1_cell (x:List Str):dSS1 (Mr x)=some x:=by
 simp only[dSS1,Mr,dL,Ht,W5,beq_self_eq_true,Bool.true_or,cond_true,GI]
theorem mapO_ss (xs:List (List Str)):mapO dSS1 (mp Mr xs)=some xs:=Cm dSS1_cell xs
theorem ss_nbs: ∀ (n:Nat) (xs:List (List Str)),Lu n (mp Mr xs)=True:=fun n xs=>eq_true (wj (r:=Zx) xs)
theorem ss_rens: ∀ (ρ:Nat→Nat) (xs:List (List Str)),CU ρ (mp Mr xs)=mp Mr xs:=fun ρ xs=>sw ρ _ (wj (r:=Zx) xs)
attribute [go_sem] Mr dSS1 rowSS_f mapO_ss ss_nbs ss_rens
end Go.Abs
namespace Go.Abs
end Go.Abs
namespace Go.Abs
section lend
variable {C:Ctx} {φ:Nat→Value} {σ:AState} {a:Act} {w:World}
def toImm:AObj→AObj
 | .acc _ sz rows=> .acc true sz rows
 |x=>x
theorem mA.immN (S:mA C φ σ a w): ∀n:Nat,mA C φ {σ with heap:=(σ.heap.take n).map toImm++σ.heap.drop n} a w
 |0=>by simpa using S
 |n+1=>by
  have ih:=mA.immN S n
  by_cases hn:n<σ.heap.length
  ·have hlen:((σ.heap.take n).map toImm).length=n:=by rw[List.length_map,List.length_take];omega
   have hd:=List.drop_eq_getElem_cons hn
   have ht:(σ.heap.take (n+1)).map toImm=(σ.heap.take n).map toImm++[toImm σ.heap[n]]:=by
    rw[List.take_succ_eq_append_getElem hn,ig];rfl
   rw[ht,List.append_assoc,List.singleton_append]
   cases hx:σ.heap[n] with
   |acc pY sz rows=>
    cases pY with
    |true=>
     rw[hd,hx] at ih
     exact ih
    |false=>
     rw[hd,hx] at ih
     have hl:((σ.heap.take n).map toImm++AObj.acc false sz rows::σ.heap.drop (n+1))[n]? =some (.acc false sz rows):=by
      rw[hJ (by omega),hlen,iB];rfl
     have:=mA.pY hl ih
     rw[show ((σ.heap.take n).map toImm++AObj.acc false sz rows::σ.heap.drop (n+1)).set n (.acc true sz rows)=(σ.heap.take n).map toImm++AObj.acc true sz rows::σ.heap.drop (n+1) from by
      rw[List.set_append_right _ _ (by omega),hlen,iB];rfl] at this
     exact this
   |cells cs=>rw[hd,hx] at ih;exact ih
   |map es=>rw[hd,hx] at ih;exact ih
   |loop k s t p=>rw[hd,hx] at ih;exact ih
   |iter s p=>rw[hd,hx] at ih;exact ih
   |dead=>rw[hd,hx] at ih;exact ih
  ·have e1:σ.heap.take (n+1)=σ.heap.take n:=by rw[gT (by omega),gT (by omega)]
   have e2:σ.heap.drop (n+1)=σ.heap.drop n:=by rw[ij (by omega),ij (by omega)]
   rw[e1,e2];exact ih
theorem mA.immAll (S:mA C φ σ a w):mA C φ {σ with heap:=σ.heap.map toImm} a w:=by
 have:=mA.immN S σ.heap.length
 rwa [List.take_length,List.drop_length,hU] at this
theorem toImm_muts {x:AObj} {h:Value} {b o:Nat} (hm:(toImm x).muts h b o):x.muts h b o:=by
 cases x with
 |acc pY sz rows=>
  cases pY with
  |true=>exact hm
  |false=>exact Zh hm
 |_=>exact hm
theorem immAll_le (C:Ctx) (φ:Nat→Value) (H:List AObj) (w:World):(C.env φ H w).Le H.length (C.env φ (H.map toImm) w):=by
 refine Ctx.Bi (by simp) (fun k _=>⟨rfl,?_⟩) (fun b o u hm hc=>⟨fun h=>hm (h.imp ?_ id),hc⟩)
 ·rw[gS]
  cases H[k]? with
  |none=>rfl
  |some x=>cases x<;>rfl
 ·rintro ⟨k,y,hy,hmm⟩
  rw[gS,gI] at hy
  obtain ⟨x,hx,rfl⟩:=hy
  exact ⟨k,x,hx,toImm_muts hmm⟩
def vwN (H:List AObj):List AV→Option (List AV)
 |[]=>some []
 | .agg cs::r=>(Vv H cs).bind fun p=>(vwN H r).bind fun q=>some (.agg p.1::q)
 |c::r=>(Vv H [c]).bind fun p=>(vwN H r).bind fun q=>some (p.1++q)
theorem Xd (S:mA C φ σ a w): ∀ {cs ds:List AV} {vs:List Value},vwN σ.heap cs=some ds→k6 (C.env φ σ.heap w) cs vs→k6 (C.env φ σ.heap w) ds vs
 |[],ds,vs,h,r=>by simp only[vwN,gF] at h;subst h;exact r
 |c::cs,ds,vs,h,⟨u,us,hv,r1,r2⟩=>by
  have other:(Vv σ.heap [c]).bind (fun p=>(vwN σ.heap cs).bind fun q=>some (p.1++q))=some ds→k6 (C.env φ σ.heap w) ds vs:=by
   intro h
   rw[gE] at h
   obtain ⟨p,hp,h⟩:=h
   rw[gE] at h
   obtain ⟨q,hq,h⟩:=h
   cases h
   have:=JC (vs:=[u]) S (show Vv σ.heap [c]=some (p.1,p.2) from hp) ⟨u,[],rfl,r1,rfl⟩
   have h2:=this.append (Xd S hq r2)
   rw[hv];exact h2
  cases c with
  |agg xs=>
   simp only[vwN] at h
   rw[gE] at h
   obtain ⟨p,hp,h⟩:=h
   rw[gE] at h
   obtain ⟨q,hq,h⟩:=h
   cases h
   obtain ⟨ys,hy,rl⟩:=r1
   exact ⟨u,us,hv,⟨ys,hy,JC S (show Vv σ.heap xs=some (p.1,p.2) from hp) rl⟩,Xd S hq r2⟩
  |_=>exact other (by simpa only[vwN] using h)
def num1 (l:Nat):AV→AV
 | .int k n=> .int k n
 | .bool b=> .bool b
 | .str s=> .str s
 | .l5 _ _ _=> .acc l 0
 |_=> .any
def num2 (l:Nat):AV→AV
 | .agg cs=> .agg (cs.map (num1 l))
 |x=>num1 l x
def num (l:Nat):AV→AV
 | .tup cs=> .tup (cs.map (num2 l))
 |x=>num2 l x
def firstC:List AObj→Nat→Option Nat
 |[],_=>none
 | .cells _::_,n=>some n
 |_::r,n=>firstC r (n+1)
theorem firstC_ok: ∀ {H:List AObj} {n l:Nat},firstC H n=some l→ ∃k cs,l=n+k∧H[k]? =some (.cells cs)
 |x::r,n,l,h=>by
  cases x with
  |cells cs=>simp only[firstC,gF] at h;exact ⟨0,cs,by omega,rfl⟩
  |_=>
   obtain ⟨k,cs,e,hk⟩:=firstC_ok (show firstC r (n+1)=some l from h)
   exact ⟨k+1,cs,by omega,hk⟩
section
variable {E E':Env} {l:Nat}
theorem num1_rep (h1:l<E'.n) (h2:E'.ln l=none): ∀ {x:AV} {v:Value},nO E x v→nO E' (num1 l x) v:=by
 intro x v h
 cases x with
 |l5 t sz rows=>
  obtain ⟨base,cap,hv,_⟩:=h
  exact ⟨h1,⟨_,_,_,hv⟩,fun k hk=>by rw[h2] at hk;cases hk⟩
 |int=>exact h
 |bool=>exact h
 |str=>exact h
 |_=>exact trivial
theorem num1_repL (h1:l<E'.n) (h2:E'.ln l=none): ∀ {xs:List AV} {vs:List Value},k6 E xs vs→k6 E' (xs.map (num1 l)) vs
 |[],_,h=>h
 |_::_,_,⟨u,us,hv,r1,r2⟩=>⟨u,us,hv,num1_rep h1 h2 r1,num1_repL h1 h2 r2⟩
theorem num2_rep (h1:l<E'.n) (h2:E'.ln l=none) {x:AV} {v:Value} (h:nO E x v):nO E' (num2 l x) v:=by
 cases x with
 |agg cs=>obtain ⟨vs,hv,hr⟩:=h;exact ⟨vs,hv,num1_repL h1 h2 hr⟩
 |_=>exact num1_rep h1 h2 h
theorem num2_repL (h1:l<E'.n) (h2:E'.ln l=none): ∀ {xs:List AV} {vs:List Value},k6 E xs vs→k6 E' (xs.map (num2 l)) vs
 |[],_,h=>h
 |_::_,_,⟨u,us,hv,r1,r2⟩=>⟨u,us,hv,num2_rep h1 h2 r1,num2_repL h1 h2 r2⟩
theorem num_rep (h1:l<E'.n) (h2:E'.ln l=none) {x:AV} {v:Value} (h:nO E x v):nO E' (num l x) v:=by
 cases x with
 |tup cs=>obtain ⟨vs,hv,hr⟩:=h;exact ⟨vs,hv,num2_repL h1 h2 hr⟩
 |_=>exact num2_rep h1 h2 h
end
noncomputable def entB (e:EntD):Ent:=fun args H=>pcond (¬ nbL 0 args) ((firstC H 0).bind fun l=>(vwN (H.map toImm) args).bind fun as=>(e as).bind fun r=>some (num l r,H))
theorem entB_ok {P:Program} {f:FuncId} {e:EntD} (h:JH P f e):NH P f (entB e):=by
 intro args σ r H' he
 unfold entB at he
 have he:=(lV.1 he).2
 rw[gE] at he
 obtain ⟨l,hl,he⟩:=he
 obtain ⟨k,cs,hk,hl⟩:=firstC_ok hl
 obtain rfl:l=k:=by omega
 rw[gE] at he
 obtain ⟨as,hv,he⟩:=he
 rw[gE] at he
 obtain ⟨q,hq,he⟩:=he
 cases he
 obtain ⟨hen,hnb,hc⟩:=h as q hq
 refine ⟨hen,fun C φ a w hP S vs hr=> ?_⟩
 have S':=S.immAll
 have hr':k6 (C.env φ (σ.heap.map toImm) w) args vs.toList:=k6.mono (immAll_le C φ σ.heap w) _ _ (k6.nb _ _ hr) hr
 have hd:=Xd S' hv hr'
 refine (hc S'.callee φ w hP rfl rfl (fun _ _ h=>h) vs (k6.mono (S'.callee_le φ w) _ _ hnb hd)).mono ?_
 rintro e' w' ⟨r,v,φ',rfl,rfl,rep,hs,hh,hf,ho⟩
 exact ⟨.ret (num l r),φ,σ.heap,⟨rfl,rfl⟩,S.grown hs hh hf ho,num_rep (gG.1 hl).1 (by show lN σ.heap[l]? =none;rw[hl];rfl) rep⟩
end lend
end Go.Abs
namespace Go.Abs
theorem pcond_no {R:Type} {x:Option R}:pcond False x=none:=by simp [pcond]
theorem not_nb:(¬ True)=False∧(¬ False)=True:=⟨by simp,by simp⟩
theorem nbR_set {n:Nat} {r:List AV}: ∀ {rows:List (List AV)} {i:Nat},Lu n rows→Lu n (rows.set i r)=(rows.length≤i∨nbL n r)
 |[],_,_=>eq_true trivial|>.trans (eq_true (.inl (gQ _))).symm
 |_::_,0,h=>by
  have e:(nbL n r∧Lu n _)=nbL n r:=propext ⟨fun q=>q.1,fun q=>⟨q,h.2⟩⟩
  show (nbL n r∧Lu n _)=_
  rw[e]
  exact propext ⟨.inr,fun q=>q.elim (fun q=>absurd q (Nat.not_succ_le_zero _)) id⟩
 |_::rows,i+1,h=>by
  show (nbL n _∧Lu n (rows.set i r))=_
  rw[nbR_set (rows:=rows) (i:=i) h.2]
  exact propext ⟨fun q=>q.2.imp Nat.succ_le_succ id,fun q=>⟨h.1,q.imp Nat.le_of_succ_le_succ id⟩⟩
theorem pcond_bind {R S:Type} {p:Prop} {x:Option R} {f:R→Option S}:(pcond p x).bind f=pcond p (x.bind f):=by
 unfold pcond
 split<;>rfl
theorem idxA_set {α β:Type} {xs:List α} {r:α} {n:Int} {f:α→Option β}:(IX (xs.set n.toNat r) n).bind f=bif decide (0≤n)&&decide (n.toNat<xs.length) then f r else none:=by
 unfold IX
 by_cases h0:0≤n
 ·by_cases h1:n.toNat<xs.length
  ·rw[if_pos h0,iq h1,decide_eq_true h0,decide_eq_true h1];rfl
  ·rw[if_pos h0,gU (by rw[List.length_set];omega),decide_eq_true h0,decide_eq_false h1];rfl
 ·rw[if_neg h0,decide_eq_false h0];rfl
theorem get_set {α β:Type} {xs:List α} {r:α} {i:Nat} {f:α→Option β}:((xs.set i r)[i]?).bind f=bif decide (i<xs.length) then f r else none:=by
 by_cases h1:i<xs.length
 ·rw[iq h1,decide_eq_true h1];rfl
 ·rw[gU (by rw[List.length_set];omega),decide_eq_false h1];rfl
theorem entAlt_okD {P:Program} {f:FuncId} {e e':Ent} (h:JH P f (rS e)) (h':JH P f (rS e')):JH P f (rS (W7 e e')):=by
 intro args r he
 unfold rS at he
 obtain ⟨hn,he⟩:=lV.1 he
 rw[gE] at he
 obtain ⟨q,hq,he⟩:=he
 unfold W7 at hq
 rw[iw] at hq
 rcases hq with hq|⟨_,hq⟩
 ·exact h args r (lV.2 ⟨hn,by rw[hq];exact he⟩)
 ·exact h' args r (lV.2 ⟨hn,by rw[hq];exact he⟩)
theorem scell_nbset (n:Nat) (xs:List Str) (i:Nat) (r:List AV):Lu n ((mp mo xs).set i r)=(xs.length≤i∨nbL n r):=by
 rw[nbR_set (rows:=mp mo xs) (wj (r:=nq) xs),Me]
def runeB (n:Int):Str:=(Utf8.encode n).data.toList
theorem encode_sb (n:Int):Utf8.encode n=sb (runeB n):=(sb_data _).symm
theorem or_bind_some {α β:Type} {x y:Option α} {g:α→β}:(x.bind fun r=>some (g r)).or (y.bind fun r=>some (g r))=(x.or y).bind fun r=>some (g r):=by cases x<;>rfl
def dLt' {α:Type} (r:Row α):AV→Option (List α)
 | .l5 true sz rows=>bif Ht sz r.sz rows then mapO r.dec rows else none
 |_=>none
theorem sub_lst_tight {sz k:Nat} {rows ug:List (List AV)} (h:Ht sz k rows=true) (hs:Qh rows ug):Sub (.l5 true sz rows) (.l5 true k ug):=by
 intro E v r
 obtain ⟨base,cap,h1,h2,_,h4,h5,h6⟩:=Ql (t:=true) h hs E v r
 obtain ⟨base',cap',h1',_,h3',_⟩:=r
 have e:=h1.symm.trans h1'
 simp only[Value.slice.injEq] at e
 obtain ⟨rfl,_,rfl⟩:=e
 exact ⟨base,cap,h1,h2,fun _=>by rw[h3' rfl,hs.1],h4,h5,h6⟩
def tyLt {α:Type} (r:Row α):Ty (List α) where
 enc xs:= .l5 true r.sz (mp r.enc xs)
 dec _:=dLt' r
 ok H n v xs h:=by
  unfold dLt' at h
  split at h
  ·rename_i sz rows
   cases hs:Ht sz r.sz rows with
   |false=>rw[hs] at h;cases h
   |true=>
    rw[hs,cond_true] at h
    exact Co.sub (sub_lst_tight hs (JG h).1) (wj xs)
  ·cases h
 nb _ xs:=wj xs
theorem tyLt_f {α:Type} {r:Row α}:(∀xs,(tyLt r).enc xs= .l5 true r.sz (mp r.enc xs))∧ ∀H v,(tyLt r).dec H v=dLt' r v:=⟨fun _=>rfl,fun _ _=>rfl⟩
theorem stepN_goto {R:Type} {M:lF R} {p:List Nat} {k:List Kt} {σ:AState} {l:Nat}:DY M p k σ (.goto l)=none:=rfl
attribute [go_sem] entB vwN toImm num num1 num2 firstC immF litF Yv pcond_bind or_true idxA_set get_set stepN_goto scell_nbset encode_sb or_bind_some tyLt_f dLt' Bool.not_true Bool.not_false pcond_no not_nb and_false false_and and_true true_and
end Go.Abs
namespace Go.Abs
theorem Qs (s:Str):(sb s).data.toList=s:=by simp [sb]
theorem args2 {E:Env} {x y:AV} {vs:Array Value} {u v:Value} (h:k6 E [x,y] vs.toList) (hx: ∀w,nO E x w→w=u) (hy: ∀w,nO E y w→w=v):vs= #[u,v]:=by
 obtain ⟨v0,us,hvs,r0,v1,us1,YA,r1,hnil⟩:=h
 have hus1:us1=[]:=hnil
 have e0:=hx _ r0
 have e1:=hy _ r1
 subst hus1 YA e0 e1
 cases vs;simp_all
def byteI (c:Int):UInt8:=c.toNat.toUInt8
theorem fnC_indexByte {P:Program} {f:FuncId} (he:enters P f=true)
 (h: ∀ (s:ByteArray) (c:Int) (w:World),Calls P f #[.string s,.int .u8 c] w fun e w'=>e= .returned (.int .i64 (Lib.indexByte s.data.toList c.toNat.toUInt8))∧w'=w)
 (s:Str) (c:Int):yP P f [nh.enc s,(mK .u8).enc c] (fun v=>v=(mK .i64).enc (Lib.indexByte s (byteI c))):=by
 refine ⟨he,⟨nh.nb 0 _,(mK .u8).nb 0 _,trivial⟩,fun C φ w hP hw hN0 hM vs hr=> ?_⟩
 obtain rfl:=args2 hr (u:= .string (sb s)) (v:= .int .u8 c) (fun _ h=>h) (fun _ h=>h)
 have:=h (sb s) c w
 rw[Qs] at this
 refine this.mono ?_
 rintro e w' ⟨rfl,rfl⟩
 exact ⟨_,_,φ,rfl,rfl,rfl,gR _,fun _ _=>rfl,fun _ _=>rfl,rfl,rfl⟩
theorem fnC_contains {P:Program} {f:FuncId} {g:Nat} (he:enters P f=true) (hk:kdom g 0) (hkv: ∀v,kval g 0 v→ ∃m,v= .int .i64 m)
 (h: ∀ (s sub:ByteArray) (m:Int) (w:World),s.size<4294967281→w.cell? ⟨g,0,none⟩=some (.int .i64 m)→Calls P f #[.string s,.string sub] w fun e w'=>e= .returned (.bool (Lib.contains s.data.toList sub.data.toList))∧w'=w)
 (s sub:Str) (hs:s.length<4294967281):yP P f [nh.enc s,nh.enc sub] (fun v=>v=pQ.enc (Lib.contains s sub)):=by
 refine ⟨he,⟨nh.nb 0 _,nh.nb 0 _,trivial⟩,fun C φ w hP hw hN0 hM vs hr=> ?_⟩
 obtain rfl:=args2 hr (u:= .string (sb s)) (v:= .string (sb sub)) (fun _ h=>h) (fun _ h=>h)
 obtain ⟨v,hv,hkval,_⟩:=C.hk g 0 hk
 obtain ⟨m,rfl⟩:=hkv v hkval
 rw[hw] at hv
 have:=h (sb s) (sb sub) m w (by rw[Qp];exact hs) hv
 rw[Qs,Qs] at this
 refine this.mono ?_
 rintro e w' ⟨rfl,rfl⟩
 exact ⟨_,_,φ,rfl,rfl,rfl,gR _,fun _ _=>rfl,fun _ _=>rfl,rfl,rfl⟩
theorem fnC_cut {P:Program} {f:FuncId} {g:Nat} (he:enters P f=true) (hk:kdom g 0) (hkv: ∀v,kval g 0 v→ ∃m,v= .int .i64 m)
 (h: ∀ (s sep:ByteArray) (m:Int) (w:World),s.size<4294967281→w.cell? ⟨g,0,none⟩=some (.int .i64 m)→
   Calls P f #[.string s,.string sep] w fun e w'=>e= .returned (.tuple #[.string ⟨(Lib.cut s.data.toList sep.data.toList).1.toArray⟩,.string ⟨(Lib.cut s.data.toList sep.data.toList).2.1.toArray⟩,.bool (Lib.cut s.data.toList sep.data.toList).2.2])∧ ∃n,w'=w.drewN n)
 (s sep:Str) (hs:s.length<4294967281):yP P f [nh.enc s,nh.enc sep] (fun v=>v=(ty3 nh nh pQ).enc (Lib.cut s sep)):=by
 refine ⟨he,⟨nh.nb 0 _,nh.nb 0 _,trivial⟩,fun C φ w hP hw hN0 hM vs hr=> ?_⟩
 obtain rfl:=args2 hr (u:= .string (sb s)) (v:= .string (sb sep)) (fun _ h=>h) (fun _ h=>h)
 obtain ⟨v,hv,hkval,_⟩:=C.hk g 0 hk
 obtain ⟨m,rfl⟩:=hkv v hkval
 rw[hw] at hv
 have:=h (sb s) (sb sep) m w (by rw[Qp];exact hs) hv
 rw[Qs,Qs] at this
 refine this.mono ?_
 rintro e w' ⟨rfl,n,rfl⟩
 exact ⟨_,_,φ,rfl,rfl,⟨_,rfl,_,_,rfl,rfl,_,_,rfl,rfl,_,_,rfl,rfl,rfl⟩,gR _,fun _ _=>rfl,fun _ _=>rfl,rfl,rfl⟩
theorem fnC_indexAny {P:Program} {f:FuncId} {t:TypeId} (he:enters P f=true)
 (h: ∀ (s chars:ByteArray) (w:World),2≤chars.size→8<s.size→s.size<4294967281→chars.size<4294967281→(∀ (j:Nat) b,chars.data.toList[j]? =some b→b.toNat<128)→
   Calls P f #[.string s,.string chars] w fun e w'=>e= .returned (.int .i64 (Lib.indexAny s.data.toList chars.data.toList))∧ ∃c d,w'=(w.alloc (.cells c t)).alloc (.cells d t))
 (s chars:Str) (h2:2≤chars.length) (h8:8<s.length) (hs:s.length<4294967281) (hc:chars.length<4294967281) (ha: ∀b∈chars,b.toNat<128):
 yP P f [nh.enc s,nh.enc chars] (fun v=>v=(mK .i64).enc (Lib.indexAny s chars)):=by
 refine ⟨he,⟨nh.nb 0 _,nh.nb 0 _,trivial⟩,fun C φ w hP hw hN0 hM vs hr=> ?_⟩
 obtain rfl:=args2 hr (u:= .string (sb s)) (v:= .string (sb chars)) (fun _ h=>h) (fun _ h=>h)
 have hz: ∀x:Str,(sb x).size=x.length:=Qp
 have:=h (sb s) (sb chars) w (by rw[hz];exact h2) (by rw[hz];exact h8) (by rw[hz];exact hs) (by rw[hz];exact hc) (fun j b hb=>ha b (by rw[Qs] at hb;exact gW hb))
 rw[Qs,Qs] at this
 refine this.mono ?_
 rintro e w' ⟨rfl,c,d,rfl⟩
 have hnew: ∀ (w:World) (o:Obj),w.alloc o=World.more w o:=fun _ _=>rfl
 simp only[hnew]
 have ho: ∀ (c:Array Value) c' t' lo hi,Obj.cells c t= .cells c' t' (lo,hi)→lo=0∧hi=0:=by intro c c' t' lo hi h;cases h;exact ⟨rfl,rfl⟩
 refine ⟨_,_,φ,rfl,rfl,rfl,by simp only[Jy];omega,fun b hb=> ?_,fun x hx=> ?_,rfl,rfl⟩
 ·rw[sN _ _ (by simp;omega),sN _ _ hb]
 ·rw[u6 _ _ (ho d),u6 _ _ (ho c)]
end Go.Abs
namespace Go.Abs
section marks
variable {C:Ctx} {φ:Nat→Value} {σ:AState} {F:Fence} {n:Nat}
theorem Xe (hdf:σ.df=[]): ∀ (ds:List Deferred) (w:World) (fr:Frame) (cs:List Frame),fr.mode= .returning→fr.defers=ds→F.fn fr.fn→F.room (cs.length+1+n)→mA C φ σ {tmps:=fr.tmps,defers:=ds} w→
 ∃w',StepsIn (Machine.fenced C.P F) C.P (lone fr cs w) (lone {fr with defers:=[]} cs w')∧mA C φ σ {tmps:=fr.tmps,defers:=[]} w'
 |[],w,fr,cs,hm,hd,hb,hr,S=>⟨w,by rw[show ({fr with defers:=[]}:Frame)=fr by rw[←hd]];exact StepsIn.refl _,S⟩
 |d::ds,w,fr,cs,hm,hd,hb,hr,S=>by
  have hmk:VX d=true:=by
   have:=S.defers.2.2
   rw[hdf] at this
   have hnil:(d::ds).filter (fun d=> !VX d)=[]:=this
   rw[List.filter_eq_nil_iff] at hnil
   simpa using hnil d (List.mem_cons_self)
  obtain ⟨D,hD,_⟩:=S.defers.2.1 d (List.mem_cons_self) hmk
  subst hD
  obtain ⟨h1,S'⟩:=S.Wb
  have hrun:fr.mode≠ .run:=by rw[hm];simp
  have hstep:=step_collected (P:=C.P) (cs:=cs) hrun hd rfl (run_takeDeferred h1)
  have i1:(lone fr cs w).fenced C.P F:=fenced_out hb hr hrun hd (fun g hg=>by simp [Target.leads] at hg)
  obtain ⟨w',hs,S2⟩:=Xe hdf ds (w.putObj D (.deferred none)) {fr with defers:=[]++ds} cs hm rfl hb hr S'
  exact ⟨w',.head i1 hstep hs,S2⟩
end marks
def Ms (C:Ctx) (fn:Func) (c₀:Frame) (cs:List Frame) (R:Ending→FrameMode→World→Prop):Exit→Act→List Frame→World→Prop
 | .normal,a,cs',w| .ret,a,cs',w=> ∃u',cs'={c₀ with mode:=u'}::cs∧ ∃φ σ,mA C φ σ a w∧σ.df=[]∧
     ∀w',mA C φ σ {tmps:=a.tmps,defers:=[]} w'→ ∃v,(results fn a.tmps).run C.P w'= .ok v w'∧R (.returned v) u' w'
 |_,_,_,_=>False
theorem NK {C:Ctx} {F:Fence} {n:Nat} {f:FuncId} {fn:Func} {c:Code} {args:Array Value} {u:FrameMode} {w:World} {R:Ending→FrameMode→World→Prop}
 (hf:C.P.funcs[f]? =some fn) (hb:fn.body=some c) (hF:F.fn f)
 (h: ∀ (c₀:Frame) (cs:List Frame),c₀.mode=u→c.wpSIn F n C.P (Ms C fn c₀ cs R) {tmps:=args++gM (fn.ntmps-args.size) undef,defers:=[]} (c₀::cs) w):
 CallsDIn F n C.P f args u w R:=by
 refine ⟨hF,fun c₀ cs hu hroom=> ?_⟩
 let b:Frame:={(default:Frame) with fn:=f,kind:= .deferred,roundOf:=none}
 have henter:Frame.enter C.P f args .deferred=b.atR {tmps:=args++gM (fn.ntmps-args.size) undef,defers:=[]} [.code c]:=by
  simp [Frame.enter,Frame.atR,hf,hb,b]
 obtain ⟨e,a',cs',w',hl,hq,harr⟩:=h c₀ cs hu b [] rfl rfl hF hroom
 rw[←henter] at harr
 cases e with
 |normal=>
  obtain ⟨u',rfl,φ,σ,S,hdf,hw⟩:=hq
  obtain ⟨w2,hs,S2⟩:=Xe (F:=F) (n:=n) hdf a'.defers w' {b.atR a' [] with mode:= .returning} ({c₀ with mode:=u'}::cs) rfl rfl hF hroom S
  obtain ⟨v,hr,hR⟩:=hw w2 S2
  exact ⟨.returned v,u',w2,_,hR,StepsIn.trans (StepsIn.trans harr (.one (fenced_calm (fr:=b.atR a' []) hF hroom rfl) (stepR_end rfl))) hs,rfl,rfl,rfl,rfl,fn,hf,hr⟩
 |ret=>
  obtain ⟨u',rfl,φ,σ,S,hdf,hw⟩:=hq
  obtain ⟨todo,hs0⟩:=harr.1 rfl
  obtain ⟨w2,hs,S2⟩:=Xe (F:=F) (n:=n) hdf a'.defers w' {b.atR a' todo with mode:= .returning} ({c₀ with mode:=u'}::cs) rfl rfl hF hroom S
  obtain ⟨v,hr,hR⟩:=hw w2 S2
  exact ⟨.returned v,u',w2,_,hR,StepsIn.trans hs0 hs,rfl,rfl,rfl,rfl,fn,hf,hr⟩
 |panic chain=>exact hq.elim
 |exit id=>exact hq.elim
 |goto l=>exact hq.elim
 |outgrown=>exact hq.elim
def Qt (P:Program) (ops:Array Oper):List Oper→(AState→Prop)→AState→Prop
 |[],K,σ=>K σ
 |o::rest,K,σ=>oR ops o σ=some true∧ ∃e,lA P σ o.op=some e∧e.pre∧Qt P ops rest K (σ.app o.dst e)
theorem Of {C:Ctx} {ops:Array Oper} {K:AState→Prop} {cs:List Frame} {Q:Exit→Act→List Frame→World→Prop}
 (hQ: ∀φ σ a w,mA C φ σ a w→K σ→Q .normal a cs w): ∀ (rest:List Oper) (k:Nat),ops.toList.drop k=rest→ ∀ (φ:Nat→Value) (σ:AState) (a:Act) (w:World),
 Qt C.P ops rest K σ→mA C φ σ a w→wpOpsSIn Fence.wide 0 C.P ops Q (iD k rest.length) a cs w
 |[],k,_,φ,σ,a,w,h,S=>hQ φ σ a w S h
 |o::rest,k,hk,φ,σ,a,w,h,S=>by
  have ho:ops[k]? =some o:=by
   have:=congrArg (fun l:List Oper=>l[0]?) hk
   simpa using this
  have wR:ops.toList.drop (k+1)=rest:=by
   have:=congrArg List.tail hk
   simpa [List.tail_drop] using this
  obtain ⟨hw,e,he,hp,hr⟩:=h
  simp only[List.length_cons,List.range'_succ,wpOpsSIn,ho]
  refine ⟨fun _ _=>trivial,?_⟩
  rw[Az S hw,if_pos rfl]
  obtain ⟨m,v,w',φ',hrun,hn,S'⟩:=Nx S he hp
  rw[hrun]
  rcases hn with rfl|⟨rfl,rfl⟩
  ·exact Of hQ rest (k+1) wR φ' _ _ w' hr S'
  ·exact Of hQ rest (k+1) wR φ' _ _ w' hr S'
def isRec (o:Oper):Bool:=match o.op with
 | .call {callee:= .builtin .recover,args,..}=>args.isEmpty&&o.guard.isNone
 |_=>false
def dPost (P:Program) (rs:List ResultVar) (V:ud→List AObj→Prop):mX→AState→Prop
 | .normal,σ=>σ.df=[]∧W0 P rs V none σ
 | .ret,σ=>σ.df=[]∧W0 P rs V none σ
 |_,_=>False
theorem Va {C:Ctx} {φ:Nat→Value} {w:World} {f:FuncId} {fn:Func} {id:Nat} {ops:Array Oper} {y:Code} {o:Oper} {rest:List Oper} {args:List AV} {x:AV} {H:List AObj} {V:ud→List AObj→Prop} {u u':FrameMode} {v:Value} {Y2:Array Value}
 (hf:C.P.funcs[f]? =some fn) (hb:fn.body=some (.seq (.region id ops false) y)) (So:ops.toList=o::rest) (N6:isRec o=true)
 (hmode: ∀ (c₀:Frame) (cs:List Frame),c₀.mode=u→recoverD (c₀::cs)=some (v,{c₀ with mode:=u'}::cs)∨(recoverD (c₀::cs)=none∧v= .nilIface∧u'=u))
 {n:Nat} (hn:fn.ntmps=n) {rs:List ResultVar} (Oa:fn.results=rs.toArray) (hN0:C.N0=H.length) (HS:HSim C φ H w) (hra:k6 (C.env φ H w) args Y2.toList) (hrx:nO (C.env φ H w) x v)
 (h:Qt C.P ops rest (fun σ1=> ∃σ2,Gk σ1 σ2∧XQ C.P y (dPost C.P rs V) σ2) (AState.put {slots:=args++gH (n-args.length) .any,heap:=H,low:=H.length} o.dst x)):
 CallsDIn Fence.wide 0 C.P f Y2 u w (fun e u2 w'=> ∃r,e= .returned r∧u2=u'∧ ∃o φ' H',V o H'∧mA C φ' {slots:=[],heap:=H',low:=H.length} {tmps:= #[],defers:=[]} w'∧o.rep (C.env φ' H' w') (.returned r)):=by
 have hsz:Y2.size=args.length:=by have:=hra.length;simpa using this
 have S:mA C φ {slots:=args++gH (n-args.length) .any,heap:=H,low:=H.length} {tmps:=Y2++gM (fn.ntmps-Y2.size) undef,defers:=[]} w:=by
  refine {HS with slots:= ?_,defers:=rB.nil}
  simp only[gY,ir]
  refine hra.append ?_
  rw[hsz,hn]
  have:=k6.C1 (E:=C.env φ H w) (gH (n-args.length) undef)
  simpa using this
 have EF: ∀ {φ':Nat→Value} {σ':AState} {a'':Act} {w'':World},mA C φ' σ' a'' w''→σ'.low=H.length:=fun S'=>by rw[←S'.low.1];exact hN0
 refine NK hf hb trivial ?_
 intro c₀ cs hu
 refine wpSIn_seq (wpSIn_region ?_)
 have hsize:gK ops.size=0::iD 1 rest.length:=by
  have:ops.size=rest.length+1:=by rw[←Array.length_toList,So];rfl
  rw[this,List.range_eq_range',List.range'_succ]
 have ho:ops[0]? =some o:=by
  have:ops.toList[0]? =some o:=by rw[So];rfl
  simpa using this
 rw[hsize]
 simp only[wpOpsSIn,ho]
 refine ⟨fun _ _=>trivial,?_⟩
 have hrun:(execOp (Act.eval {tmps:=Y2++gM (fn.ntmps-Y2.size) undef,defers:=[]}) o).run C.P w= .ok .recover w∧o.guard=none:=by
  unfold isRec at N6
  split at N6
  ·rename_i hh
   rw[gL] at N6
   obtain ⟨h1,h2⟩:=N6
   refine ⟨?_,by simpa using h2⟩
   simp only[Array.isEmpty_iff] at h1
   subst h1
   simp [execOp,hh,resolve,invoke,builtin]
  ·cases N6
 have hw:Region.wanted o (yielded ops (Y2++gM (fn.ntmps-Y2.size) undef))=true:=by
  unfold Region.wanted;rw[hrun.2]
 rw[hw,if_pos rfl,hrun.1]
 have S1:=S.put o.dst hrx
 have key:wpOpsSIn Fence.wide 0 C.P ops (Exit.thenS (y.wpSIn Fence.wide 0 C.P (Ms C fn c₀ cs (fun e u2 w'=> ∃r,e= .returned r∧u2=u'∧ ∃o φ' H',V o H'∧mA C φ' {slots:=[],heap:=H',low:=H.length} {tmps:= #[],defers:=[]} w'∧o.rep (C.env φ' H' w') (.returned r))))
  (Ms C fn c₀ cs (fun e u2 w'=> ∃r,e= .returned r∧u2=u'∧ ∃o φ' H',V o H'∧mA C φ' {slots:=[],heap:=H',low:=H.length} {tmps:= #[],defers:=[]} w'∧o.rep (C.env φ' H' w') (.returned r)))) (iD 1 rest.length)
  (Act.put {tmps:=Y2++gM (fn.ntmps-Y2.size) undef,defers:=[]} o.dst v) ({c₀ with mode:=u'}::cs) w:=by
  refine Of (K:=fun σ1=> ∃σ2,Gk σ1 σ2∧XQ C.P y (dPost C.P rs V) σ2) ?_ rest 1 (by rw[So];rfl) φ _ _ w h S1
  rintro φ1 σ1 a1 w1 S1 ⟨σ2,himp,hy⟩
  obtain ⟨φ2,S2⟩:=himp C φ1 a1 w1 S1
  refine wpSIn_of_wpIn rfl (wpIn_mono (wT (ro:=none) y _ φ2 σ2 a1 w1 (.inl rfl) hy S2) ?_)
  intro e a' w' hq
  have fin: ∀φ' σ',mA C φ' σ' a' w'→σ'.df=[]∧W0 C.P rs V none σ'→Ms C fn c₀ cs (fun e u2 w'=> ∃r,e= .returned r∧u2=u'∧ ∃o φ' H',V o H'∧mA C φ' {slots:=[],heap:=H',low:=H.length} {tmps:= #[],defers:=[]} w'∧o.rep (C.env φ' H' w') (.returned r)) .normal a' ({c₀ with mode:=u'}::cs) w':=by
   rintro φ' σ' S' ⟨hdf,xr,hx,r,H',hex,hV'⟩
   refine ⟨_,rfl,φ',σ',S',hdf,fun w'' S''=> ?_⟩
   obtain ⟨vv,hv,rv⟩:=J9 (fn:=fn) S'' (by rw[Oa];exact hx)
   obtain ⟨φ3,S3,hr3⟩:=hex C φ' _ w'' S'' vv rv
   rw[EF S''] at S3
   exact ⟨vv,hv,vv,rfl,rfl,.ret r,φ3,H',hV',S3,hr3⟩
  cases e with
  |normal=>obtain ⟨φ',σ',S',hq⟩:=hq;exact fin φ' σ' S' hq
  |ret=>obtain ⟨φ',σ',S',hq⟩:=hq;exact fin φ' σ' S' hq
  |exit id=>obtain ⟨_,_,_,hq⟩:=hq;exact hq.elim
  |goto l=>obtain ⟨_,_,_,hq⟩:=hq;exact hq.elim
  |panic chain=>obtain ⟨_,_,_,_,_,hq,_⟩:=hq;exact hq.elim
  |outgrown=>exact hq.elim
 rcases hmode c₀ cs hu with hm|⟨hm,hv,hu'⟩
 ·simp only[hm]
  exact key
 ·simp only[hm]
  subst hv hu'
  rw[show ({c₀ with mode:=u'}:Frame)=c₀ by rw[←hu]] at key
  exact key
theorem XZ {P:Program} {f:FuncId} {fn:Func} {id:Nat} {ops:Array Oper} {y:Code} {o:Oper} {rest:List Oper} {args:List AV} {x:AV} {H:List AObj} {V:ud→List AObj→Prop} (hf:P.funcs[f]? =some fn) (hb:fn.body=some (.seq (.region id ops false) y)) (So:ops.toList=o::rest) (N6:isRec o=true)
 (hnb:nbL H.length (args++[x])) (Fc: ∀x∈H,objNb H.length x) {n:Nat} (hn:fn.ntmps=n) {rs:List ResultVar} (Oa:fn.results=rs.toArray)
 (h:Qt P ops rest (fun σ1=> ∃σ2,Gk σ1 σ2∧XQ P y (dPost P rs V) σ2) (AState.put {slots:=args++gH (n-args.length) .any,heap:=H,low:=H.length} o.dst x)):Y0 P (TPan P f) (args++[x]) H V:=by
 refine ⟨hnb,Fc,fun C φ w hP h0 hN0 hφ0 hM HS vs hr Y2 v hvs=> ?_⟩
 subst hP
 subst hvs
 have hr':k6 (C.env φ H w) args Y2.toList∧nO (C.env φ H w) x v:=by
  rw[Array.toList_push] at hr
  have hl:Y2.toList.length=args.length:=by
   have:=hr.length
   simp at this
   simpa using this
  have h1:=hr.take args.length
  have h2:=hr.drop args.length
  rw[gO rfl,gO hl] at h1
  rw[gP rfl,gP hl] at h2
  obtain ⟨u,us,he,r1,_⟩:=h2
  simp only[gX] at he
  obtain ⟨rfl,_⟩:=he
  exact ⟨h1,r1⟩
 refine vV (Va (u':= .panicking [{v,recovered:=true}]) hf hb So N6 (fun c₀ cs hu=> .inl (by simp only[recoverD,hu])) hn Oa hN0 HS hr'.1 hr'.2 h) ?_
 rintro e u' w' ⟨r,rfl,rfl,wR⟩
 exact ⟨r,rfl,.inl ⟨rfl,wR⟩⟩
theorem X1 {P:Program} {f:FuncId} {fn:Func} {id:Nat} {ops:Array Oper} {y:Code} {o:Oper} {rest:List Oper} {args:List AV} {H:List AObj} {V:ud→List AObj→Prop} (hf:P.funcs[f]? =some fn) (hb:fn.body=some (.seq (.region id ops false) y)) (So:ops.toList=o::rest) (N6:isRec o=true)
 (hnb:nbL H.length args) (Fc: ∀x∈H,objNb H.length x) {n:Nat} (hn:fn.ntmps=n) {rs:List ResultVar} (Oa:fn.results=rs.toArray)
 (h:Qt P ops rest (fun σ1=> ∃σ2,Gk σ1 σ2∧XQ P y (dPost P rs V) σ2) (AState.put {slots:=args++gH (n-args.length) .any,heap:=H,low:=H.length} o.dst (.raw .nilIface))):Y0 P (TRet P f) args H V:=by
 refine ⟨hnb,Fc,fun C φ w hP h0 hN0 hφ0 hM HS vs hr=> ?_⟩
 subst hP
 refine vV (Va (u':= .returning) (x:= .raw .nilIface) (v:= .nilIface) hf hb So N6 (fun c₀ cs hu=> .inr ⟨by simp only[recoverD,hu],rfl,rfl⟩) hn Oa hN0 HS hr rfl h) ?_
 rintro e u' w' ⟨r,rfl,rfl,wR⟩
 exact ⟨r,rfl,rfl,wR⟩
section run
variable {R:Type} {M:lF R}
theorem XG {ops:Array Oper} {K:AState→Prop}: ∀ (rest:List Oper) (σ:AState) (e:mX) (σ':AState),rest.all (fun o=>Y9 o.op&&(match o.op with| .call _=>false| .defer _=>false|_=>o.guard.isNone))=true→tT M ops rest σ=some (e,σ')→K σ'→Qt M.P ops rest K σ
 |[],σ,e,σ',_,h,hK=>by simp only[tT,gF,gN] at h;obtain ⟨_,rfl⟩:=h;exact hK
 |o::rest,σ,e,σ',hc,h,hK=>by
  rw[List.all_cons,gL,gL] at hc
  obtain ⟨⟨h1,h2⟩,h3⟩:=hc
  have hg:o.guard=none:=by
   split at h2
   ·cases h2
   ·cases h2
   ·simpa using h2
  have hw:oR ops o σ=some true:=by unfold oR;rw[hg]
  have hgs:rC ops o true σ=σ:=gset_eq hw
  simp only[tT,hw,cond_true,hgs,Sj h1,calm_pan h1] at h
  have hy:yieldOf σ o.op=none:=by
   unfold yieldOf
   split
   ·rename_i hh;rw[hh] at h2;cases h2
   ·rfl
  have hd:Ck σ o.op=none:=by
   unfold Ck
   split
   ·rename_i hh;rw[hh] at h2;cases h2
   ·rfl
  simp only[hy,hd] at h
  cases he:lA M.P σ o.op with
  |none=>simp only[he] at h;cases h
  |some e'=>
   simp only[he] at h
   rw[lV] at h
   exact ⟨hw,e',he,h.1,XG rest _ e σ' h3 h.2 hK⟩
def UA (rest:List Oper):Bool:=rest.all fun o=>Y9 o.op&&(match o.op with| .call _=>false| .defer _=>false|_=>o.guard.isNone)
theorem rec_run {id:Nat} {ops:Array Oper} {y:Code} {rest:List Oper} {σ:AState} {Q:mX→AState→Prop} {r:R} (G:Good M) (hbody:M.body= .seq (.region id ops false) y) (XH:UA rest=true)
 (hout: ∀σ,M.out σ=some r→Q .normal σ∧Q .ret σ) (h:run M [.ops ops rest,.cut [1],.at [1]] σ=some r) (hP: ∀x σ',M.pJ x σ'=none:=by intros;rfl):Qt M.P ops rest (fun σ1=> ∃σ2,Gk σ1 σ2∧XQ M.P y Q σ2) σ:=by
 have h':fin M [.ops ops rest,.cut [1],.at [1]] .normal σ=some r:=h
 rw[oF (by simp)] at h'
 simp only[yY] at h'
 cases hx:tT M ops rest σ with
 |none=>simp only[hx] at h';cases h'
 |some q=>
  obtain ⟨e,σ1⟩:=q
  have hnorm:e= .normal:=Qk rest σ e σ1 (by
   unfold UA at XH
   rw[List.all_eq_true] at XH ⊢
   intro o ho
   have:=XH o ho
   rw[gL] at this
   exact this.1) hx
  subst hnorm
  simp only[hx] at h'
  refine XG rest σ _ σ1 XH hx ?_
  rw[oF (by simp)] at h'
  simp only[yY] at h'
  cases hcut:M.cut [1] σ1 with
  |none=>simp only[hcut,Option.map_none] at h';cases h'
  |some σ2=>
   simp only[hcut,Option.map_some] at h'
   refine ⟨σ2,G.cut _ _ _ hcut,?_⟩
   have h1:sub [1] M.body=y:=by rw[hbody];rfl
   rw[oF (by simp)] at h'
   simp only[yY,h1] at h'
   cases Mg:exec M y [1] σ2 with
   |none=>simp only[Mg] at h';cases h'
   |some q=>
    obtain ⟨e2,σ3⟩:=q
    simp only[Mg] at h'
    refine yX G _ [1] _ _ e2 σ3 Mg ?_
    cases e2 with
    |normal=>exact (hout σ3 h').1
    |ret=>exact (hout σ3 h').2
    |panic x=>simp only[fin,hP] at h';cases h'
    |_=>simp only[fin] at h';cases h'
end run
end Go.Abs
namespace Go.Abs
inductive PR (α β:Type) where
 |ok (x:α)
 |pn (y:β)
def ZX {α β γ:Type} (q:PR α β) (f:α→γ) (g:β→γ):γ:=match q with
 | .ok x=>f x
 | .pn y=>g y
theorem prc_ok {α β γ:Type} {x:α} {f:α→γ} {g:β→γ}:ZX (.ok x) f g=f x:=rfl
theorem prc_pn {α β γ:Type} {y:β} {f:α→γ} {g:β→γ}:ZX (.pn y) f g=g y:=rfl
theorem bind_prc {α β γ δ:Type} {q:PR α β} {f:α→Option γ} {g:β→Option γ} {h:γ→Option δ}:(ZX q f g).bind h=ZX q (fun x=>(f x).bind h) (fun y=>(g y).bind h):=by cases q<;>rfl
theorem map_prc {α β γ δ:Type} {q:PR α β} {f:α→Option γ} {g:β→Option γ} {h:γ→δ}:(ZX q f g).map h=ZX q (fun x=>(f x).map h) (fun y=>(g y).map h):=by cases q<;>rfl
abbrev X4:=List AV→List AObj→Option (ud×List AObj)
section entX1
variable {α β ρ:Type}
def entX1 (pos:List Loc) (os:OL β) (as:AL α) (sz:Nat) (en:ρ→ud×List AObj) (F:β→α→Option ρ):X4:=fun args H=>
 (locs args H pos []).bind fun ρ=>bif nodupB ρ&&(decide (os.need≤ρ.length)&&(decide (as.need≤ρ.length)&&decide (ρ.length≤sz))) then
   (mapO (XC H) ρ).bind fun xs=>(os.dec ρ (Wm xs) H xs).bind fun b=>(as.dec ρ (Wm xs) H args).bind fun a=>(F b a).bind fun q=>
     some ((en q).1.ren (mO ρ H.length),tw ρ H (en q).2) else none
theorem entX1_ok {P:Program} {T:Value→World→Array Value→(Ending→World→Prop)→Prop} (hT:Sg T) (hz: ∀ (φ φ':Nat→Value) (k k':Nat),T (φ k)=T (φ' k')) {pos:List Loc} {os:OL β} {as:AL α} {sz:Nat} {en:ρ→ud×List AObj} {F:β→α→Option ρ} (hsz: ∀q,sz≤(en q).2.length)
 {args:List AV} {σ:AState} {o:ud} {H':List AObj} (he:entX1 pos os as sz en F args σ.heap=some (o,H')):
 ∃b a q,F b a=some q∧(Y0 P T (as.enc (os.lens b) a) (os.enc (os.lens b) b) (fun o H'=>o=(en q).1∧H'=(en q).2)→NF P T 0 args σ (fun o' C6=>o'=o∧C6=H')):=by
 unfold entX1 at he
 simp only[gE] at he
 obtain ⟨ρ,hρ,he⟩:=he
 cases hc:(nodupB ρ&&(decide (os.need≤ρ.length)&&(decide (as.need≤ρ.length)&&decide (ρ.length≤sz)))) with
 |false=>simp [hc] at he
 |true=>
  simp only[hc,cond_true,gE,gF,gN] at he
  obtain ⟨xs,hxs,b,hb,a,ha,q,hq,rfl,rfl⟩:=he
  refine ⟨b,a,q,hq,fun hfn=> ?_⟩
  simp only[gL,decide_eq_true_eq] at hc
  obtain ⟨hnd,n1,n2,n3⟩:=hc
  obtain ⟨h1,h2⟩:=Pg hxs
  have hcov: ∀m,m≤ρ.length→Cov ρ m σ.heap.length:=by
   intro m hm k hk
   have hk':k<ρ.length:=by omega
   obtain ⟨x,hx,hx'⟩:=h2 k _ (gJ hk')
   exact ⟨_,gJ hk',(gG.1 hx').1⟩
  have hL:os.lens b=Wm xs:=funext fun k=>os.Xb ρ _ _ _ _ hb k
  obtain ⟨h3,h4⟩:=os.ok ρ _ σ.heap σ.heap.length _ _ (hcov _ n1) hb
  have Sa: ∀l,l<ρ.length→Wl ρ l=mO ρ σ.heap.length l:=fun l hl=>by unfold mO Wl;rw[if_pos hl]
  rw[←hL] at ha h4
  refine callXT hT hfn (Mf hnd) (by rw[h1,h3,os.sz]) (iC n3 (hsz q)) (fun φ=>hz _ _ _ _) ?_ ?_
  ·intro i k hi
   obtain ⟨x,hx,hx'⟩:=h2 i k hi
   have hlt:i<(os.enc (os.lens b) b).length:=by rw[os.sz,←h3,←h1];exact (gG.1 hi).1
   have hy:=gJ hlt
   obtain ⟨x2,Mg,hcc⟩:=h4 i _ hy
   rw[hx] at Mg;cases Mg
   refine ⟨x,_,hx',hy,?_⟩
   rw[←objRen_congr (n:=os.need) (fun l hl=>Sa l (by omega)) _ (os.nb _ _ _ (gW hy))]
   exact hcc
  ·rw[←Cn (n:=as.need) (fun l hl=>Sa l (by omega)) _ (as.nb _ _)]
   exact as.ok ρ _ σ.heap _ _ _ (hcov _ n2) ha
end entX1
section entXP
variable {α β α1 β1 α2 β2:Type}
def pkO (pk:Bool) (x:AV):ud:=match pk with
 |true=> .panic x
 |false=> .ret x
theorem pkO_f {x:AV}:pkO true x= .panic x∧pkO false x= .ret x:=⟨rfl,rfl⟩
theorem pkO_ren {pk:Bool} {x:AV} {τ:Nat→Nat}:(pkO pk x).ren τ=pkO pk (x.ren τ):=by cases pk<;>rfl
def enP (pk:Bool) (vS:OL β1) (C7:AL α1) (FG:OL β2) (M8:AL α2) (q:PR (β1×α1) (β2×α2)):ud×List AObj:=
 ZX q (fun r=>(.ret (s9 (C7.enc (vS.lens r.1) r.2)),vS.enc (vS.lens r.1) r.1)) (fun r=>(pkO pk (s9 (M8.enc (FG.lens r.1) r.2)),FG.enc (FG.lens r.1) r.1))
theorem enP_sz {pk:Bool} {vS:OL β1} {C7:AL α1} {FG:OL β2} {M8:AL α2} (q:PR (β1×α1) (β2×α2)):min vS.size FG.size≤(enP pk vS C7 FG M8 q).2.length:=by
 cases q with
 |ok r=>simp only[enP,ZX,vS.sz];exact Nat.min_le_left _ _
 |pn r=>simp only[enP,ZX,FG.sz];exact Nat.min_le_right _ _
def entXP (pk:Bool) (pos:List Loc) (os:OL β) (as:AL α) (vS:OL β1) (C7:AL α1) (FG:OL β2) (M8:AL α2) (F:β→α→Option (PR (β1×α1) (β2×α2))):X4:=fun args H=>
 (locs args H pos []).bind fun ρ=>bif nodupB ρ&&(decide (os.need≤ρ.length)&&(decide (as.need≤ρ.length)&&(decide (ρ.length≤vS.size)&&decide (ρ.length≤FG.size)))) then
   (mapO (XC H) ρ).bind fun xs=>(os.dec ρ (Wm xs) H xs).bind fun b=>(as.dec ρ (Wm xs) H args).bind fun a=>(F b a).bind fun q=>
     ZX q (fun r=>some (.ret ((s9 (C7.enc (vS.lens r.1) r.2)).ren (mO ρ H.length)),tw ρ H (vS.enc (vS.lens r.1) r.1)))
      (fun r=>some (pkO pk ((s9 (M8.enc (FG.lens r.1) r.2)).ren (mO ρ H.length)),tw ρ H (FG.enc (FG.lens r.1) r.1))) else none
theorem entXP_eq {pk:Bool} {pos:List Loc} {os:OL β} {as:AL α} {vS:OL β1} {C7:AL α1} {FG:OL β2} {M8:AL α2} {F:β→α→Option (PR (β1×α1) (β2×α2))} {args:List AV} {H:List AObj}:
 entXP pk pos os as vS C7 FG M8 F args H=entX1 pos os as (min vS.size FG.size) (enP pk vS C7 FG M8) F args H:=by
 unfold entXP entX1
 congr 1
 funext ρ
 have:decide (ρ.length≤min vS.size FG.size)=(decide (ρ.length≤vS.size)&&decide (ρ.length≤FG.size)):=by
  rw[ia]
  simp only[decide_eq_true_eq,gL]
  exact Nat.le_min
 rw[this]
 congr 1
 congr 1
 funext xs
 congr 1
 funext b
 congr 1
 funext a
 congr 1
 funext q
 cases q with
 |ok r=>rfl
 |pn r=>simp only[ZX,enP,pkO_ren]
def EntPOK (P:Program) (f:FuncId) (e:X4):Prop:= ∀args σ o H',e args σ.heap=some (o,H')→yO P f args σ (fun o' C6=>o'=o∧C6=H')
def FnP (P:Program) (f:FuncId) (args:List AV) (H:List AObj) (x:ud×List AObj):Prop:=ZW P f args H (fun o H'=>o=x.1∧H'=x.2)
theorem ld {P:Program} {f:FuncId} {pk:Bool} {pos:List Loc} {os:OL β} {as:AL α} {vS:OL β1} {C7:AL α1} {FG:OL β2} {M8:AL α2} {F:β→α→Option (PR (β1×α1) (β2×α2))}
 (h: ∀b a r,F b a=some r→FnP P f (as.enc (os.lens b) a) (os.enc (os.lens b) b) (enP pk vS C7 FG M8 r)):EntPOK P f (entXP pk pos os as vS C7 FG M8 F):=by
 intro args σ o H' he
 rw[entXP_eq] at he
 obtain ⟨b,a,q,hq,ya⟩:=entX1_ok (P:=P) (T:=fun _ w vs R=>Calls P f vs w R) VA (fun _ _ _ _=>rfl) enP_sz he
 exact ⟨(h b a q hq).1,ya (h b a q hq).2⟩
theorem Wq: ∀ (ρ:List Nat) (xs H:List AObj),l7 H (ρ.zip xs)=qb H ρ xs
 |[],_,_=>by simp [l7,qb]
 |_::_,[],_=>by simp [l7,qb]
 |l::ρ,x::xs,H=>by
  simp only[List.zip_cons_cons,l7,qb]
  exact Wq ρ xs _
def GK (pos:List Loc) (os:OL β) (as:AL α) (vS:OL β1) (C7:AL α1) (FG:OL β2) (M8:AL α2) (F:β→α→Option (PR (β1×α1) (β2×α2))):List AV→List AObj→Option CO:=fun args H=>
 (locs args H pos []).bind fun ρ=>bif nodupB ρ&&(decide (os.need≤ρ.length)&&(decide (as.need≤ρ.length)&&(decide (ρ.length≤vS.size)&&decide (ρ.length≤FG.size)))) then
   (mapO (XC H) ρ).bind fun xs=>(os.dec ρ (Wm xs) H xs).bind fun b=>(as.dec ρ (Wm xs) H args).bind fun a=>(F b a).bind fun q=>
     ZX q (fun r=>some (.ret {val:=(s9 (C7.enc (vS.lens r.1) r.2)).ren (mO ρ H.length),rd:=ρ,up:=ρ.zip ((vS.enc (vS.lens r.1) r.1).map (AObj.ren (mO ρ H.length))),nw:=((vS.enc (vS.lens r.1) r.1).drop ρ.length).map (AObj.ren (mO ρ H.length)),whole:=true}))
      (fun r=>some (.pan ((s9 (M8.enc (FG.lens r.1) r.2)).ren (mO ρ H.length)) (tw ρ H (FG.enc (FG.lens r.1) r.1)))) else none
def Xf (P:Program) (f:FuncId) (e:List AV→List AObj→Option CO):Prop:= ∀args (σ:AState),(∀ef,e args σ.heap=some (.ret ef)→DU P f args σ ef)∧ ∀x H',e args σ.heap=some (.pan x H')→PanC P f args σ.heap x H'
theorem yZ {P:Program} {f:FuncId} {pos:List Loc} {os:OL β} {as:AL α} {vS:OL β1} {C7:AL α1} {FG:OL β2} {M8:AL α2} {F:β→α→Option (PR (β1×α1) (β2×α2))}
 (h: ∀b a r,F b a=some r→FnP P f (as.enc (os.lens b) a) (os.enc (os.lens b) b) (enP true vS C7 FG M8 r)):Xf P f (GK pos os as vS C7 FG M8 F):=by
 have hP:=ld (pos:=pos) h
 intro args σ
 have key: ∀c,GK pos os as vS C7 FG M8 F args σ.heap=some c→ ∃ρ,(∀l∈ρ,l<σ.heap.length)∧((∃ef,c= .ret ef∧(ef.rd=ρ∧ef.whole=true∧ ∀l∈ef.up.map (·.1),l∈ρ)∧entXP true pos os as vS C7 FG M8 F args σ.heap=some (.ret ef.val,l7 σ.heap ef.up++ef.nw))∨ ∃x H',c= .pan x H'∧entXP true pos os as vS C7 FG M8 F args σ.heap=some (.panic x,H')):=by
  intro c he
  unfold GK at he
  simp only[gE] at he
  obtain ⟨ρ,hρ,he⟩:=he
  cases hc:(nodupB ρ&&(decide (os.need≤ρ.length)&&(decide (as.need≤ρ.length)&&(decide (ρ.length≤vS.size)&&decide (ρ.length≤FG.size))))) with
  |false=>simp [hc] at he
  |true=>
   simp only[hc,cond_true,gE] at he
   obtain ⟨xs,hxs,b,hb,a,ha,q,hq,he⟩:=he
   refine ⟨ρ,fun l hl=> ?_,?_⟩
   ·obtain ⟨i,hi⟩:=gV hl
    obtain ⟨x,_,hx'⟩:=(Pg hxs).2 i l hi
    exact (gG.1 hx').1
   ·have hbase:entXP true pos os as vS C7 FG M8 F args σ.heap=ZX q (fun r=>some (.ret ((s9 (C7.enc (vS.lens r.1) r.2)).ren (mO ρ σ.heap.length)),tw ρ σ.heap (vS.enc (vS.lens r.1) r.1)))
     (fun r=>some (.panic ((s9 (M8.enc (FG.lens r.1) r.2)).ren (mO ρ σ.heap.length)),tw ρ σ.heap (FG.enc (FG.lens r.1) r.1))):=by
     unfold entXP
     simp only[hρ,Option.bind_some,hc,cond_true,hxs,hb,ha,hq,pkO]
    cases q with
    |ok r=>
     simp only[ZX,gF] at he
     subst he
     left
     refine ⟨_,rfl,⟨rfl,rfl,fun l hl=> ?_⟩,?_⟩
     ·simp only[iz] at hl
      obtain ⟨p,hp,rfl⟩:=hl
      exact (List.of_mem_zip hp).1
     ·rw[hbase]
      simp only[ZX,Wq]
      rfl
    |pn r=>
     simp only[ZX,gF] at he
     subst he
     right
     exact ⟨_,_,rfl,hbase⟩
 refine ⟨fun ef he=> ?_,fun x H' he=> ?_⟩
 ·obtain ⟨ρ,hlt,⟨ef',hc,⟨h1,h2,h3⟩,hx⟩|⟨_,_,hc,_⟩⟩:=key _ he
  ·simp only[CO.ret.injEq] at hc
   subst hc
   refine ⟨⟨by rw[h1];exact hlt,by rw[h1];exact h3⟩,fun σ' _ _ hw=> ?_⟩
   have hh:=hw h2
   have:=hP args σ' (.ret ef.val) (l7 σ.heap ef.up++ef.nw) (by rw[hh];exact hx)
   rw[hh]
   exact this
  ·cases hc
 ·obtain ⟨ρ,hlt,⟨ef',hc,_⟩|⟨x',H2,hc,hx⟩⟩:=key _ he
  ·cases hc
  ·simp only[CO.pan.injEq] at hc
   obtain ⟨rfl,rfl⟩:=hc
   intro σ' hh
   exact hP args σ' (.panic x) H' (by rw[hh];exact hx)
end entXP
def z6:List (Nat×X4)→FuncId→X4
 |[],_,_,_=>none
 |(g,e)::t,f,args,H=>if f=g then e args H else z6 t f args H
theorem lP {P:Program}: ∀f args (σ:AState) o H',z6 [] f args σ.heap=some (o,H')→yO P f args σ (fun o' C6=>o'=o∧C6=H'):=by
 intro f args σ r H' h;cases h
theorem kY {P:Program} {g:Nat} {e:X4} {t:List (Nat×X4)} (h1:EntPOK P g e) (h2: ∀f args (σ:AState) o H',z6 t f args σ.heap=some (o,H')→yO P f args σ (fun o' C6=>o'=o∧C6=H')):
 ∀f args (σ:AState) o H',z6 ((g,e)::t) f args σ.heap=some (o,H')→yO P f args σ (fun o' C6=>o'=o∧C6=H'):=by
 intro f args σ r H' h
 simp only[z6] at h
 split at h
 ·rename_i hg;subst hg;exact h1 _ _ _ _ h
 ·exact h2 _ _ _ _ _ h
def Na:List (Nat×(List AV→List AObj→Option CO))→FuncId→List AV→List AObj→Option CO
 |[],_,_,_=>none
 |(g,e)::t,f,args,H=>if f=g then e args H else Na t f args H
theorem tA {P:Program}: ∀f args (σ:AState),(∀e,Na [] f args σ.heap=some (.ret e)→DU P f args σ e)∧ ∀x H',Na [] f args σ.heap=some (.pan x H')→PanC P f args σ.heap x H':=by
 intro f args σ;exact ⟨fun e h=>(by cases h),fun x H' h=>(by cases h)⟩
theorem mW {P:Program} {g:Nat} {e:List AV→List AObj→Option CO} {t:List (Nat×(List AV→List AObj→Option CO))} (h1:Xf P g e) (h2: ∀f args (σ:AState),(∀e,Na t f args σ.heap=some (.ret e)→DU P f args σ e)∧ ∀x H',Na t f args σ.heap=some (.pan x H')→PanC P f args σ.heap x H'):
 ∀f args (σ:AState),(∀ef,Na ((g,e)::t) f args σ.heap=some (.ret ef)→DU P f args σ ef)∧ ∀x H',Na ((g,e)::t) f args σ.heap=some (.pan x H')→PanC P f args σ.heap x H':=by
 intro f args σ
 simp only[Na]
 by_cases hg:f=g
 ·subst hg;simp only[if_true];exact h1 args σ
 ·simp only[if_neg hg];exact h2 f args σ
def isIn:List Nat→FuncId→Bool
 |[],_=>false
 |g::t,f=>f==g||isIn t f
abbrev Og:=FuncId→List AV→List AObj→Option (ud×List AObj)
section unw
variable {R:Type}
noncomputable def RC (cr cp:Og) (en:Option AV→AState→Option R):List (FuncId×List AV)→Option AV→AState→Option R
 |[],m,σ=>en m σ
 |(f,args)::ds,none,σ=>(cr f args σ.heap).bind fun q=>match q with
  |(.ret _,H')=>RC cr cp en ds none {σ with heap:=H',df:=ds}
  |(.panic _,_)=>none
 |(f,args)::ds,some x,σ=>(cp f (args++[x]) σ.heap).bind fun q=>match q with
  |(.ret _,H')=>RC cr cp en ds none {σ with heap:=H',df:=ds}
  |(.panic x',H')=>RC cr cp en ds (some x') {σ with heap:=H',df:=ds}
theorem unwX_nil {cr cp:Og} {en:Option AV→AState→Option R} {m:Option AV} {σ:AState}:RC cr cp en [] m σ=en m σ:=by cases m<;>rfl
noncomputable def unwQ (cr cp:Og) (en:Option AV→AState→Option R) (ds:List (FuncId×List AV)) (σ:AState):ud×List AObj→Option R
 |(.ret _,H')=>RC cr cp en ds none {σ with heap:=H',df:=ds}
 |(.panic x',H')=>RC cr cp en ds (some x') {σ with heap:=H',df:=ds}
noncomputable def unwR (cr cp:Og) (en:Option AV→AState→Option R) (ds:List (FuncId×List AV)) (σ:AState):ud×List AObj→Option R
 |(.ret _,H')=>RC cr cp en ds none {σ with heap:=H',df:=ds}
 |(.panic x',H')=>none
theorem unwX_ret {cr cp:Og} {en:Option AV→AState→Option R} {f:FuncId} {args:List AV} {ds:List (FuncId×List AV)} {σ:AState}:RC cr cp en ((f,args)::ds) none σ=(cr f args σ.heap).bind (unwR cr cp en ds σ):=by
 simp only[RC];congr 1
theorem unwX_pan {cr cp:Og} {en:Option AV→AState→Option R} {f:FuncId} {args:List AV} {ds:List (FuncId×List AV)} {x:AV} {σ:AState}:RC cr cp en ((f,args)::ds) (some x) σ=(cp f (args++[x]) σ.heap).bind (unwQ cr cp en ds σ):=by
 simp only[RC];congr 1
def QOK (P:Program) (T:FuncId→Value→World→Array Value→(Ending→World→Prop)→Prop) (c:Og):Prop:= ∀f args (σ:AState) o H',c f args σ.heap=some (o,H')→enters P f=true∧NF P (T f) 0 args σ (fun o' C6=>o'=o∧C6=H')
theorem NF.mono {P:Program} {T:Value→World→Array Value→(Ending→World→Prop)→Prop} (hT:Sg T) {l:Nat} {args:List AV} {σ:AState} {K K':ud→List AObj→Prop} (h:NF P T l args σ K) (hk: ∀o H,K o H→K' o H):NF P T l args σ K':=by
 intro C φ a w hP S vs hr
 refine hT.mono _ _ _ _ _ ?_ (h C φ a w hP S vs hr)
 rintro e w' ⟨o,φ',H',h1,h2⟩
 exact ⟨o,φ',H',hk _ _ h1,h2⟩
theorem Qu {P:Program} {cr cp:Og} {en:Option AV→AState→Option R} {fin:Option AV→AState→Prop} {r:R} (hr:QOK P (TRet P) cr) (hp:QOK P (TPan P) cp) (he: ∀m σ,σ.df=[]→en m σ=some r→fin m σ):
 ∀ (ds:List (FuncId×List AV)) (m:Option AV) (σ:AState),σ.df=ds→RC cr cp en ds m σ=some r→Wf P fin ds m σ
 |[],m,σ,hd,h=>by rw[unwX_nil] at h;exact he m σ hd h
 |(f,args)::ds,none,σ,hd,h=>by
  simp only[RC,gE] at h
  obtain ⟨⟨o,H'⟩,hc,h⟩:=h
  obtain ⟨h1,h2⟩:=hr f args {σ with df:=ds} o H' hc
  refine ⟨h1,h2.mono WY ?_⟩
  rintro o' C6 ⟨rfl,rfl⟩
  cases o' with
  |ret x=>exact Qu hr hp he ds none _ rfl h
  |panic x=>cases h
 |(f,args)::ds,some x,σ,hd,h=>by
  simp only[RC,gE] at h
  obtain ⟨⟨o,H'⟩,hc,h⟩:=h
  obtain ⟨h1,h2⟩:=hp f (args++[x]) {σ with df:=ds} o H' hc
  refine ⟨h1,h2.mono WZ ?_⟩
  rintro o' C6 ⟨rfl,rfl⟩
  cases o' with
  |ret x=>exact Qu hr hp he ds none _ rfl h
  |panic x=>exact Qu hr hp he ds (some x) _ rfl h
def Mt:List (Nat×X4)→Og
 |[],_,_,_=>none
 |(g,e)::t,f,args,H=>if f=g then e args H else Mt t f args H
theorem Kg {P:Program} {T:FuncId→Value→World→Array Value→(Ending→World→Prop)→Prop}:QOK P T (Mt []):=by
 intro f args σ o H' h;cases h
theorem Hv {P:Program} {T:FuncId→Value→World→Array Value→(Ending→World→Prop)→Prop} {g:Nat} {e:X4} {t:List (Nat×X4)} (h1: ∀args (σ:AState) o H',e args σ.heap=some (o,H')→enters P g=true∧NF P (T g) 0 args σ (fun o' C6=>o'=o∧C6=H')) (h2:QOK P T (Mt t)):QOK P T (Mt ((g,e)::t)):=by
 intro f args σ o H' h
 simp only[Mt] at h
 split at h
 ·rename_i hg;subst hg;exact h1 _ _ _ _ h
 ·exact h2 _ _ _ _ _ h
def X5 {α1 β1:Type} (vS:OL β1) (C7:AL α1) (r:β1×α1):ud×List AObj:=(.ret (s9 (C7.enc (vS.lens r.1) r.2)),vS.enc (vS.lens r.1) r.1)
def IY {α β α1 β1:Type} (pos:List Loc) (os:OL β) (as:AL α) (vS:OL β1) (C7:AL α1) (F:β→α→Option (β1×α1)):X4:=entX1 pos os as vS.size (X5 vS C7) F
theorem Pj {α β α1 β1:Type} {P:Program} {T:Value→World→Array Value→(Ending→World→Prop)→Prop} {f:FuncId} (hT:Sg T) (hz: ∀ (φ φ':Nat→Value) (k k':Nat),T (φ k)=T (φ' k')) (hen:enters P f=true) {pos:List Loc} {os:OL β} {as:AL α} {vS:OL β1} {C7:AL α1} {F:β→α→Option (β1×α1)}
 (h: ∀b a r,F b a=some r→Y0 P T (as.enc (os.lens b) a) (os.enc (os.lens b) b) (fun o H'=>o=(X5 vS C7 r).1∧H'=(X5 vS C7 r).2)): ∀args (σ:AState) o H',IY pos os as vS C7 F args σ.heap=some (o,H')→enters P f=true∧NF P T 0 args σ (fun o' C6=>o'=o∧C6=H'):=by
 intro args σ o H' he
 obtain ⟨b,a,q,hq,ya⟩:=entX1_ok (P:=P) (T:=T) hT hz (fun q=>by simp only[X5,vS.sz];exact gR _) he
 exact ⟨hen,ya (h b a q hq)⟩
end unw
section steps
variable {R:Type} {M:lF R} {k:List Kt} {σ:AState} {α β:Type} {q:PR α β}
theorem stepP_prc {ops:Array Oper} {dst:Option Tmp} {rest:List Oper} {f:α→Option (ud×List AObj)} {g:β→Option (ud×List AObj)}:Ly M ops dst rest k σ (ZX q f g)=ZX q (fun x=>Ly M ops dst rest k σ (f x)) (fun y=>Ly M ops dst rest k σ (g y)):=by cases q<;>rfl
theorem stepDP_prc {p:List Nat} {dst:Option Tmp} {rest:List Oper} {j:Nat} {tr:List Tr} {f:α→Option CO} {g:β→Option CO}:Gp M p dst rest j tr k σ (ZX q f g)=ZX q (fun x=>Gp M p dst rest j tr k σ (f x)) (fun y=>Gp M p dst rest j tr k σ (g y)):=by cases q<;>rfl
end steps
attribute [go_sem] pkO_f prc_ok prc_pn bind_prc map_prc stepP_prc stepDP_prc entXP GK IY entX1 X5 z6 Na Mt isIn unwX_nil unwX_ret unwX_pan unwQ unwR List.zip_cons_cons List.zip_nil_left ud.ren
section ends
variable {R:Type} {M:lF R} {α β α1 β1 α2 β2:Type}
noncomputable def p9 (P:Program) (rs:List ResultVar) (pos:List Loc) (base:List Nat) (low:Nat) (os:OL β1) (s:AL α1) (σ:AState):Option (PR (β1×α1) (β2×α2)):=(EH P rs pos base low os s σ).map .ok
noncomputable def qa (pos:List Loc) (base:List Nat) (low:Nat) (os:OL β2) (s:AL α2) (x:AV) (σ:AState):Option (PR (β1×α1) (β2×α2)):=(outL [x] pos base low os s σ).map .pn
attribute [go_sem] p9 qa
theorem tupOf_one {y:AV}:s9 [y]=y:=rfl
theorem fnP_run {f:FuncId} {fn:Func} {args:List AV} {H:List AObj} {r:PR (β1×α1) (β2×α2)} {M:lF (PR (β1×α1) (β2×α2))} {n:Nat} {rs:List ResultVar} {vS:OL β1} {C7:AL α1} {FG:OL β2} {M8:AL α2} {p1 p2:List Loc} {b1 b2:List Nat} {low:Nat} (G:Good M) (hf:M.P.funcs[f]? =some fn) (hb:fn.body=some M.body) (hne:(fn.name != "runtime.NumGoroutine")=true)
 (hnb:nbL H.length args) (Fc: ∀x∈H,objNb H.length x) (hn:fn.ntmps=n) (Oa:fn.results=rs.toArray) (VW:b1=gK low) (hb2:b2=gK low) (hone: ∀b a,∃y,M8.enc (FG.lens b) a=[y])
 (ho:M.out=p9 M.P rs p1 b1 low vS C7) (hq:M.pJ=qa p2 b2 low FG M8)
 (h:run M [.at []] {slots:=args++gH (n-args.length) .any,heap:=H,low:=H.length}=some r):FnP M.P f args H (enP true vS C7 FG M8 r):=by
 refine Wk G hf hb hne hnb Fc hn Oa (fun σ hs=> ?_) (fun x σ hs=> ?_) h
 ·rw[ho] at hs
  unfold p9 at hs
  rw[gI] at hs
  obtain ⟨q,hq,rfl⟩:=hs
  obtain ⟨hd,xs,hx,himp⟩:=NJ VW hq
  rw[hd]
  exact Kf hx himp
 ·rw[hq] at hs
  unfold qa at hs
  rw[gI] at hs
  obtain ⟨q,hq,rfl⟩:=hs
  obtain ⟨hd,himp⟩:=Wo hb2 hq
  rw[hd]
  obtain ⟨y,hy⟩:=hone q.1 q.2
  rw[hy] at himp
  have:=gEnd_pan (P:=M.P) (rs:=rs) himp.e
  simp only[enP,ZX,hy,tupOf_one,pkO]
  exact this
noncomputable def Zy (P:Program) (rs:List ResultVar) (p1:List Loc) (base:List Nat) (low:Nat) (vS:OL β1) (s1:AL α1) (p2:List Loc) (FG:OL β2) (s2:AL α2) (σ:AState):Option (PR (β1×α1) (β2×α2)):=
 ((EH P rs p1 base low vS s1 σ).map .ok).or ((EH P rs p2 base low FG s2 σ).map .pn)
attribute [go_sem] Zy
theorem fnS_run {f:FuncId} {fn:Func} {args:List AV} {H:List AObj} {r:PR (β1×α1) (β2×α2)} {M:lF (PR (β1×α1) (β2×α2))} {n:Nat} {rs:List ResultVar} {vS:OL β1} {C7:AL α1} {FG:OL β2} {M8:AL α2} {p1 p2:List Loc} {b1:List Nat} {low:Nat} (G:Good M) (hf:M.P.funcs[f]? =some fn) (hb:fn.body=some M.body) (hne:(fn.name != "runtime.NumGoroutine")=true)
 (hnb:nbL H.length args) (Fc: ∀x∈H,objNb H.length x) (hn:fn.ntmps=n) (Oa:fn.results=rs.toArray) (VW:b1=gK low) (ho:M.out=Zy M.P rs p1 b1 low vS C7 p2 FG M8)
 (h:run M [.at []] {slots:=args++gH (n-args.length) .any,heap:=H,low:=H.length}=some r) (hP: ∀x σ',M.pJ x σ'=none:=by intros;rfl):FnP M.P f args H (enP false vS C7 FG M8 r):=by
 refine Wk G hf hb hne hnb Fc hn Oa (fun σ hs=> ?_) (fun x σ hs=>by rw[hP x σ] at hs;cases hs) h
 rw[ho] at hs
 unfold Zy at hs
 rw[iw] at hs
 rcases hs with hs|⟨_,hs⟩
 ·rw[gI] at hs
  obtain ⟨q,hq,rfl⟩:=hs
  obtain ⟨hd,xs,hx,himp⟩:=NJ VW hq
  rw[hd]
  exact Kf hx himp
 ·rw[gI] at hs
  obtain ⟨q,hq,rfl⟩:=hs
  obtain ⟨hd,xs,hx,himp⟩:=NJ VW hq
  rw[hd]
  exact Kf hx himp
noncomputable def enC {ρ:Type} (P:Program) (rs:List ResultVar) (t:Ty ρ):Option AV→AState→Option ρ
 |none,σ=>qT P rs t σ
 |some _,_=>none
theorem enC_f {ρ:Type} {P:Program} {rs:List ResultVar} {t:Ty ρ} {σ:AState}:enC P rs t none σ=qT P rs t σ∧ ∀x,enC P rs t (some x) σ=none:=⟨rfl,fun _=>rfl⟩
noncomputable def outU {ρ:Type} (cr cp:Og) (P:Program) (rs:List ResultVar) (t:Ty ρ) (σ:AState):Option ρ:=RC cr cp (enC P rs t) σ.df none σ
noncomputable def outUP {ρ:Type} (cr cp:Og) (P:Program) (rs:List ResultVar) (t:Ty ρ) (x:AV) (σ:AState):Option ρ:=RC cr cp (enC P rs t) σ.df (some x) σ
attribute [go_sem] enC_f outU outUP
theorem fnC_runU {ρ:Type} {M:lF ρ} {f:FuncId} {fn:Func} {args:List AV} {r:ρ} {n:Nat} {rs:List ResultVar} {t:Ty ρ} {cr cp:Og} (G:Good M) (hcr:QOK M.P (TRet M.P) cr) (hcp:QOK M.P (TPan M.P) cp) (hf:M.P.funcs[f]? =some fn) (hb:fn.body=some M.body) (hne:(fn.name != "runtime.NumGoroutine")=true) (hnb:nbL 0 args)
 (hn:fn.ntmps=n) (Oa:fn.results=rs.toArray) (ho:M.out=outU cr cp M.P rs t) (hq:M.pJ=outUP cr cp M.P rs t)
 (h:run M [.at []] {slots:=args++gH (n-args.length) .any,heap:=[]}=some r):yP M.P f args (fun v=>v=t.enc r):=by
 have hend: ∀m σ,σ.df=[]→enC M.P rs t m σ=some r→cEnd M.P rs (fun v=>v=t.enc r) m σ:=by
  intro m σ _ he
  cases m with
  |none=>exact (Wi he).2
  |some x=>cases he
 refine fnC_of_bodyU hf hb hne hnb ?_
 rw[Oa,hn]
 refine Qj G h (fun σ hs=> ?_) (fun x σ hs=> ?_)
 ·rw[ho] at hs
  have:=Qu hcr hcp hend σ.df none σ rfl hs
  exact ⟨this,this⟩
 ·rw[hq] at hs
  exact Qu hcr hcp hend σ.df (some x) σ rfl hs
theorem fnT_pan_run {M:lF (β1×α1)} {f:FuncId} {fn:Func} {id:Nat} {ops:Array Oper} {y:Code} {o:Oper} {rest:List Oper} {args:List AV} {x:AV} {H:List AObj} {r:β1×α1} {n:Nat} {rs:List ResultVar} {vS:OL β1} {C7:AL α1} {p1:List Loc} {b1:List Nat} {low:Nat} (G:Good M)
 (hf:M.P.funcs[f]? =some fn) (hb:fn.body=some M.body) (hbody:M.body= .seq (.region id ops false) y) (So:ops.toList=o::rest) (N6:isRec o=true) (XH:UA rest=true)
 (hnb:nbL H.length (args++[x])) (Fc: ∀x∈H,objNb H.length x) (hn:fn.ntmps=n) (Oa:fn.results=rs.toArray) (VW:b1=gK low) (ho:M.out=EH M.P rs p1 b1 low vS C7)
 (h:run M [.ops ops rest,.cut [1],.at [1]] (AState.put {slots:=args++gH (n-args.length) .any,heap:=H,low:=H.length} o.dst x)=some r) (hP: ∀x σ',M.pJ x σ'=none:=by intros;rfl):
 Y0 M.P (TPan M.P f) (args++[x]) H (fun o H'=>o=(X5 vS C7 r).1∧H'=(X5 vS C7 r).2):=by
 refine XZ hf (by rw[hb,hbody]) So N6 hnb Fc hn Oa (rec_run G hbody XH (fun σ hs=> ?_) h hP)
 rw[ho] at hs
 obtain ⟨hd,xs,hx,himp⟩:=NJ VW hs
 have:=Kf hx himp
 exact ⟨⟨hd,this⟩,hd,this⟩
theorem fnT_ret_run {M:lF (β1×α1)} {f:FuncId} {fn:Func} {id:Nat} {ops:Array Oper} {y:Code} {o:Oper} {rest:List Oper} {args:List AV} {H:List AObj} {r:β1×α1} {n:Nat} {rs:List ResultVar} {vS:OL β1} {C7:AL α1} {p1:List Loc} {b1:List Nat} {low:Nat} (G:Good M)
 (hf:M.P.funcs[f]? =some fn) (hb:fn.body=some M.body) (hbody:M.body= .seq (.region id ops false) y) (So:ops.toList=o::rest) (N6:isRec o=true) (XH:UA rest=true)
 (hnb:nbL H.length args) (Fc: ∀x∈H,objNb H.length x) (hn:fn.ntmps=n) (Oa:fn.results=rs.toArray) (VW:b1=gK low) (ho:M.out=EH M.P rs p1 b1 low vS C7)
 (h:run M [.ops ops rest,.cut [1],.at [1]] (AState.put {slots:=args++gH (n-args.length) .any,heap:=H,low:=H.length} o.dst (.raw .nilIface))=some r) (hP: ∀x σ',M.pJ x σ'=none:=by intros;rfl):
 Y0 M.P (TRet M.P f) args H (fun o H'=>o=(X5 vS C7 r).1∧H'=(X5 vS C7 r).2):=by
 refine X1 hf (by rw[hb,hbody]) So N6 hnb Fc hn Oa (rec_run G hbody XH (fun σ hs=> ?_) h hP)
 rw[ho] at hs
 obtain ⟨hd,xs,hx,himp⟩:=NJ VW hs
 have:=Kf hx himp
 exact ⟨⟨hd,this⟩,hd,this⟩
end ends
def dIf {α:Type} (t:TypeId) (a:Ty α):AV→Option α
 | .iface t' v=>if t'=t then a.dec [] v else none
 |_=>none
theorem sub_iface {t:TypeId} {x y:AV} (h:Sub x y):Sub (.iface t x) (.iface t y):=by
 rintro E v ⟨u,hu,r⟩
 exact ⟨u,hu,h _ _ r⟩
def ue {α:Type} (t:TypeId) (a:Ty α):Ty α where
 enc x:= .iface t (a.enc x)
 dec _:=dIf t a
 ok H n v x h:=by
  unfold dIf at h
  split at h
  ·split at h
   ·rename_i ht
    subst ht
    exact Co.sub (sub_iface (a.ok [] n _ _ h).toSub) (a.nb n x)
   ·cases h
  ·cases h
 nb n x:=a.nb n x
theorem tyIf_f {α:Type} {t:TypeId} {a:Ty α}:(∀x,(ue t a).enc x= .iface t (a.enc x))∧(∀H v,(ue t a).dec H v=dIf t a v)∧ ∀v,dIf t a (.iface t v)=a.dec [] v:=⟨fun _=>rfl,fun _ _=>rfl,fun _=>by simp [dIf]⟩
def dE0:AV→Option Unit
 | .agg []=>some ()
 |_=>none
def RD:Ty Unit where
 enc _:= .agg []
 dec _:=dE0
 ok H n v x h:=by
  unfold dE0 at h
  split at h
  ·exact Co.same trivial
  ·cases h
 nb n x:=trivial
theorem tyE0_f:(∀x,RD.enc x= .agg [])∧(∀H v,RD.dec H v=dE0 v)∧dE0 (.agg [])=some ():=⟨fun _=>rfl,fun _ _=>rfl,rfl⟩
attribute [go_sem] tyIf_f tyE0_f
end Go.Abs
namespace Go.Abs
def mcT {α:Type} (t:Ty α) (p:Str×α):AV×AV:=(.str (sb p.1),t.enc p.2)
section
variable {α:Type} {t:Ty α}
theorem Sp: ∀xs:List (Str×α),K6 (xs.map (mcT t))=true
 |[]=>rfl
 |_::xs=>Sp xs
theorem Wr (s:Str): ∀xs:List (Str×α),yw (sb s) (xs.map (mcT t))=(Qr s xs).map t.enc
 |[]=>rfl
 |(k,v)::xs=>by
  show (bif sb s==sb k then some (t.enc v) else yw (sb s) (xs.map (mcT t)))=_
  rw[sb_beq,Wr s xs]
  simp only[Qr]
  cases s==k<;>rfl
theorem XI (s:Str) (v:α): ∀xs:List (Str×α),JA (sb s) (t.enc v) (xs.map (mcT t))=(U9 s v xs).map (mcT t)
 |[]=>rfl
 |(k,u)::xs=>by
  show (bif sb s==sb k then (AV.str (sb k),t.enc v)::xs.map (mcT t) else (AV.str (sb k),t.enc u)::JA (sb s) (t.enc v) (xs.map (mcT t)))=_
  rw[sb_beq,XI s v xs]
  simp only[U9]
  cases s==k<;>rfl
def oel {γ:Type} (o:Option α) (a:γ) (f:α→γ):γ:=match o with
 |none=>a
 |some x=>f x
theorem oel_none {γ:Type} {a:γ} {f:α→γ}:oel none a f=a:=rfl
theorem oel_some {γ:Type} {x:α} {a:γ} {f:α→γ}:oel (some x) a f=f x:=rfl
theorem lookOk_T {z:AV} {l:Nat} {s:Str} {xs:List (Str×α)}:WM z l (sb s) (some (.map (mp (mcT t) xs)))=oel (Qr s xs) (some {val:= .tup [z,.bool false],rd:=[l]}) (fun x=>some {val:= .tup [t.enc x,.bool true],rd:=[l]}):=by
 rw[qe]
 simp only[WM,Sp,if_true,Wr]
 cases Qr s xs<;>rfl
theorem mapUp_T {l:Nat} {s:Str} {v:α} {xs:List (Str×α)}:mapUpEff l (sb s) (t.enc v) (some (.map (mp (mcT t) xs)))=some {val:= .any,rd:=[l],up:=[(l,.map (mp (mcT t) (U9 s v xs)))]}:=by
 rw[qe,qe]
 simp only[mapUpEff,Sp,if_true,XI]
theorem Ws (n:Nat) (xs:List (Str×α)):objNb n (.map (mp (mcT t) xs))=True:=by
 refine eq_true fun p hp=> ?_
 rw[qe,iz] at hp
 obtain ⟨q,_,rfl⟩:=hp
 exact ⟨trivial,t.nb n q.2⟩
theorem mapNbF_T (n:Nat) (xs:List (Str×α)):(∀p:AV×AV,p∈mp (mcT t) xs→AV.nb n p.1∧AV.nb n p.2)=True:=Ws n xs
theorem mapRen_T (ρ:Nat→Nat) (xs:List (Str×α)):(mp (mcT t) xs).map (fun p=>(AV.ren ρ p.1,AV.ren ρ p.2))=mp (mcT t) xs:=by
 rw[qe,iA]
 refine gZ fun q _=> ?_
 show (AV.ren ρ (.str (sb q.1)),AV.ren ρ (t.enc q.2))=(.str (sb q.1),t.enc q.2)
 rw[GF ρ _ (t.nb 0 q.2)];rfl
theorem map_renT (τ:Nat→Nat) (xs:List (Str×α)):(AObj.map (mp (mcT t) xs)).ren τ= .map (mp (mcT t) xs):=by
 show AObj.map ((mp (mcT t) xs).map _)=_
 congr 1
 exact mapRen_T τ xs
noncomputable def VJ (t:Ty α) (x:AObj):Option (List (Str×α)):= @dite _ (∃xs,x= .map (mp (mcT t) xs)) (Classical.propDecidable _) (fun h=>some h.choose) (fun _=>none)
theorem ddMT_ok {x:AObj} {xs:List (Str×α)} (h:VJ t x=some xs):x= .map (mp (mcT t) xs):=by
 unfold VJ at h
 split at h
 ·rename_i hh
  simp only[gF] at h
  subst h
  exact hh.choose_spec
 ·cases h
end
theorem mapUp_nilB {α:Type} {t:Ty α} {l:Nat} {s:Str} {v:α}:mapUpEff l (sb s) (t.enc v) (some (.map (mp mcB [])))=some {val:= .any,rd:=[l],up:=[(l,.map (mp (mcT t) [(s,v)]))]}:=by
 have:=mapUp_T (t:=t) (l:=l) (s:=s) (v:=v) (xs:=[])
 rw[qe] at this ⊢
 exact this
section inj
variable {α:Type} {t:Ty α} (hinj: ∀x y,t.enc x=t.enc y→x=y)
include hinj
theorem mcT_inj: ∀xs ys:List (Str×α),xs.map (mcT t)=ys.map (mcT t)→xs=ys
 |[],[],_=>rfl
 |[],_::_,h=>by simp at h
 |_::_,[],h=>by simp at h
 |(s,x)::xs,(s',y)::ys,h=>by
  simp only[List.map_cons,gX] at h
  obtain ⟨h1,h2⟩:=h
  simp only[mcT,gN,AV.str.injEq] at h1
  have e1:s=s':=by
   have:=congrArg ByteArray.toList h1.1
   rwa [JI,JI] at this
  rw[e1,hinj _ _ h1.2,mcT_inj xs ys h2]
theorem ddMT_mp (xs:List (Str×α)):VJ t (.map (mp (mcT t) xs))=some xs:=by
 have hh: ∃ys,(AObj.map (mp (mcT t) xs))= .map (mp (mcT t) ys):=⟨xs,rfl⟩
 unfold VJ
 rw[dif_pos hh]
 have e:AObj.map (mp (mcT t) xs)=AObj.map (mp (mcT t) hh.choose):=hh.choose_spec
 have e2:mp (mcT t) xs=mp (mcT t) hh.choose:=AObj.map.inj e
 have e3:xs.map (mcT t)=hh.choose.map (mcT t):=by rw[←qe,←qe];exact e2
 exact congrArg some (mcT_inj hinj _ _ e3).symm
theorem ddMT_nilB:VJ t (.map (mp mcB []))=some []:=by
 have:=ddMT_mp hinj []
 rw[qe] at this ⊢
 exact this
theorem ddMT_all:(∀xs,VJ t (.map (mp (mcT t) xs))=some xs)∧VJ t (.map [])=some []∧VJ t (.map (mp mcB []))=some []:=by
 refine ⟨ddMT_mp hinj,?_,ddMT_nilB hinj⟩
 have:=ddMT_mp hinj []
 rwa [qe] at this
end inj
section og
variable {α:Type}
noncomputable def yS (t:Ty α):OG (List (Str×α)) where
 enc _ xs:= .map (mp (mcT t) xs)
 dec _ _ _:=VJ t
 len _:=0
 need:=0
 nb L g:=of_eq_true (Ws 0 g)
 ok ρ L H n x g _ h:=by
  rw[ddMT_ok h]
  rw[map_renT]
  exact .inr (.inl ⟨rfl,of_eq_true (Ws n g)⟩)
 Zq ρ L H x g h:=by
  rw[ddMT_ok h];rfl
theorem ogMT_f {t:Ty α}:(∀L g,(yS t).enc L g= .map (mp (mcT t) g))∧(∀ρ L H x,(yS t).dec ρ L H x=VJ t x)∧(∀g,(yS t).len g=0)∧(yS t).need=0:=⟨fun _ _=>rfl,fun _ _ _ _=>rfl,fun _=>rfl,rfl⟩
noncomputable def oM (t:Ty α):ZO:=⟨fun _ _ x=>(VJ t x).bind fun xs=>some (.map (mp (mcT t) xs)),fun H n x y h=>by
 simp only[gE,gF] at h
 obtain ⟨xs,hx,rfl⟩:=h
 rw[ddMT_ok hx]
 exact .inr (.inl ⟨rfl,of_eq_true (Ws n xs)⟩)⟩
theorem oM_f {t:Ty α} {H:List AObj} {n:Nat} {x:AObj}:(oM t).f H n x=(VJ t x).bind fun xs=>some (.map (mp (mcT t) xs)):=rfl
end og
theorem entXO_ok {α β α1 β1:Type} {P:Program} {f:FuncId} {pos:List Loc} {os:OL β} {as:AL α} {vS:OL β1} {C7:AL α1} {F:β→α→Option (β1×α1)}
 (h: ∀b a r,F b a=some r→ZW P f (as.enc (os.lens b) a) (os.enc (os.lens b) b) (fun o H'=>o= .ret (s9 (C7.enc (vS.lens r.1) r.2))∧H'=vS.enc (vS.lens r.1) r.1)):
 Xf P f (GK pos os as vS C7 vS C7 (fun b a=>(F b a).map fun r=>(PR.ok r:PR (β1×α1) (β1×α1)))):=by
 refine yZ (fun b a r hr=> ?_)
 rw[gI] at hr
 obtain ⟨r',hr,rfl⟩:=hr
 exact h b a r' hr
noncomputable def dalK {δ:Type} (v:AV) (s:AL δ) (ρ:List Nat) (L:DP) (H:List AObj):List AV→Option δ
 |x::xs=>pcond (x=v) (s.dec ρ L H xs)
 |_=>none
noncomputable def alK {δ:Type} (v:AV) (hv:v.nb 0) (s:AL δ):AL δ where
 enc L g:=v::s.enc L g
 dec:=dalK v s
 need:=s.need
 nb L g:=⟨AV.Xm (gQ _) v hv,s.nb L g⟩
 ok ρ L H n vs g hc h:=by
  unfold dalK at h
  split at h
  ·rw[lV] at h
   obtain ⟨rfl,h⟩:=h
   refine B8.cons ?_ (s.ok ρ L H n _ _ hc h)
   rw[GF _ _ hv]
   exact Co.same (AV.Xm (gQ _) _ hv)
  ·cases h
theorem alK_f {δ:Type} {v:AV} {hv:v.nb 0} {s:AL δ}:(∀L g,(alK v hv s).enc L g=v::s.enc L g)∧(∀ρ L H xs,(alK v hv s).dec ρ L H xs=dalK v s ρ L H xs)∧(alK v hv s).need=s.need:=⟨fun _ _=>rfl,fun _ _ _ _=>rfl,rfl⟩
attribute [go_sem] alK_f dalK
section steps
variable {R:Type} {M:lF R} {k:List Kt} {σ:AState} {α:Type} {o:Option α}
theorem stepE_oel {ops:Array Oper} {dst:Option Tmp} {rest:List Oper} {a:Option u7} {f:α→Option u7}:pe M ops dst rest k σ (oel o a f)=oel o (pe M ops dst rest k σ a) (fun x=>pe M ops dst rest k σ (f x)):=by cases o<;>rfl
theorem stepDE_oel {p:List Nat} {dst:Option Tmp} {rest:List Oper} {j:Nat} {tr:List Tr} {a:Option u7} {f:α→Option u7}:vQ M p dst rest j tr k σ (oel o a f)=oel o (vQ M p dst rest j tr k σ a) (fun x=>vQ M p dst rest j tr k σ (f x)):=by cases o<;>rfl
theorem bind_oel {γ δ:Type} {a:Option γ} {f:α→Option γ} {h:γ→Option δ}:(oel o a f).bind h=oel o (a.bind h) (fun x=>(f x).bind h):=by cases o<;>rfl
theorem map_oel {γ δ:Type} {a:Option γ} {f:α→Option γ} {h:γ→δ}:(oel o a f).map h=oel o (a.map h) (fun x=>(f x).map h):=by cases o<;>rfl
end steps
attribute [go_sem] oM_f oel_none oel_some lookOk_T ogMT_f map_renT stepE_oel stepDE_oel bind_oel map_oel tasEff
attribute [go_sem high] Ws mapRen_T mapNbF_T
def recB (d:Nat):Code→Bool
 | .seq (.region _ ops false) _=>match ops.toList with
   |o::rest=>isRec o&&(o.dst==some d)&&UA rest
   |[]=>false
 |_=>false
theorem recB_spec {d:Nat} {c:Code} (h:recB d c=true): ∃id ops y o rest,c= .seq (.region id ops false) y∧ops.toList=o::rest∧isRec o=true∧o.dst=some d∧UA rest=true:=by
 unfold recB at h
 split at h
 ·rename_i id ops y
  split at h
  ·rename_i o rest ho
   simp only[gL,beq_iff_eq] at h
   exact ⟨id,ops,y,o,rest,rfl,ho,h.1.1,h.1.2,h.2⟩
  ·cases h
 ·cases h
section recrun
variable {α1 β1:Type}
theorem Wt {M:lF (β1×α1)} {f:FuncId} {fn:Func} {d:Nat} {args:List AV} {x:AV} {H:List AObj} {r:β1×α1} {n:Nat} {rs:List ResultVar} {vS:OL β1} {C7:AL α1} {p1:List Loc} {b1:List Nat} {low:Nat} (G:Good M)
 (hf:M.P.funcs[f]? =some fn) (hb:fn.body=some M.body) (N6:recB d M.body=true)
 (hnb:nbL H.length (args++[x])) (Fc: ∀x∈H,objNb H.length x) (hn:fn.ntmps=n) (Oa:fn.results=rs.toArray) (VW:b1=gK low) (ho:M.out=EH M.P rs p1 b1 low vS C7)
 (h:run M [.ops (pP M [0]) ((pP M [0]).toList.drop 1),.cut [1],.at [1]] (AState.put {slots:=args++gH (n-args.length) .any,heap:=H,low:=H.length} (some d) x)=some r) (hP: ∀x σ',M.pJ x σ'=none:=by intros;rfl):
 Y0 M.P (TPan M.P f) (args++[x]) H (fun o H'=>o=(X5 vS C7 r).1∧H'=(X5 vS C7 r).2):=by
 obtain ⟨id,ops,y,o,rest,hbody,So,h1,h2,h3⟩:=recB_spec N6
 have e:pP M [0]=ops:=by unfold pP;rw[hbody];rfl
 rw[e,So,List.drop_one,List.tail_cons,←h2] at h
 exact fnT_pan_run G hf hb hbody So h1 h3 hnb Fc hn Oa VW ho h hP
theorem Wu {M:lF (β1×α1)} {f:FuncId} {fn:Func} {d:Nat} {args:List AV} {H:List AObj} {r:β1×α1} {n:Nat} {rs:List ResultVar} {vS:OL β1} {C7:AL α1} {p1:List Loc} {b1:List Nat} {low:Nat} (G:Good M)
 (hf:M.P.funcs[f]? =some fn) (hb:fn.body=some M.body) (N6:recB d M.body=true)
 (hnb:nbL H.length args) (Fc: ∀x∈H,objNb H.length x) (hn:fn.ntmps=n) (Oa:fn.results=rs.toArray) (VW:b1=gK low) (ho:M.out=EH M.P rs p1 b1 low vS C7)
 (h:run M [.ops (pP M [0]) ((pP M [0]).toList.drop 1),.cut [1],.at [1]] (AState.put {slots:=args++gH (n-args.length) .any,heap:=H,low:=H.length} (some d) (.raw .nilIface))=some r) (hP: ∀x σ',M.pJ x σ'=none:=by intros;rfl):
 Y0 M.P (TRet M.P f) args H (fun o H'=>o=(X5 vS C7 r).1∧H'=(X5 vS C7 r).2):=by
 obtain ⟨id,ops,y,o,rest,hbody,So,h1,h2,h3⟩:=recB_spec N6
 have e:pP M [0]=ops:=by unfold pP;rw[hbody];rfl
 rw[e,So,List.drop_one,List.tail_cons,←h2] at h
 exact fnT_ret_run G hf hb hbody So h1 h3 hnb Fc hn Oa VW ho h hP
end recrun
end Go.Abs
namespace Go.Abs
section
variable {C:Ctx} {φ:Nat→Value} {σ:AState} {a:Act} {w:World}
variable {α γ:Type}
noncomputable def outM (P:Program) (rs:List ResultVar) (j:Nat) (r:Row γ) (s:EV (List γ×Unit) α) (σ:AState):Option ((List γ×Unit)×α):=
 bif σ.df.isEmpty then (Ac P σ rs).bind fun xs=>outM1 (DZ j r.sz false ⟨xs,σ.heap,0,[]⟩) j r s σ.low else none
where
 outM1 (τ:AState) (j:Nat) (r:Row γ) (s:EV (List γ×Unit) α) (low:Nat):Option ((List γ×Unit)×α):=
  match τ.slots[j]? with
  |some (.acc l _)=>match τ.heap[l]? with
   |some y=>pcond (low=0∧objNb 0 y∧nbL 1 (renL (outX 0 l) τ.slots)) (((wP (Zi false r) vc).dec [y] [y]).bind fun b=>(s.dec b [y] (renL (outX 0 l) τ.slots)).bind fun a=>bif decide (s.need≤1) then some (b,a) else none)
   |none=>none
  |_=>none
theorem UB {P:Program} {rs:List ResultVar} {j:Nat} {r:Row γ} {s:EV (List γ×Unit) α} {σ:AState} {q:(List γ×Unit)×α} (h:outM P rs j r s σ=some q):
 σ.df=[]∧ ∃xs,Ac P σ rs=some xs∧VD ⟨xs,σ.heap,σ.low,[]⟩ ⟨s.enc q.1 q.2,(wP (Zi false r) vc).enc q.1,σ.low,[]⟩:=by
 unfold outM at h
 cases hd0:σ.df with
 |cons p q=>rw[hd0] at h;cases h
 |nil=>
 rw[hd0] at h
 simp only[List.isEmpty_nil,cond_true] at h
 simp only[gE] at h
 obtain ⟨xs,hx,h⟩:=h
 refine ⟨rfl,xs,hx,?_⟩
 unfold outM.outM1 at h
 split at h
 case h_2=>cases h
 rename_i l m hs
 split at h
 case h_2=>cases h
 rename_i y hl
 rw[lV] at h
 obtain ⟨⟨EF,h1,h2⟩,h⟩:=h
 simp only[gE] at h
 obtain ⟨b,hb,a,ha,h⟩:=h
 cases hd:decide (s.need≤1) with
 |false=>simp [hd] at h
 |true=>
  simp only[hd,cond_true,gF] at h
  subst h
  rw[EF]
  have i1:Gk ⟨xs,σ.heap,0,[]⟩ (DZ j r.sz false ⟨xs,σ.heap,0,[]⟩):=Zf
  have hlow0:(DZ j r.sz false ⟨xs,σ.heap,0,[]⟩).low=0:=by unfold DZ;split<;>rfl
  have hdf0:(DZ j r.sz false ⟨xs,σ.heap,0,[]⟩).df=[]:=by unfold DZ;split<;>rfl
  generalize hτ:DZ j r.sz false ⟨xs,σ.heap,0,[]⟩=τ at*
  have i2:VD ⟨τ.slots,τ.heap,0,[]⟩ ⟨renL (outX 0 l) τ.slots,τ.heap.take 0++[y],0,[]⟩:=Sn hl (gQ _) (by simp) h1 h2
  have e:τ=⟨τ.slots,τ.heap,0,[]⟩:=by cases τ;simp only at hlow0 hdf0;subst hlow0 hdf0;rfl
  rw[e] at i1
  refine (i1.e.trans i2).trans ?_
  simp only[List.take_zero,List.nil_append]
  obtain ⟨h5,h6⟩:=(wP (Zi false r) vc).ok [y] 1 _ _ hb
  refine Gk.e (YO.imp (σ:=⟨renL (outX 0 l) τ.slots,[y],0,[]⟩) (σ':=⟨s.enc b a,(wP (Zi false r) vc).enc b,0,[]⟩) ⟨⟨⟨rfl,gQ _⟩,rfl,Sc⟩,?_,?_⟩)
  ·show B8 [y] ((wP (Zi false r) vc).enc b).length _ _
   rw[h6]
   exact s.ok b [y] 1 _ a (of_decide_eq_true hd) ha
  ·show Sb [y] ((wP (Zi false r) vc).enc b).length [y] _
   rw[h6]
   exact h5
end
section open_
variable {R:Type} {M:lF R} {k:List Kt} {σ:AState}
theorem stepDE_any {p:List Nat} {dst:Option Tmp} {rest:List Oper} {j:Nat} {tr:List Tr} {x:AV} {rd:List Nat} {up:List (Nat×AObj)} {nw:List AObj} {pr:Prop}:
 vQ M p dst rest j tr k σ (some {val:=x,rd,up,nw,pre:=pr,whole:=true})=pcond pr (pcond (NG M p tr j {val:=x,rd,up,nw,pre:=pr,whole:=true}) (run M (.Mn p rest (j+1) (Gn tr j σ.heap.length {val:=x,rd,up,nw,pre:=pr,whole:=true})::k) {σ.put dst x with heap:=l7 σ.heap up++nw})):=by
 rw[←O9];rfl
def restE (M:lF R) (p:List Nat) (c:Nat) (o:Oper) (rest:List Oper) (j:Nat) (σ:AState):Option u7→Prop
 |some e=>(e.pre∧e.up=[]∧e.nw=[])∧Si M p c rest (j+1) (σ.put o.dst e.val)
 |none=>False
def restC (M:lF R) (p:List Nat) (c:Nat) (o:Oper) (rest:List Oper) (j:Nat) (σ:AState):Option (FuncId×List AV)→Prop
 |some _=>False
 |none=>restE M p c o rest j σ (Lb M.P σ o.op)
def restW (M:lF R) (p:List Nat) (c:Nat) (o:Oper) (rest:List Oper) (j:Nat) (σ:AState):Option Bool→Prop
 |none=>False
 |some false=>Si M p c rest (j+1) (σ.put o.dst (.raw undef))
 |some true=>restC M p c o rest j σ (mN σ o.op)
theorem restE_some {p:List Nat} {c:Nat} {o:Oper} {rest:List Oper} {j:Nat} {e:u7}:restE M p c o rest j σ (some e)=((e.pre∧e.up=[]∧e.nw=[])∧Si M p c rest (j+1) (σ.put o.dst e.val)):=rfl
theorem restC_none {p:List Nat} {c:Nat} {o:Oper} {rest:List Oper} {j:Nat}:restC M p c o rest j σ none=restE M p c o rest j σ (Lb M.P σ o.op):=rfl
theorem restW_true {p:List Nat} {c:Nat} {o:Oper} {rest:List Oper} {j:Nat}:restW M p c o rest j σ (some true)=restC M p c o rest j σ (mN σ o.op):=rfl
theorem restW_false {p:List Nat} {c:Nat} {o:Oper} {rest:List Oper} {j:Nat}:restW M p c o rest j σ (some false)=Si M p c rest (j+1) (σ.put o.dst (.raw undef)):=rfl
theorem restP_next {p:List Nat} {c j:Nat} {o:Oper} {rest:List Oper} (h:Gq M p c j=false):Si M p c (o::rest) j σ=restW M p c o rest j σ (oR (pP M p) o σ):=by
 unfold Gq at h
 show NC M.P (pP M p) c (o::rest) j σ=_
 simp only[NC,h]
 cases hw:oR (pP M p) o σ with
 |none=>rfl
 |some b=>
  cases b with
  |false=>rfl
  |true=>
   simp only[restW]
   cases hc:mN σ o.op with
   |some q=>simp [restC]
   |none=>
    simp only[true_and,restC,←pq]
    cases lA M.P σ o.op with
    |none=>rfl
    |some e=>rfl
end open_
attribute [go_sem] stepDE_any restE_some restC_none restW_true restW_false restP_next restP_skip
attribute [go_sem] outM outM.outM1
end Go.Abs
namespace Go.Abs
section
variable {P:Program} {f:FuncId} {α:Type}
theorem raw0_rep {E:Env} {r:Row α} {ys:List AV} {vs:List Value} (h:k6 E ((nj r).enc []::ys) vs): ∃base c,k6 E (.raw (.slice base 0 c)::ys) vs:=by
 obtain ⟨u,us,e,⟨base,cap,hu,_⟩,h2⟩:=h
 have hl:(mp r.enc ([]:List α)).length=0:=Me _ _
 rw[hl] at hu
 exact ⟨base,cap,u,us,e,hu,h2⟩
theorem fnC_raw0 {r:Row α} {ys:List AV} {V:AV→Prop} (h: ∀base c,yP P f (.raw (.slice base 0 c)::ys) V):yP P f ((nj r).enc []::ys) V:=by
 obtain ⟨h1,h2,h3⟩:=h none 0
 refine ⟨h1,⟨(nj r).nb 0 _,h2.2⟩,fun C φ w a b c d vs hv=> ?_⟩
 obtain ⟨base,cap,hr⟩:=raw0_rep hv
 exact (h base cap).2.2 C φ w a b c d vs hr
theorem Zz {r:Row α} {ys:List AV} {V:ud→List AObj→Prop} (h: ∀base c,ZW P f (.raw (.slice base 0 c)::ys) [] V):ZW P f ((nj r).enc []::ys) [] V:=by
 obtain ⟨h1,h2,h2',h3⟩:=h none 0
 refine ⟨h1,⟨(nj r).nb 0 _,h2.2⟩,h2',fun C φ w a b c d e e2 vs hv=> ?_⟩
 obtain ⟨base,cap,hr⟩:=raw0_rep hv
 exact (h base cap).2.2.2 C φ w a b c d e e2 vs hr
theorem mp_isEmpty_cons {f:α→List AV} {x:α} {xs:List α}:(mp f (x::xs)).isEmpty=false:=by rw[Zd];rfl
theorem cellsOf_nil:cellsOf (.agg [])=some []:=rfl
theorem splice_nil:splice [] 0 []=[]:=rfl
theorem av_ne:(∀l o v,(AV.ptr l o=AV.raw v)=False)∧(∀l o v,(AV.raw v=AV.ptr l o)=False)∧((AV.bool true=AV.bool false)=False)∧((AV.bool false=AV.bool true)=False):=by simp
theorem nbK_b {b:Bool}:(AV.bool b).nb 0:=trivial
theorem nbK_r {v:Value}:(AV.raw v).nb 0:=trivial
end
attribute [go_sem] mp_isEmpty_cons List.isEmpty_nil cellsOf_nil splice_nil av_ne
end Go.Abs
namespace Go.Abs
noncomputable def qv {R:Type} (P:Program) (f:Func) (n:Nat) (out:AState→Option R) (cl:FuncId→List AV→List AObj→Option (AV×List AObj):=oS []) (cd:FuncId→List AV→Option AV:=Pd [])
 (wU:List Nat→AState→Option AState:=vR []) (cut:List Nat→AState→Option AState:=UF []) (Ab:FuncId→Bool:=mU []) (cp:FuncId→List AV→List AObj→Option (ud×List AObj):=fun _ _ _=>none)
 (pJ:AV→AState→Option R:=fun _ _=>none) (AZ:FuncId→Bool:=fun _=>false) (co:FuncId→List AV→List AObj→Option CO:=fun _ _ _=>none) (AY:FuncId→Bool:=fun _=>false)
 (ce:FuncId→List AV→List AObj→Option u7:=fun _ _ _=>none) (js:List Nat→List (Int×Code):=fun _=>[]) (cy:Nat→List AV→List AObj→Option (AV×List AObj):=fun _ _ _=>none):lF R:=
 {P:=P,body:=f.body.getD .skip,cl:=cl,cd:=cd,wU:=wU,cut:=cut,n:=n,out:=out,Ab:=Ab,cp:=cp,pJ:=pJ,AZ:=AZ,co:=co,AY:=AY,ce:=ce,js:=js,cy:=cy}
section
variable {R:Type} {P:Program} {f:Func} {n:Nat} {out:AState→Option R} {cl:FuncId→List AV→List AObj→Option (AV×List AObj)} {cd:FuncId→List AV→Option AV} {wU:List Nat→AState→Option AState} {cut:List Nat→AState→Option AState} {Ab:FuncId→Bool} {cp:FuncId→List AV→List AObj→Option (ud×List AObj)}
 {pJ:AV→AState→Option R} {AZ:FuncId→Bool} {co:FuncId→List AV→List AObj→Option CO} {AY:FuncId→Bool} {ce:FuncId→List AV→List AObj→Option u7} {js:List Nat→List (Int×Code)} {cy:Nat→List AV→List AObj→Option (AV×List AObj)}
theorem mkA_f:(qv P f n out cl cd wU cut Ab cp pJ AZ co AY ce js cy).P=P∧(qv P f n out cl cd wU cut Ab cp pJ AZ co AY ce js cy).body=f.body.getD .skip∧(qv P f n out cl cd wU cut Ab cp pJ AZ co AY ce js cy).n=n∧
 (qv P f n out cl cd wU cut Ab cp pJ AZ co AY ce js cy).out=out∧(qv P f n out cl cd wU cut Ab cp pJ AZ co AY ce js cy).cl=cl∧(qv P f n out cl cd wU cut Ab cp pJ AZ co AY ce js cy).cd=cd∧
 (qv P f n out cl cd wU cut Ab cp pJ AZ co AY ce js cy).wU=wU∧(qv P f n out cl cd wU cut Ab cp pJ AZ co AY ce js cy).cut=cut∧(qv P f n out cl cd wU cut Ab cp pJ AZ co AY ce js cy).Ab=Ab∧
 (qv P f n out cl cd wU cut Ab cp pJ AZ co AY ce js cy).cp=cp∧(qv P f n out cl cd wU cut Ab cp pJ AZ co AY ce js cy).pJ=pJ∧(qv P f n out cl cd wU cut Ab cp pJ AZ co AY ce js cy).AZ=AZ∧
 (qv P f n out cl cd wU cut Ab cp pJ AZ co AY ce js cy).co=co∧(qv P f n out cl cd wU cut Ab cp pJ AZ co AY ce js cy).AY=AY∧(qv P f n out cl cd wU cut Ab cp pJ AZ co AY ce js cy).ce=ce∧
 (qv P f n out cl cd wU cut Ab cp pJ AZ co AY ce js cy).js=js∧(qv P f n out cl cd wU cut Ab cp pJ AZ co AY ce js cy).cy=cy:=⟨rfl,rfl,rfl,rfl,rfl,rfl,rfl,rfl,rfl,rfl,rfl,rfl,rfl,rfl,rfl,rfl,rfl⟩
end
@[reducible] def ini (args:List AV) (n:Nat) (H:List AObj:=[]):AState:={slots:=args++gH (n-args.length) .any,heap:=H,low:=H.length}
class Fu (α:Type) where z:α
instance {α:Type}:Fu (Option α):=⟨none⟩
instance {α β:Type} [Fu β]:Fu (α→β):=⟨fun _=>Fu.z⟩
def fu {α:Type} [Fu α] (F:Nat→α):Nat→α
 |0=>Fu.z
 |n+1=>F n
theorem L4 {α:Type} [Fu α] {F:Nat→α} {n:Nat}:fu F (n+1)=F n:=rfl
def FH {α:Type} [Fu α] (F:α→α):Nat→α
 |0=>Fu.z
 |m+1=>F (FH F m)
def lpM {α:Type} [Fu α] (F:Nat→α→α):Nat→α
 |0=>Fu.z
 |m+1=>F m (lpM F m)
theorem mB {α:Type} [Fu α] {F:α→α} {G:Nat→α→Prop} (h0:G 0 Fu.z) (hs: ∀m X,G m X→G (m+1) (F X)): ∀m,G m (FH F m)
 |0=>h0
 |m+1=>hs m _ (mB h0 hs m)
theorem lpM_eq {α:Type} [Fu α] {F:Nat→α→α} {G:Nat→α→Prop} (h0:G 0 Fu.z) (hs: ∀m X,G m X→G (m+1) (F m X)): ∀m,G m (lpM F m)
 |0=>h0
 |m+1=>hs m _ (lpM_eq h0 hs m)
@[reducible] def nQ (l:List AV):List AV:= .any:: .any:: .any:: .any::l
@[reducible] def oJ (l:List AV):List AV:= .any:: .any:: .any:: .any:: .any:: .any:: .any:: .any:: .any:: .any:: .any:: .any:: .any:: .any:: .any:: .any::l
@[reducible] def DQ (l:List AV):List AV:=oJ (oJ (oJ (oJ l)))
@[reducible] def nr (l:List NZ):List NZ:=zA::zA::zA::zA::l
@[reducible] def ow (l:List NZ):List NZ:=nr (nr (nr (nr l)))
@[reducible] def DR (l:List NZ):List NZ:=ow (ow (ow (ow l)))
theorem gd {R:Type} {P:Program} {f:Func} {n:Nat} {out:AState→Option R} {cl:FuncId→List AV→List AObj→Option (AV×List AObj)} {cd:FuncId→List AV→Option AV} {nl:List (List Nat×DO)} {cu:List (List Nat×List Nat)} {Ab:FuncId→Bool} {cp:FuncId→List AV→List AObj→Option (ud×List AObj)}
 {pJ:AV→AState→Option R} {AZ:FuncId→Bool} {co:FuncId→List AV→List AObj→Option CO} {AY:FuncId→Bool} {ce:FuncId→List AV→List AObj→Option u7} {js:List Nat→List (Int×Code)} {cy:Nat→List AV→List AObj→Option (AV×List AObj)}
 (a: ∀f args σ r H',cl f args (AState.heap σ)=some (r,H')→yO P f args σ (fun o C6=>o= .ret r∧C6=H')) (d: ∀f args r,cd f args=some r→yP P f args (fun v=>v=r))
 (y: ∀l args σ r H',cy l args (AState.heap σ)=some (r,H')→JD P l args σ (fun o C6=>o= .ret r∧C6=H'):=by exact wh) (e: ∀f args σ e,ce f args (AState.heap σ)=some e→DU P f args σ e:=by exact wk)
 (p: ∀f args σ o H',cp f args (AState.heap σ)=some (o,H')→yO P f args σ (fun o' C6=>o'=o∧C6=H'):=by exact yz)
 (c: ∀f args σ,(∀e,co f args (AState.heap σ)=some (.ret e)→DU P f args σ e)∧ ∀x H',co f args σ.heap=some (.pan x H')→PanC P f args σ.heap x H':=by exact xZ):
 Good (qv P f n out cl cd (vR nl) (UF cu) Ab cp pJ AZ co AY ce js cy):=⟨a,d,rz _,rA _,y,e,p,c⟩
section
variable {β γ α β1 α1 β2 α2:Type}
abbrev SG (P:Program) (g:FuncId) (as:AL γ) (os:OL β) (b:β) (a:γ) (vS:OL β1) (s:AL α) (r:β1×α):Prop:=
 ZW P g (as.enc (os.lens b) a) (os.enc (os.lens b) b) (fun o H'=>o= .ret (s9 (s.enc (vS.lens r.1) r.2))∧H'=vS.enc (vS.lens r.1) r.1)
abbrev SP (P:Program) (g:FuncId) (as:AL γ) (os:OL β) (b:β) (a:γ) (pk:Bool) (vS:OL β1) (s1:AL α1) (FG:OL β2) (s2:AL α2) (r:PR (β1×α1) (β2×α2)):Prop:=
 FnP P g (as.enc (os.lens b) a) (os.enc (os.lens b) b) (enP pk vS s1 FG s2 r)
@[reducible] def s8 (as:AL γ) (os:OL β) (b:β) (a:γ) (k:Nat):AState:=ini (as.enc (os.lens b) a) k (os.enc (os.lens b) b)
theorem nbA {as:AL γ} {os:OL β} {b:β} {a:γ} (h:decide (as.need≤os.size)=true):nbL (os.enc (os.lens b) b).length (as.enc (os.lens b) a):=
 sM (iC (of_decide_eq_true h) (Nat.le_of_eq (os.sz _ _).symm)) _ (as.nb _ _)
theorem nbO {os:OL β} {b:β} (h:decide (os.need≤os.size)=true): ∀x∈os.enc (os.lens b) b,objNb (os.enc (os.lens b) b).length x:=
 fun x hx=>Bn (iC (of_decide_eq_true h) (Nat.le_of_eq (os.sz _ _).symm)) _ (os.nb _ _ x hx)
variable {P:Program} {fn:Func} {m:Nat} {cl:FuncId→List AV→List AObj→Option (AV×List AObj)} {cd:FuncId→List AV→Option AV} {wU:List Nat→AState→Option AState} {cut:List Nat→AState→Option AState} {Ab:FuncId→Bool} {cp:FuncId→List AV→List AObj→Option (ud×List AObj)}
 {AZ:FuncId→Bool} {co:FuncId→List AV→List AObj→Option CO} {AY:FuncId→Bool} {ce:FuncId→List AV→List AObj→Option u7} {js:List Nat→List (Int×Code)} {cy:Nat→List AV→List AObj→Option (AV×List AObj)} {k:Nat} {g:FuncId} {rs:List ResultVar} {p1 p2:List Loc} {b1 b2:List Nat} {low:Nat}
 {R:Type} {t:Ty R} {args:List AV} {as:AL γ} {os:OL β} {b:β} {a:γ} {os0:OL β1} {s:AL α} {vS:OL β1} {C7:AL α1} {FG:OL β2} {M8:AL α2}
theorem Lc {r:R} (h:run (qv P fn m (qT P rs t) cl cd wU cut Ab cp (fun _ _=>none) AZ co AY ce js cy) [.at []] (ini args k)=some r) (G:Good (qv P fn m (qT P rs t) cl cd wU cut Ab cp (fun _ _=>none) AZ co AY ce js cy)) (hf:P.funcs[g]? =some fn) (hnb:nbL 0 args) (hn:fn.ntmps=k) (Oa:fn.results=rs.toArray) (hb:fn.body=some (fn.body.getD .skip):=by exact rfl) (hne:(fn.name != "runtime.NumGoroutine")=true:=by exact rfl):yP P g args (fun v=>v=t.enc r):=
 Yn G hf hb hne hnb hn Oa (fun σ hs=>Wi hs) h
theorem okG {r:β1×α} (h:run (qv P fn m (EH P rs p1 b1 low os0 s) cl cd wU cut Ab cp (fun _ _=>none) AZ co AY ce js cy) [.at []] (s8 as os b a k)=some r) (G:Good (qv P fn m (EH P rs p1 b1 low os0 s) cl cd wU cut Ab cp (fun _ _=>none) AZ co AY ce js cy)) (hf:P.funcs[g]? =some fn) (hn:fn.ntmps=k) (Oa:fn.results=rs.toArray) (h1:decide (as.need≤os.size)=true:=by kernel_rfl) (h2:decide (os.need≤os.size)=true:=by kernel_rfl) (VW:b1=gK low:=by exact rfl) (hb:fn.body=some (fn.body.getD .skip):=by exact rfl) (hne:(fn.name != "runtime.NumGoroutine")=true:=by exact rfl):SG P g as os b a os0 s r:=
 Dx G hf hb hne (nbA h1) (nbO h2) hn Oa (fun σ hs=>NJ VW hs) h
theorem Qv {r:PR (β1×α1) (β2×α2)} (h:run (qv P fn m (p9 P rs p1 b1 low vS C7) cl cd wU cut Ab cp (qa p2 b2 low FG M8) AZ co AY ce js cy) [.at []] (s8 as os b a k)=some r) (G:Good (qv P fn m (p9 P rs p1 b1 low vS C7) cl cd wU cut Ab cp (qa p2 b2 low FG M8) AZ co AY ce js cy)) (hf:P.funcs[g]? =some fn) (hn:fn.ntmps=k) (Oa:fn.results=rs.toArray) (h1:decide (as.need≤os.size)=true:=by kernel_rfl) (h2:decide (os.need≤os.size)=true:=by kernel_rfl) (hone: ∀b a,∃y,M8.enc (FG.lens b) a=[y]:=by exact fun b a=>⟨_,rfl⟩) (VW:b1=gK low:=by exact rfl) (hb2:b2=gK low:=by exact rfl) (hb:fn.body=some (fn.body.getD .skip):=by exact rfl) (hne:(fn.name != "runtime.NumGoroutine")=true:=by exact rfl):SP P g as os b a true vS C7 FG M8 r:=
 fnP_run G hf hb hne (nbA h1) (nbO h2) hn Oa VW hb2 hone rfl rfl h
theorem okS {r:PR (β1×α1) (β2×α2)} (h:run (qv P fn m (Zy P rs p1 b1 low vS C7 p2 FG M8) cl cd wU cut Ab cp (fun _ _=>none) AZ co AY ce js cy) [.at []] (s8 as os b a k)=some r) (G:Good (qv P fn m (Zy P rs p1 b1 low vS C7 p2 FG M8) cl cd wU cut Ab cp (fun _ _=>none) AZ co AY ce js cy)) (hf:P.funcs[g]? =some fn) (hn:fn.ntmps=k) (Oa:fn.results=rs.toArray) (h1:decide (as.need≤os.size)=true:=by kernel_rfl) (h2:decide (os.need≤os.size)=true:=by kernel_rfl) (VW:b1=gK low:=by exact rfl) (hb:fn.body=some (fn.body.getD .skip):=by exact rfl) (hne:(fn.name != "runtime.NumGoroutine")=true:=by exact rfl):SP P g as os b a false vS C7 FG M8 r:=
 fnS_run G hf hb hne (nbA h1) (nbO h2) hn Oa VW rfl h
end
noncomputable def entDC (e:EntD):List AV→List AObj→Option CO:=fun args _=>(e args).bind fun r=>some (.ret {val:=r})
def entCA (a b:List AV→List AObj→Option CO):List AV→List AObj→Option CO:=fun args H=>(a args H).or (b args H)
theorem entDC_ok {P:Program} {f:FuncId} {e:EntD} (h:JH P f e):Xf P f (entDC e):=by
 intro args σ
 refine ⟨fun ef he=> ?_,fun x H' he=> ?_⟩
 ·simp only[entDC,gE,gF,CO.ret.injEq] at he
  obtain ⟨r,hr,rfl⟩:=he
  refine ⟨⟨by simp,by simp⟩,fun σ' _ _ _=> ?_⟩
  refine yO.mono (L2 (σ:=σ') (K:=fun o H'=>o= .ret r∧H'=σ'.heap) (h args r hr) (by rintro _ rfl;exact ⟨rfl,rfl⟩)) ?_
  rintro o H ⟨rfl,rfl⟩
  exact ⟨rfl,by simp [l7]⟩
 ·simp only[entDC,gE,gF] at he
  obtain ⟨r,_,he⟩:=he
  cases he
attribute [go_sem] entDC entCA mkA_f s8 ini nQ oJ DQ nr ow DR
end Go.Abs
namespace Go.Abs
section
variable {α δ δ':Type}
theorem tupOf_nb {n:Nat}: ∀ {ys:List AV},nbL n ys→(s9 ys).nb n
 |[],h=>h
 |[_],h=>h.1
 |_::_::_,h=>h
theorem set_same {H:List AObj} {l:Nat} {x:AObj} (h:H[l]? =some x):H.set l x=H:=by
 obtain ⟨hl,rfl⟩:=gG.1 h
 exact iy hl
noncomputable def entA (pY:Bool) (row:Row α) (s:AL δ) (rs:AL δ') (F:(List α×Unit)→δ→Option ((List α×Unit)×δ')):List AV→List AObj→Option CO:=fun args H=>match args with
 | .acc l n::cs=>match H[l]? with
   |some x=>(daT pY row x).bind fun rows=>pcond (n=rows.length) (pcond (x= .acc pY row.sz (mp row.enc rows)) ((s.dec [] ((lG (VI pY row) nM).lens (rows,())) H cs).bind fun a=>pcond (cs=s.enc ((lG (VI pY row) nM).lens (rows,())) a) ((F (rows,()) a).bind fun r=>
     pcond (r.1=(rows,())) (some (.ret {val:=s9 (rs.enc ((lG (VI pY row) nM).lens (rows,())) r.2),rd:=[l]})))))
   |none=>none
 |_=>none
theorem entA_eq {pY:Bool} {row:Row α} {s:AL δ} {rs:AL δ'} {F:(List α×Unit)→δ→Option ((List α×Unit)×δ')} {l n:Nat} {cs:List AV} {H:List AObj}:entA pY row s rs F (.acc l n::cs) H=match H[l]? with
 |some x=>(daT pY row x).bind fun rows=>pcond (n=rows.length) (pcond (x= .acc pY row.sz (mp row.enc rows)) ((s.dec [] ((lG (VI pY row) nM).lens (rows,())) H cs).bind fun a=>pcond (cs=s.enc ((lG (VI pY row) nM).lens (rows,())) a) ((F (rows,()) a).bind fun r=>
   pcond (r.1=(rows,())) (some (.ret {val:=s9 (rs.enc ((lG (VI pY row) nM).lens (rows,())) r.2),rd:=[l]})))))
 |none=>none:=rfl
theorem entA_no {pY:Bool} {row:Row α} {s:AL δ} {rs:AL δ'} {F:(List α×Unit)→δ→Option ((List α×Unit)×δ')} {b:Bool} {t:Nat} {rows:List (List AV)} {cs:List AV} {H:List AObj}:entA pY row s rs F (.l5 b t rows::cs) H=none:=rfl
theorem entA_ok {P:Program} {f:FuncId} {pY:Bool} {row:Row α} {s:AL δ} {rs:AL δ'} {F:(List α×Unit)→δ→Option ((List α×Unit)×δ')} (hs:s.need=0) (hr:rs.need=0)
 (h: ∀b a r,F b a=some r→SG P f (alA 0 s) (lG (VI pY row) nM) b a (lG (VI pY row) nM) rs r):Xf P f (entA pY row s rs F):=by
 have key: ∀args (σ:AState) c,entA pY row s rs F args σ.heap=some c→ ∃ef,c= .ret ef∧DU P f args σ ef:=by
  intro args σ c hc
  unfold entA at hc
  split at hc
  ·rename_i l n cs
   split at hc
   ·rename_i x hx
    simp only[gE,lV] at hc
    obtain ⟨rows,_,hn,hxe,a,_,hcs,r,hF,hr1,hc⟩:=hc
    cases hc
    subst hn
    refine ⟨_,rfl,⟨⟨fun k hk=> ?_,by simp⟩,fun σ' hrd _ _=> ?_⟩⟩
    ·simp only[List.mem_singleton] at hk
     subst hk
     exact (gG.1 hx).1
    ·have hx':σ'.heap[l]? =some x:=(hrd l (by simp)).trans hx
     have hlt:l<σ'.heap.length:=(gG.1 hx').1
     have hG:ZW P f (.acc 0 rows.length::s.enc ((lG (VI pY row) nM).lens (rows,())) a) [x] (fun o H'=>o= .ret (s9 (rs.enc ((lG (VI pY row) nM).lens (rows,())) r.2))∧H'=[x]):=by
      have:=h (rows,()) a r hF
      unfold SG at this
      rw[hr1] at this
      rw[hxe]
      exact this
     have hxn:objNb 0 x:=by rw[hxe];exact (VI pY row).nb (fun _=>0) rows
     have hxr: ∀τ,x.ren τ=x:=fun τ=>by rw[hxe];exact (Zi pY row).ren τ rows
     have hsn:nbL 0 (s.enc ((lG (VI pY row) nM).lens (rows,())) a):=by have:=s.nb ((lG (VI pY row) nM).lens (rows,())) a;rwa [hs] at this
     have hb:mO [l] σ'.heap.length 0=l:=by simp [mO]
     have ya:=callG (σ:=σ') (Kb:= .acc l rows.length::cs) (ρ:=[l]) hG (by simp) rfl (gR _)
      (by
        intro i k hi
        cases i with
        |zero=>simp at hi;subst hi;exact ⟨x,x,hx',rfl,.inr (.inl ⟨rfl,Bn (gQ _) x hxn⟩)⟩
        |succ i=>simp at hi)
      (by
        rw[renL,AV.ren,hb,pg _ _ hsn,←hcs]
        exact B8.same ⟨hlt,by rw[hcs];exact sM (gQ _) _ hsn⟩)
      (by
        intro y hy τ
        simp at hy
        subst hy
        exact hxr τ)
     refine yO.mono ya ?_
     rintro o H ⟨rfl,rfl⟩
     refine ⟨?_,?_⟩
     ·have hn0:(s9 (rs.enc ((lG (VI pY row) nM).lens (rows,())) r.2)).nb 0:=by
       have:=rs.nb ((lG (VI pY row) nM).lens (rows,())) r.2
       rw[hr] at this
       exact tupOf_nb this
      rw[GF _ _ hn0]
     ·show qb σ'.heap [l] [x]++[]=_
      simp only[qb,hU,l7]
      exact set_same hx'
   ·cases hc
  ·cases hc
 intro args σ
 refine ⟨fun ef he=> ?_,fun x H' he=> ?_⟩
 ·obtain ⟨ef',h1,h2⟩:=key args σ _ he
  cases h1
  exact h2
 ·obtain ⟨ef',h1,_⟩:=key args σ _ he
  cases h1
end
theorem mp_one {α:Type} {i:Bool} {s:Nat} {f:α→List AV} {a:List α} {x:α}:(AObj.acc i s (mp f a++[f x])=AObj.acc i s (mp f (a++[x])))=True:=by
 rw[qe,qe,ig];simp
theorem mp_oneset {α:Type} {i:Bool} {s:Nat} {f:α→List AV} {a:List α} {x y:α} {k:Nat}:(AObj.acc i s ((mp f a++[f x]).set k (f y))=AObj.acc i s (mp f ((a++[x]).set k y)))=True:=by
 rw[qe,qe,List.map_set,ig];simp
theorem stepDP_pcond {R:Type} {M:lF R} {p:List Nat} {dst:Option Tmp} {rest:List Oper} {j:Nat} {tr:List Tr} {k:List Kt} {σ:AState} {c:Prop} {x:Option CO}:
 Gp M p dst rest j tr k σ (pcond c x)=pcond c (Gp M p dst rest j tr k σ x):=by
 by_cases h:c
 ·simp only[pcond,h,if_true]
 ·simp only[pcond,h,if_false];exact Xz
theorem stepA_pcond {R:Type} {M:lF R} {k:List Kt} {σ:AState} {ops:Array Oper} {dst:Option Tmp} {rest:List Oper} {c:Prop} {x:Option (AV×List AObj)}:Kc M ops dst rest k σ (pcond c x)=pcond c (Kc M ops dst rest k σ x):=by
 by_cases h:c
 ·simp only[pcond,h,if_true]
 ·simp only[pcond,h,if_false];exact Y7
attribute [go_sem] stepA_pcond stepDP_pcond entA_eq entA_no mp_one mp_oneset
end Go.Abs
namespace Go.Abs
def TDef (P:Program) (u:FrameMode) (f:FuncId):Value→World→Array Value→(Ending→World→Prop)→Prop:=fun _ w vs R=>
 CallsDIn Fence.wide 0 P f vs u w fun e u' w'=> ∃r,e= .returned r∧u'=u∧R (.returned r) w'
theorem tdef_mono {P:Program} {u:FrameMode} {f:FuncId}:Sg (TDef P u f):=⟨fun _ _ _ _ _ hr h=>vV h fun _ _ _ ⟨r,h1,h2,h3⟩=>⟨r,h1,h2,hr _ _ h3⟩⟩
theorem fnT_def {P:Program} {f:FuncId} {fn:Func} {c:Code} {u:FrameMode} {args:List AV} {H:List AObj} {V:ud→List AObj→Prop} (hf:P.funcs[f]? =some fn) (hb:fn.body=some c)
 (hnb:nbL H.length args) (Fc: ∀x∈H,objNb H.length x) {n:Nat} (hn:fn.ntmps=n) {rs:List ResultVar} (Oa:fn.results=rs.toArray)
 (h:XQ P c (dPost P rs V) {slots:=args++gH (n-args.length) .any,heap:=H,low:=H.length}):Y0 P (TDef P u f) args H V:=by
 refine ⟨hnb,Fc,fun C φ w hP h0 hN0 hφ0 hM HS vs hr=> ?_⟩
 subst hP
 have hsz:vs.size=args.length:=by have:=hr.length;simpa using this
 have S:mA C φ {slots:=args++gH (n-args.length) .any,heap:=H,low:=H.length} {tmps:=vs++gM (fn.ntmps-vs.size) undef,defers:=[]} w:=by
  refine {HS with slots:= ?_,defers:=rB.nil}
  simp only[gY,ir]
  refine hr.append ?_
  rw[hsz,hn]
  have:=k6.C1 (E:=C.env φ H w) (gH (n-args.length) undef)
  simpa using this
 have EF: ∀ {φ':Nat→Value} {σ':AState} {a'':Act} {w'':World},mA C φ' σ' a'' w''→σ'.low=H.length:=fun S'=>by rw[←S'.low.1];exact hN0
 refine NK hf hb trivial ?_
 intro c₀ cs hu
 refine wpSIn_of_wpIn rfl (wpIn_mono (wT (ro:=none) c _ φ _ _ w (.inl rfl) h S) ?_)
 intro e a' w' hq
 have fin: ∀φ' σ',mA C φ' σ' a' w'→σ'.df=[]∧W0 C.P rs V none σ'→Ms C fn c₀ cs (fun e u2 w'=> ∃r,e= .returned r∧u2=u∧ ∃o φ' H',V o H'∧mA C φ' {slots:=[],heap:=H',low:=H.length} {tmps:= #[],defers:=[]} w'∧o.rep (C.env φ' H' w') (.returned r)) .normal a' (c₀::cs) w':=by
  rintro φ' σ' S' ⟨hdf,xr,hx,r,H',hex,hV'⟩
  refine ⟨u,by rw[←hu],φ',σ',S',hdf,fun w'' S''=> ?_⟩
  obtain ⟨vv,hv,rv⟩:=J9 (fn:=fn) S'' (by rw[Oa];exact hx)
  obtain ⟨φ3,S3,hr3⟩:=hex C φ' _ w'' S'' vv rv
  rw[EF S''] at S3
  exact ⟨vv,hv,vv,rfl,rfl,.ret r,φ3,H',hV',S3,hr3⟩
 cases e with
 |normal=>obtain ⟨φ',σ',S',hq⟩:=hq;exact fin φ' σ' S' hq
 |ret=>obtain ⟨φ',σ',S',hq⟩:=hq;exact fin φ' σ' S' hq
 |exit id=>obtain ⟨_,_,_,hq⟩:=hq;exact hq.elim
 |goto l=>obtain ⟨_,_,_,hq⟩:=hq;exact hq.elim
 |panic chain=>obtain ⟨_,_,_,_,_,hq,_⟩:=hq;exact hq.elim
 |outgrown=>exact hq.elim
section
variable {β1 α1:Type}
theorem fnT_def_run {M:lF (β1×α1)} {f:FuncId} {fn:Func} {u:FrameMode} {args:List AV} {H:List AObj} {r:β1×α1} {n:Nat} {rs:List ResultVar} {vS:OL β1} {C7:AL α1} {p1:List Loc} {b1:List Nat} {low:Nat} (G:Good M)
 (hf:M.P.funcs[f]? =some fn) (hb:fn.body=some M.body) (hnb:nbL H.length args) (Fc: ∀x∈H,objNb H.length x) (hn:fn.ntmps=n) (Oa:fn.results=rs.toArray) (VW:b1=gK low) (ho:M.out=EH M.P rs p1 b1 low vS C7)
 (h:run M [.at []] {slots:=args++gH (n-args.length) .any,heap:=H,low:=H.length}=some r) (hP: ∀x σ',M.pJ x σ'=none:=by intros;rfl):
 Y0 M.P (TDef M.P u f) args H (fun o H'=>o=(X5 vS C7 r).1∧H'=(X5 vS C7 r).2):=by
 refine fnT_def hf hb hnb Fc hn Oa (Qj G h (fun σ hs=> ?_) (fun x σ hs=>by rw[hP x σ] at hs;cases hs))
 rw[ho] at hs
 obtain ⟨hd,xs,hx,himp⟩:=NJ VW hs
 have:=Kf (P:=M.P) hx himp
 exact ⟨⟨hd,this⟩,hd,this⟩
end
def spl {γ:Type}:List AV→(List AV→AV→Option γ)→Option γ
 |[],_=>none
 |[x],k=>k [] x
 |a::b::l,k=>spl (b::l) fun l x=>k (a::l) x
theorem spl_one {γ:Type} {x:AV} {k:List AV→AV→Option γ}:spl [x] k=k [] x:=rfl
theorem spl_cons {γ:Type} {a b:AV} {l:List AV} {k:List AV→AV→Option γ}:spl (a::b::l) k=spl (b::l) fun l x=>k (a::l) x:=rfl
theorem spl_some {γ:Type}: ∀ {l:List AV} {k:List AV→AV→Option γ} {r:γ},spl l k=some r→ ∃as x,l=as++[x]∧k as x=some r
 |[x],k,r,h=>⟨[],x,rfl,h⟩
 |a::b::l,k,r,h=>by
  obtain ⟨as,x,h1,h2⟩:=spl_some (l:=b::l) h
  exact ⟨a::as,x,by rw[h1];rfl,h2⟩
def panQ (c:Og):Og:=fun f args H=>spl args fun as x=>(c f as H).bind fun q=>some (.panic x,q.2)
def QDOK (P:Program) (c:Og):Prop:= ∀u,QOK P (TDef P u) c
theorem qd_ret {P:Program} {c:Og} (h:QDOK P c):QOK P (TRet P) c:=by
 intro f args σ o H' he
 obtain ⟨h1,h2⟩:=h .returning f args σ o H' he
 refine ⟨h1,fun C φ a w hP S vs hr=> ?_⟩
 refine vV (h2 C φ a w hP S vs hr) ?_
 rintro e u' w' ⟨r,rfl,rfl,h3⟩
 exact ⟨r,rfl,rfl,h3⟩
theorem qd_pan {P:Program} {c:Og} (h:QDOK P c):QOK P (TPan P) (panQ c):=by
 intro f args σ o H' he
 obtain ⟨as,x,rfl,hk⟩:=spl_some he
 simp only[gE,gF,gN] at hk
 obtain ⟨q,hq,rfl,rfl⟩:=hk
 refine ⟨(h .returning f as σ q.1 q.2 hq).1,fun C φ a w hP S vs hr Y2 v hvs=> ?_⟩
 subst hvs
 have hr':k6 (C.env φ σ.heap w) as Y2.toList∧nO (C.env φ σ.heap w) x v:=by
  rw[Array.toList_push] at hr
  have hl:Y2.toList.length=as.length:=by
   have:=hr.length
   simp at this
   simpa using this
  have h1:=hr.take as.length
  have h2:=hr.drop as.length
  rw[gO rfl,gO hl] at h1
  rw[gP rfl,gP hl] at h2
  obtain ⟨u,us,he,r1,_⟩:=h2
  simp only[gX] at he
  obtain ⟨rfl,_⟩:=he
  exact ⟨h1,r1⟩
 have hc:=(h (.panicking [{v,recovered:=false}]) f as {σ with slots:=σ.slots++[x]} q.1 q.2 hq).2
 cases a with
 |mk tmps ds=>
 refine vV (hc C φ _ w hP (S.repush hr'.2) Y2 hr'.1) ?_
 rintro e u' w' ⟨r,rfl,rfl,o,φ',H',⟨rfl,rfl⟩,S2,rR⟩
 have S3:mA C φ' {({σ with heap:=q.2}:AState) with slots:=({σ with heap:=q.2}:AState).slots++[x]} {tmps:=tmps.push v,defers:=ds} w':=S2
 obtain ⟨S4,h4⟩:=S3.unpush S.len
 exact ⟨r,rfl,.inr ⟨v,rfl,.panic x,φ',q.2,⟨rfl,rfl⟩,S4,v,rfl,h4⟩⟩
section ends
variable {R:Type} {α β α1 β1 α2 β2 γ:Type}
noncomputable def enX (f:AState→Option R) (g:AV→AState→Option R):Option AV→AState→Option R
 |none,σ=>f σ
 |some x,σ=>g x σ
theorem enX_f {f:AState→Option R} {g:AV→AState→Option R} {σ:AState}:enX f g none σ=f σ∧ ∀x,enX f g (some x) σ=g x σ:=⟨rfl,fun _=>rfl⟩
noncomputable def outDR (c:Og) (f:AState→Option R) (g:AV→AState→Option R) (σ:AState):Option R:=RC c (panQ c) (enX f g) σ.df none σ
noncomputable def outDP (c:Og) (f:AState→Option R) (g:AV→AState→Option R) (x:AV) (σ:AState):Option R:=RC c (panQ c) (enX f g) σ.df (some x) σ
theorem panQ_f {c:Og} {f:FuncId} {args:List AV} {H:List AObj}:panQ c f args H=spl args fun as x=>(c f as H).bind fun q=>some (.panic x,q.2):=rfl
attribute [go_sem] enX_f outDR outDP panQ_f spl_one spl_cons
variable {P:Program} {fn:Func} {m:Nat} {cl:FuncId→List AV→List AObj→Option (AV×List AObj)} {cd:FuncId→List AV→Option AV} {wU:List Nat→AState→Option AState} {cut:List Nat→AState→Option AState} {Ab:FuncId→Bool} {cp:FuncId→List AV→List AObj→Option (ud×List AObj)}
 {AZ:FuncId→Bool} {co:FuncId→List AV→List AObj→Option CO} {AY:FuncId→Bool} {ce:FuncId→List AV→List AObj→Option u7} {js:List Nat→List (Int×Code)} {cy:Nat→List AV→List AObj→Option (AV×List AObj)} {k:Nat} {g:FuncId} {rs:List ResultVar} {p1 p2:List Loc} {b1 b2:List Nat} {low:Nat}
 {as:AL γ} {os:OL β} {b:β} {a:γ} {os0:OL β1} {s:AL α} {vS:OL β1} {C7:AL α1} {FG:OL β2} {M8:AL α2} {c:Og}
theorem okPD {r:PR (β1×α1) (β2×α2)} (hc:QDOK P c) (h:run (qv P fn m (outDR c (p9 P rs p1 b1 low vS C7) (qa p2 b2 low FG M8)) cl cd wU cut Ab cp (outDP c (p9 P rs p1 b1 low vS C7) (qa p2 b2 low FG M8)) AZ co AY ce js cy) [.at []] (s8 as os b a k)=some r)
 (G:Good (qv P fn m (outDR c (p9 P rs p1 b1 low vS C7) (qa p2 b2 low FG M8)) cl cd wU cut Ab cp (outDP c (p9 P rs p1 b1 low vS C7) (qa p2 b2 low FG M8)) AZ co AY ce js cy)) (hf:P.funcs[g]? =some fn) (hn:fn.ntmps=k) (Oa:fn.results=rs.toArray)
 (h1:decide (as.need≤os.size)=true:=by kernel_rfl) (h2:decide (os.need≤os.size)=true:=by kernel_rfl) (hone: ∀b a,∃y,M8.enc (FG.lens b) a=[y]:=by exact fun b a=>⟨_,rfl⟩) (VW:b1=gK low:=by exact rfl) (hb2:b2=gK low:=by exact rfl) (hb:fn.body=some (fn.body.getD .skip):=by exact rfl) (hne:(fn.name != "runtime.NumGoroutine")=true:=by exact rfl):SP P g as os b a true vS C7 FG M8 r:=by
 have he: ∀m' σ,σ.df=[]→enX (p9 P rs p1 b1 low vS C7) (qa (β1:=β1) (α1:=α1) p2 b2 low FG M8) m' σ=some r→W0 P rs (fun o H'=>o=(enP true vS C7 FG M8 r).1∧H'=(enP true vS C7 FG M8 r).2) m' σ:=by
  intro m' σ _ hs
  cases m' with
  |none=>
   simp only[enX,p9,gI] at hs
   obtain ⟨q,hq,rfl⟩:=hs
   obtain ⟨hd,xs,hx,himp⟩:=NJ VW hq
   exact Kf hx himp
  |some x=>
   simp only[enX,qa,gI] at hs
   obtain ⟨q,hq,rfl⟩:=hs
   obtain ⟨hd,himp⟩:=Wo hb2 hq
   obtain ⟨y,hy⟩:=hone q.1 q.2
   rw[hy] at himp
   have:=gEnd_pan (P:=P) (rs:=rs) himp.e
   simp only[enP,ZX,hy,tupOf_one,pkO]
   exact this
 exact Wk G hf hb hne (nbA h1) (nbO h2) hn Oa (fun σ hs=>Qu (qd_ret hc) (qd_pan hc) he σ.df none σ rfl hs) (fun x σ hs=>Qu (qd_ret hc) (qd_pan hc) he σ.df (some x) σ rfl hs) h
abbrev SD (P:Program) (g:FuncId) (as:AL γ) (os:OL β) (b:β) (a:γ) (vS:OL β1) (s:AL α1) (r:β1×α1):Prop:=
 ∀u,Y0 P (TDef P u g) (as.enc (os.lens b) a) (os.enc (os.lens b) b) (fun o H'=>o=(X5 vS s r).1∧H'=(X5 vS s r).2)
theorem okD {r:β1×α} (h:run (qv P fn m (EH P rs p1 b1 low os0 s) cl cd wU cut Ab cp (fun _ _=>none) AZ co AY ce js cy) [.at []] (s8 as os b a k)=some r) (G:Good (qv P fn m (EH P rs p1 b1 low os0 s) cl cd wU cut Ab cp (fun _ _=>none) AZ co AY ce js cy)) (hf:P.funcs[g]? =some fn) (hn:fn.ntmps=k) (Oa:fn.results=rs.toArray) (h1:decide (as.need≤os.size)=true:=by kernel_rfl) (h2:decide (os.need≤os.size)=true:=by kernel_rfl) (VW:b1=gK low:=by exact rfl) (hb:fn.body=some (fn.body.getD .skip):=by exact rfl):SD P g as os b a os0 s r:=
 fun u=>fnT_def_run G hf hb (nbA h1) (nbO h2) hn Oa VW rfl h
theorem tabD1_ok {e:X4} {g:Nat} (h: ∀u,∀args (σ:AState) o H',e args σ.heap=some (o,H')→enters P g=true∧NF P (TDef P u g) 0 args σ (fun o' C6=>o'=o∧C6=H')):QDOK P (Mt [(g,e)]):=fun u=>Hv (h u) Kg
end ends
end Go.Abs
namespace Go.Abs
def dNI:AV→Option Unit
 | .raw .nilIface=>some ()
 |_=>none
def tyNI:Ty Unit where
 enc _:= .raw .nilIface
 dec _:=dNI
 ok H n v x h:=by
  unfold dNI at h
  split at h
  ·exact Co.same trivial
  ·cases h
 nb n x:=trivial
theorem tyNI_f:(∀x,tyNI.enc x= .raw .nilIface)∧(∀H v,tyNI.dec H v=dNI v)∧dNI (.raw .nilIface)=some ():=⟨fun _=>rfl,fun _ _=>rfl,rfl⟩
attribute [go_sem] tyNI_f
theorem fnC_atoi {P:Program} {f:FuncId} {T:TypeId} (he:enters P f=true)
 (h: ∀ (s:ByteArray) (n:Int) (w:World),s.size≤18→Lib.atoi s.data.toList=some n→Calls P f #[.string s] w fun e w'=>e= .returned (.tuple #[.int .i64 n,.nilIface])∧ ∃t,w'=Lib.bytesWorld w T t)
 (s:Str) (n:Int) (hl:s.length≤18) (hn:Lib.atoi s=some n):yP P f [nh.enc s] (fun v=>v=(ty2 (mK .i64) tyNI).enc (n,())):=by
 refine ⟨he,⟨nh.nb 0 _,trivial⟩,fun C φ w hP hw hN0 hM vs hr=> ?_⟩
 obtain rfl:vs= #[.string (sb s)]:=by
  obtain ⟨v0,us,hvs,r0,hnil⟩:=hr
  have YA:us=[]:=hnil
  have e0:v0= .string (sb s):=r0
  subst YA e0
  cases vs;simp_all
 refine (h (sb s) n w (by rw[Qp];exact hl) (by rw[Qs];exact hn)).mono ?_
 rintro e w' ⟨rfl,t,rfl⟩
 have hb:=Lib.bytesWorld_below w T t
 exact ⟨_,_,φ,rfl,rfl,⟨_,rfl,_,_,rfl,rfl,_,_,rfl,rfl,rfl⟩,hb.size,hb.block,fun x hx=>hb.frozen hx,hb.output,hb.os⟩
end Go.Abs
namespace Go.Abs
section
variable {C:Ctx} {φ:Nat→Value} {σ:AState} {a:Act} {w:World}
def mA.calm (S:mA C φ σ a w):Ctx:=
 {P:=C.P,w0:=w,M0:=fun _ _=>False,A:=fun _ _=>False,hA:=fun _ _ h=>h.elim,hk:=fun b o h=>let ⟨v,h1,h2,_⟩:=S.know b o h;⟨v,h1,h2,fun f=>f⟩}
theorem mA.calm_le (S:mA C φ σ a w):(C.env φ σ.heap w).Le 0 (S.calm.env φ [] w):=by
 refine ⟨gQ _,fun l hl=>absurd hl (Nat.not_lt_zero _),fun b o u hm hc=>⟨?_,hc⟩⟩
 simp only[Ctx.env,mA.calm]
 rintro (⟨l,x,hx,_⟩|h)
 ·simp at hx
 ·exact h
def viewC:Option AObj→Option AV
 |some (.cells cs)=>some (.pp cs)
 |_=>none
def viewP (H:List AObj):AV→Option AV
 | .ptr l o=>bif o==0 then viewC H[l]? else none
 |x=>some x
theorem viewP_f {H:List AObj}:(∀l,viewP H (.ptr l 0)=viewC H[l]?)∧(∀k n,viewP H (.int k n)=some (.int k n))∧(∀b,viewP H (.bool b)=some (.bool b))∧(∀s,viewP H (.str s)=some (.str s))∧(∀t z r,viewP H (.l5 t z r)=some (.l5 t z r))∧(∀c,viewP H (.agg c)=some (.agg c))∧(∀c,viewP H (.pp c)=some (.pp c))∧(∀c,viewP H (.raw c)=some (.raw c))∧ ∀f x y,viewP H (.func f x y)=some (.func f x y):=
 ⟨fun _=>rfl,fun _ _=>rfl,fun _=>rfl,fun _=>rfl,fun _ _ _=>rfl,fun _=>rfl,fun _=>rfl,fun _=>rfl,fun _ _ _=>rfl⟩
theorem viewC_f {cs:List AV}:viewC (some (.cells cs))=some (.pp cs):=rfl
theorem viewP_sound (S:mA C φ σ a w) {x y:AV} {v:Value} (h:viewP σ.heap x=some y) (hn:y.nb 0) (r:nO (C.env φ σ.heap w) x v):nO (S.calm.env φ [] w) y v:=by
 cases x with
 |ptr l o=>
  simp only[viewP] at h
  cases ho:o==0 with
  |false=>rw[ho] at h;cases h
  |true=>
   rw[ho,cond_true] at h
   have ho:=beq_iff_eq.1 ho
   subst ho
   cases hl:σ.heap[l]? with
   |none=>rw[hl] at h;cases h
   |some z=>
    rw[hl] at h
    cases z with
    |cells cs=>
     cases h
     obtain ⟨_,b,hb,rfl⟩:=r
     obtain ⟨b',c,t,hb',hc,rl,h1⟩:=S.objs l _ hl
     have hb:φ l=_:=hb
     rw[hb] at hb'
     simp only[Value.pointer.injEq,gF,Addr.mk.injEq,and_true] at hb'
     subst hb'
     have e:(c.toList.drop 0).take cs.length=c.toList:=by
      rw[List.drop_zero,gT]
      have:=rl.length
      omega
     refine ⟨b,0,rfl,F9 (E:=S.calm.env φ [] w) (c:=c) (t:=t) (fr:=(0,0)) hc cs 0 (fun o _ _=> ?_) ?_ ?_⟩
     ·simp only[Ctx.env,mA.calm]
      rintro (⟨l,x,hx,_⟩|h)
      ·simp at hx
      ·exact h
     ·rw[e];exact k6.mono S.calm_le _ _ hn rl
     ·rw[e];exact h1
    |_=>cases h
 |_=>cases h;exact nO.mono S.calm_le _ _ hn r
theorem XJ (S:mA C φ σ a w): ∀ {xs ys:List AV} {vs:List Value},mapO (viewP σ.heap) xs=some ys→nbL 0 ys→k6 (C.env φ σ.heap w) xs vs→k6 (S.calm.env φ [] w) ys vs
 |[],ys,vs,h,_,r=>by simp only[mapO,gF] at h;subst h;exact r
 |x::xs,ys,vs,h,hn,⟨u,us,hv,r1,r2⟩=>by
  simp only[mapO,gE,gF] at h
  obtain ⟨y,hy,zs,hz,rfl⟩:=h
  exact ⟨u,us,hv,viewP_sound S hy hn.1 r1,XJ S hz hn.2 r2⟩
def sc1:AV→AV
 | .int k n=> .int k n
 | .bool b=> .bool b
 | .str s=> .str s
 |_=> .any
def sc2:AV→AV
 | .agg cs=> .agg (cs.map sc1)
 |x=>sc1 x
def scal:AV→AV
 | .tup cs=> .tup (cs.map sc2)
 |x=>sc2 x
section
variable {E E':Env}
theorem sc1_rep {x:AV} {v:Value} (h:nO E x v):nO E' (sc1 x) v:=by
 cases x with
 |int=>exact h
 |bool=>exact h
 |str=>exact h
 |_=>exact trivial
theorem sc1_repL: ∀ {xs:List AV} {vs:List Value},k6 E xs vs→k6 E' (xs.map sc1) vs
 |[],_,h=>h
 |_::_,_,⟨u,us,hv,r1,r2⟩=>⟨u,us,hv,sc1_rep r1,sc1_repL r2⟩
theorem sc2_rep {x:AV} {v:Value} (h:nO E x v):nO E' (sc2 x) v:=by
 cases x with
 |agg cs=>obtain ⟨vs,hv,hr⟩:=h;exact ⟨vs,hv,sc1_repL hr⟩
 |_=>exact sc1_rep h
theorem sc2_repL: ∀ {xs:List AV} {vs:List Value},k6 E xs vs→k6 E' (xs.map sc2) vs
 |[],_,h=>h
 |_::_,_,⟨u,us,hv,r1,r2⟩=>⟨u,us,hv,sc2_rep r1,sc2_repL r2⟩
theorem scal_rep {x:AV} {v:Value} (h:nO E x v):nO E' (scal x) v:=by
 cases x with
 |tup cs=>obtain ⟨vs,hv,hr⟩:=h;exact ⟨vs,hv,sc2_repL hr⟩
 |_=>exact sc2_rep h
end
def entV (e:EntD):Ent:=fun args H=>(mapO (viewP H) args).bind fun as=>(e as).bind fun r=>some (scal r,H)
theorem oa {P:Program} {f:FuncId} {e:EntD} (h:JH P f e):NH P f (entV e):=by
 intro args σ r H' he
 unfold entV at he
 simp only[gE,gF,gN] at he
 obtain ⟨as,hv,q,hq,rfl,rfl⟩:=he
 obtain ⟨hen,hnb,hc⟩:=h as q hq
 refine ⟨hen,fun C φ a w hP S vs hr=> ?_⟩
 refine (hc S.calm φ w hP rfl rfl (fun _ _ h=>h) vs (XJ S hv hnb hr)).mono ?_
 rintro e' w' ⟨r,v,φ',rfl,rfl,rep,hs,hh,hf,ho⟩
 exact ⟨.ret (scal r),φ,σ.heap,⟨rfl,rfl⟩,S.grown hs hh hf ho,scal_rep rep⟩
def Wv:AV→List Nat
 | .ptr l _=>[l]
 |_=>[]
def Mu:List AV→List Nat
 |[]=>[]
 |x::xs=>Wv x++Mu xs
theorem ptrO_f:(∀l o,Wv (.ptr l o)=[l])∧(∀k n,Wv (.int k n)=[])∧(∀b,Wv (.bool b)=[])∧(∀s,Wv (.str s)=[])∧(∀t z r,Wv (.l5 t z r)=[])∧(∀c,Wv (.agg c)=[])∧(∀c,Wv (.pp c)=[])∧(∀c,Wv (.raw c)=[])∧(∀f x y,Wv (.func f x y)=[])∧Mu []=[]∧ ∀x xs,Mu (x::xs)=Wv x++Mu xs:=
 ⟨fun _ _=>rfl,fun _ _=>rfl,fun _=>rfl,fun _=>rfl,fun _ _ _=>rfl,fun _=>rfl,fun _=>rfl,fun _=>rfl,fun _ _ _=>rfl,rfl,fun _ _=>rfl⟩
theorem view_lt {H:List AObj}: ∀ {xs ys:List AV},mapO (viewP H) xs=some ys→ ∀l∈Mu xs,l<H.length
 |[],_,_,l,hl=>by simp [Mu] at hl
 |x::xs,ys,h,l,hl=>by
  simp only[mapO,gE,gF] at h
  obtain ⟨y,hy,zs,hz,rfl⟩:=h
  simp only[Mu,List.mem_append] at hl
  rcases hl with hl|hl
  ·cases x with
   |ptr k o=>
    simp only[Wv,List.mem_singleton] at hl
    subst hl
    by_cases hlt:l<H.length
    ·exact hlt
    ·simp only[viewP,gU (Nat.le_of_not_lt hlt),viewC] at hy
     cases h0:o==0 with
     |true=>rw[h0] at hy;cases hy
     |false=>rw[h0] at hy;cases hy
   |_=>simp [Wv] at hl
  ·exact view_lt hz l hl
theorem ZA {H H':List AObj}: ∀ {xs:List AV},(∀l∈Mu xs,H'[l]? =H[l]?)→mapO (viewP H') xs=mapO (viewP H) xs
 |[],_=>rfl
 |x::xs,h=>by
  have h1:viewP H' x=viewP H x:=by
   cases x with
   |ptr l o=>simp only[viewP];rw[h l (by simp [Mu,Wv])]
   |_=>rfl
  simp only[mapO,h1]
  rw[ZA fun l hl=>h l (by simp [Mu,hl])]
def entVC (e:EntD):List AV→List AObj→Option CO:=fun args H=>(mapO (viewP H) args).bind fun as=>(e as).bind fun r=>some (.ret {val:=scal r,rd:=Mu args})
theorem Kh {P:Program} {f:FuncId} {e:EntD} (h:JH P f e):Xf P f (entVC e):=by
 intro args σ
 refine ⟨fun ef he=> ?_,fun x H' he=> ?_⟩
 ·simp only[entVC,gE,gF,CO.ret.injEq] at he
  obtain ⟨as,hv,r,hr,rfl⟩:=he
  refine ⟨⟨view_lt hv,by simp⟩,fun σ' h1 _ _=> ?_⟩
  have:=oa h args σ' (scal r) σ'.heap (by
   unfold entV
   rw[ZA h1,hv]
   simp only[Option.bind_some,hr])
  refine yO.mono this ?_
  rintro o H ⟨rfl,rfl⟩
  exact ⟨rfl,by simp [l7]⟩
 ·simp only[entVC,gE,gF] at he
  obtain ⟨_,_,r,_,he⟩:=he
  cases he
end
attribute [go_sem] entV entVC viewC_f viewP_f ptrO_f scal sc2 sc1
end Go.Abs
namespace Go.Abs
section ghost
variable {C:Ctx} {φ:Nat→Value} {σ:AState} {a:Act} {w:World}
theorem ghostCellM {l off s sz:Nat} {cs:List AV} (hl:σ.heap[l]? =some (.cells cs)) (hc:cs[off]? =some (.l5 true s [])):
 Gk σ {slots:=σ.slots,heap:=σ.heap.set l (.cells (cs.set off (.acc σ.heap.length 0)))++[.acc false sz []],low:=σ.low,df:=σ.df}:=by
 intro C φ a w S
 have hlt:l<σ.heap.length:=(gG.1 hl).1
 obtain ⟨b,c,t,hφ,hh,rl,h1⟩:=S.objs l _ hl
 obtain ⟨v,hv,base,cap,rfl,_,hcap,_⟩:=rl.get hc
 have hcap:cap=0:=hcap rfl
 subst hcap
 have S':=S.Qf (pY:=false) (sz:=sz) (rows:=[]) (w':=w) (h':= .slice base 0 0) (gR _) (fun _ _=>rfl) (fun _=>rfl) ⟨rfl,rfl⟩ (by
  intro b hb
  cases base<;>simp [AObj.block] at hb) (fun E' _ _=>⟨base,0,rfl,gR _,fun _=>rfl,by simp,fun b _ h0=>absurd rfl h0⟩)
 refine ⟨(fun k=>if k=σ.heap.length then .slice base 0 0 else φ k),?_⟩
 have hl':(σ.heap++[AObj.acc false sz []])[l]? =some (.cells cs):=by rw[hO hlt];exact hl
 have S2:=S'.recell (l:=l) (cs:=cs) (ds:=cs.set off (.acc σ.heap.length 0)) hl' (by
  intro b2 c2 t2 h3 h4 r
  have e1:b2=b:=by
   have h3':(if l=σ.heap.length then Value.slice base 0 0 else φ l)= .pointer (some ⟨b2,0,none⟩):=h3
   rw[if_neg (by omega),hφ] at h3'
   simpa using h3'.symm
  subst e1
  rw[show w.heap[b2]? =some (.cells c t (0,0)) from hh] at h4
  simp only[gF,Obj.cells.injEq] at h4
  obtain ⟨rfl,_⟩:=h4
  have Vy:=k6.set (i:=off) (c:= .acc σ.heap.length 0) (v:= .slice base 0 0) r ⟨by simp [Ctx.env],⟨_,_,_,rfl⟩,fun k hk=>by
   simp only[Ctx.env,hJ (gR _),iB,List.getElem?_cons_zero,lN,gF] at hk
   exact ⟨by simp,fun _=>by simp [Ctx.env]⟩⟩
  have hsame:c.toList.set off (.slice base 0 0)=c.toList:=by
   obtain ⟨hlt2,he⟩:=gG.1 hv
   have he':c.toList[off]= .slice base 0 0:=he
   rw[←he',iy]
  rw[hsame] at Vy
  exact Vy)
 have Vy:(σ.heap++[AObj.acc false sz []]).set l (.cells (cs.set off (.acc σ.heap.length 0)))=σ.heap.set l (.cells (cs.set off (.acc σ.heap.length 0)))++[.acc false sz []]:=by
  rw[List.set_append_left _ _ hlt]
 rw[Vy] at S2
 exact S2
def gCellM (l off sz:Nat) (b:Bool) (σ:AState):AState:=
 match σ.heap[l]? with
 |some (.cells cs)=>match cs[off]? with
  |some (.l5 true _ [])=>{slots:=σ.slots,heap:=σ.heap.set l (.cells (cs.set off (.acc σ.heap.length 0)))++[.acc b sz []],low:=σ.low,df:=σ.df}
  |_=>σ
 |_=>σ
theorem gCellM_ok {l off sz:Nat} {b:Bool} {σ:AState}:Gk σ (gCellM l off sz b σ):=by
 unfold gCellM
 split
 ·rename_i cs hl
  split
  ·rename_i s hc
   cases b with
   |false=>exact ghostCellM hl hc
   |true=>exact ghostCell hl hc
  ·exact Gk.refl σ
 ·exact Gk.refl σ
end ghost
def gAtM:List (List Nat×Nat×Nat×Nat×Bool)→List Nat→AState→AState
 |[],_,σ=>σ
 |(q,l,o,z,b)::t,p,σ=>if p=q then gCellM l o z b σ else gAtM t p σ
theorem gAtM_ok: ∀ {t:List (List Nat×Nat×Nat×Nat×Bool)} {p:List Nat} {σ:AState},Gk σ (gAtM t p σ)
 |[],_,_=>Gk.refl _
 |(q,l,o,z,b)::t,p,σ=>by
  unfold gAtM
  split
  ·exact gCellM_ok
  ·exact gAtM_ok
noncomputable def tabGM (fs:List (List Nat×List Nat)) (gs:List (List Nat×Nat×Nat×Nat×Bool)) (p:List Nat) (σ:AState):Option AState:=(UF fs p σ).map (gAtM gs p)
theorem tabGM_ok (fs:List (List Nat×List Nat)) (gs:List (List Nat×Nat×Nat×Nat×Bool)): ∀p σ σ',tabGM fs gs p σ=some σ'→Gk σ σ':=by
 intro p σ σ' h
 simp only[tabGM,gI] at h
 obtain ⟨σ1,h1,rfl⟩:=h
 exact (rA _ _ _ _ h1).trans gAtM_ok
theorem gdM {R:Type} {P:Program} {f:Func} {n:Nat} {out:AState→Option R} {cl:FuncId→List AV→List AObj→Option (AV×List AObj)} {cd:FuncId→List AV→Option AV} {nl:List (List Nat×DO)} {cu:List (List Nat×List Nat)} {gm:List (List Nat×Nat×Nat×Nat×Bool)} {Ab:FuncId→Bool} {cp:FuncId→List AV→List AObj→Option (ud×List AObj)}
 {pJ:AV→AState→Option R} {AZ:FuncId→Bool} {co:FuncId→List AV→List AObj→Option CO} {AY:FuncId→Bool} {ce:FuncId→List AV→List AObj→Option u7} {js:List Nat→List (Int×Code)} {cy:Nat→List AV→List AObj→Option (AV×List AObj)}
 (a: ∀f args σ r H',cl f args (AState.heap σ)=some (r,H')→yO P f args σ (fun o C6=>o= .ret r∧C6=H')) (d: ∀f args r,cd f args=some r→yP P f args (fun v=>v=r))
 (y: ∀l args σ r H',cy l args (AState.heap σ)=some (r,H')→JD P l args σ (fun o C6=>o= .ret r∧C6=H'):=by exact wh) (e: ∀f args σ e,ce f args (AState.heap σ)=some e→DU P f args σ e:=by exact wk)
 (p: ∀f args σ o H',cp f args (AState.heap σ)=some (o,H')→yO P f args σ (fun o' C6=>o'=o∧C6=H'):=by exact yz)
 (c: ∀f args σ,(∀e,co f args (AState.heap σ)=some (.ret e)→DU P f args σ e)∧ ∀x H',co f args σ.heap=some (.pan x H')→PanC P f args σ.heap x H':=by exact xZ):
 Good (qv P f n out cl cd (vR nl) (tabGM cu gm) Ab cp pJ AZ co AY ce js cy):=⟨a,d,rz _,tabGM_ok _ _,y,e,p,c⟩
attribute [go_sem] gAtM tabGM gCellM
end Go.Abs
