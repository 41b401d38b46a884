/- A part of the proof: abstract states and the rules for them. -/
import Derived.Calls
import Derived.Orders
import Derived.Laws.Sem
import Derived.Laws.CopyRow
import Derived.Laws.Cells
import Derived.Laws.Small
import Derived.RangeFuncRecord
import Derived.MapKept
import Derived.Lib.SliceRun
import Derived.Scope
import Derived.Deep.LoopGhost
import Derived.OrdersIn
set_option linter.all false
open Go.Result renaming andThen_ok → aa,andThen → aR
open List renaming eq_nil_of_length_eq_zero → af,getElem?_append_left → an,getElem?_set_self → au,getElem?_set_ne → ay,getElem?_eq_some_iff → az,replicate → aA,getElem?_append_right → aF,length_take → aG,flatten_cons → aJ,append_assoc → aK,mem_append → aM,length_cons → aN,length_replicate → aQ,getElem?_cons_zero → aT,eq_of_mem_replicate → bf,length_drop → bg,length_append → bn,take_of_length_le → bp,drop_drop → bq,getElem?_eq_none → br,mem_of_mem_take → bt,mem_of_mem_drop → bu,mem_cons → bz,getElem?_take → bC,drop_take → bD,getElem?_toArray → bE,take_left' → bF,drop_left' → bG,drop_append_of_le_length → bL,flatten_append → bM,take_take → bN,mem_or_eq_of_mem_set → bT,getElem?_cons_succ → bX,tail → bY,length_set → bZ,drop_of_length_le → b9,tail_drop → cg,drop_zero → cm,mem_cons_of_mem → cq,mem_of_getElem? → ct,all_cons → cv,take_add → cx,replicate_succ → cC
open Option.some renaming injEq → ah
open Go.Sem renaming run_bind → aj,run_pure → av
open Nat renaming lt_of_lt_of_le → ak,add_mul → aC,le_refl → aD,mul_le_mul_right → aH,one_mul → aX,add_assoc → bw,add_zero → bH,eq_zero_or_pos → bP,sub_self → bU,add_comm → cE,le_trans → cG
open Array renaming getElem?_eq_some_iff → aq,length_toList → aL,range → bO,toList_setIfInBounds → bQ,toList_map → bW,toList_append → cD
open Go.Builtin renaming firstCells → aB,append_ → aE,nextslicecap → bJ,zeroCells → bS,len_ → bV,growBy → ck,lenOf → cw
open Go.Instr renaming sureAddr → aI,sliceBound → aO,sliceBounds → aS,fieldAt → aV,indexAt → aW,buildSlice → aZ,loadAt → bh,lookup → bl,sliceAt → bA,findNow → bB,makeSlice → bK,storeAt → bR,mapUpdate → b8,sameNow → cz,next → cH
open Bool renaming false_eq_true → aP,and_eq_true → aY,not_false → cj
open Prod.mk renaming injEq → aU
open List.cons renaming injEq → bI
namespace Go.Abs
def Yr (o:Nat):Int:=if o=32∨(9≤o∧o≤13) then 1 else 0
def spaceC (o:Nat):Option Int:=if o<256 then some (Yr o) else none
def kdom (b o:Nat):Prop:=(b=1∧o=0)∨(b=0∧o<256)
def kval (b o:Nat) (v:Value):Prop:=(b=1→ ∃m,v= .int .i64 m)∧(b=0→v= .int .u8 (Yr o))
def immF (t k:Nat):Bool:=bif t==26 then (bif k==5 then false else true) else bif t==27 then (bif k==5 then false else true) else bif t==78 then (bif k==98 then false else bif k==24 then false else bif k==11 then false else bif k==34 then false else bif k==25 then false else true) else true
def litF (t k:Nat):Bool:=bif t==78 then (bif k==24 then true else bif k==11 then true else bif k==34 then true else bif k==25 then true else false) else bif t==27 then (bif k==46 then true else false) else bif t==25 then (bif k==100 then true else false) else false
def ktab (b:Nat):Option IntKind:=if b=0 then some .u8 else none
def kcell (b o:Nat):Option Int:=if b=0 then spaceC o else none
theorem ktab_ok {b o:Nat} {k:IntKind} {n:Int} (h:ktab b=some k) (h2:kcell b o=some n):kdom b o∧ ∀v,kval b o v→v= .int k n:=by
 unfold ktab at h
 split at h
 ·rename_i hb
  cases h
  unfold kcell at h2
  rw[if_pos hb] at h2
  unfold spaceC at h2
  split at h2
  ·rename_i ho
   cases h2
   exact ⟨.inr ⟨hb,ho⟩,fun v hv=>hv.2 hb⟩
  ·cases h2
 ·cases h
def KnowW (w:World) (M:Nat→Nat→Prop):Prop:= ∀b o,kdom b o→ ∃v,w.cell? ⟨b,o,none⟩=some v∧kval b o v∧ ¬ M b o
end Go.Abs
namespace Go.Abs
inductive AV where
 |any
 |bool (b:Bool)
 |int (k:IntKind) (n:Int)
 |str (s:ByteArray)
 |raw (v:Value)
 |agg (cs:List AV)
 |tup (cs:List AV)
 |l5 (tight:Bool) (sz:Nat) (rows:List (List AV))
 |acc (l n:Nat)
 |own (l off len cap sz:Nat)
 |ptr (l off:Nat)
 |map (l:Nat)
 |pp (cs:List AV)
 |func (fn:Fn) (first captured:List AV)
 |iface (t:TypeId) (x:AV)
instance:Inhabited AV:=⟨.any⟩
structure Env where
 w:World
 mu:Nat→Nat→Prop
 φ:Nat→Value
 ln:Nat→Option Nat
 n:Nat
def hdl:Value→Option Nat
 | .map r=>r
 | .func (.yield r) _ _=>some r
 |_=>none
mutual
def nO (E:Env):AV→Value→Prop
 | .any,_=>True
 | .bool b,v=>v= .bool b
 | .int k n,v=>v= .int k n
 | .str s,v=>v= .string s
 | .raw u,v=>v=u
 | .agg cs,v=> ∃vs:Array Value,v= .agg vs∧k6 E cs vs.toList
 | .tup cs,v=> ∃vs:Array Value,v= .tuple vs∧k6 E cs vs.toList
 | .l5 t sz rows,v=> ∃base cap,v= .slice base rows.length cap∧rows.length≤cap∧(t=true→cap=rows.length)∧(base=none→cap=0)∧
     (∀a,base=some a→(rows≠[]→a.spot=none))∧(∀a,base=some a→mC E sz a.block a.off rows)
 | .acc l n,v=>l<E.n∧(∃b m c,v= .slice b m c)∧ ∀k,E.ln l=some k→n≤k∧(n=k→v=E.φ l)
 | .own l i n o sz,v=>l<E.n∧(∃a,v= .pointer (some a))∧ ∀k,E.ln l=some k→n≤k∧(n=k→ ∃b off m c,E.φ l= .slice (some ⟨b,off,none⟩) m c∧v= .pointer (some ⟨b,off+i*sz+o,none⟩))
 | .ptr l off,v=>l<E.n∧ ∃b,E.φ l= .pointer (some ⟨b,0,none⟩)∧v= .pointer (some ⟨b,off,none⟩)
 | .map l,v=>l<E.n∧v=E.φ l∧ ∃r,hdl (E.φ l)=some r
 | .pp cs,v=> ∃b off,v= .pointer (some ⟨b,off,none⟩)∧mV E b off cs
 | .func fn f c,v=> ∃f' c':Array Value,v= .func fn f' c'∧k6 E f f'.toList∧k6 E c c'.toList
 | .iface t x,v=> ∃u,v= .iface t u∧nO E x u
def k6 (E:Env):List AV→List Value→Prop
 |[],vs=>vs=[]
 |c::cs,vs=> ∃u us,vs=u::us∧nO E c u∧k6 E cs us
def mV (E:Env) (b off:Nat):List AV→Prop
 |[]=>True
 |c::cs=>(¬ E.mu b off∧ ∃u,E.w.cell? ⟨b,off,none⟩=some u∧u.oneCell'=true∧nO E c u)∧mV E b (off+1) cs
def mC (E:Env) (sz b off:Nat):List (List AV)→Prop
 |[]=>True
 |r::rs=>r.length=sz∧mV E b off r∧mC E sz b (off+sz) rs
end
structure Env.Le (N:Nat) (E E':Env):Prop where
 n:N≤E'.n
 names: ∀l,l<N→(E'.φ l=E.φ l∧(E'.ln l=E.ln l∨E'.ln l=none))∨
  ((∃k,E.ln l=some k∧ ∀k',E'.ln l=some k'→k<k')∧(∀a,E.φ l≠ .pointer a)∧hdl (E.φ l)=none)
 mem: ∀b o u,¬ E.mu b o→E.w.cell? ⟨b,o,none⟩=some u→ ¬ E'.mu b o∧E'.w.cell? ⟨b,o,none⟩=some u
mutual
def AV.nb (N:Nat):AV→Prop
 | .agg cs| .tup cs| .pp cs=>nbL N cs
 | .l5 _ _ rows=>Lu N rows
 | .acc l _| .own l _ _ _ _| .ptr l _| .map l=>l<N
 | .func _ f c=>nbL N f∧nbL N c
 | .iface _ x=>x.nb N
 | .any| .bool _| .int _ _| .str _| .raw _=>True
def nbL (N:Nat):List AV→Prop
 |[]=>True
 |c::cs=>c.nb N∧nbL N cs
def Lu (N:Nat):List (List AV)→Prop
 |[]=>True
 |r::rs=>nbL N r∧Lu N rs
end
section
variable {E E':Env} {N:Nat}
mutual
theorem nO.mono (h:E.Le N E'): ∀ (x:AV) (v:Value),x.nb N→nO E x v→nO E' x v
 | .any,_,_,_=>trivial
 | .bool _,_,_,r=>r
 | .int _ _,_,_,r=>r
 | .str _,_,_,r=>r
 | .raw _,_,_,r=>r
 | .agg cs,_,hb,⟨vs,hv,hr⟩=>⟨vs,hv,k6.mono h cs _ hb hr⟩
 | .tup cs,_,hb,⟨vs,hv,hr⟩=>⟨vs,hv,k6.mono h cs _ hb hr⟩
 | .l5 _ _ rows,_,hb,⟨base,cap,h1,h2,h3,h4,h5,h6⟩=>⟨base,cap,h1,h2,h3,h4,h5,fun a ha=>mC.mono h rows _ hb (h6 a ha)⟩
 | .acc l n,v,hb,⟨_,UD,r⟩=>by
   refine ⟨ak hb h.n,UD,fun k' hk'=> ?_⟩
   rcases h.names l hb with ⟨hφ,hl|hl⟩|⟨⟨k,hk,hlt⟩,_⟩
   ·rw[hl] at hk';rw[hφ];exact r k' hk'
   ·rw[hl] at hk';cases hk'
   ·have:=hlt k' hk'
    have:=r k hk
    exact ⟨by omega,fun e=>by omega⟩
 | .own l i n o sz,v,hb,⟨_,UD,r⟩=>by
   refine ⟨ak hb h.n,UD,fun k' hk'=> ?_⟩
   rcases h.names l hb with ⟨hφ,hl|hl⟩|⟨⟨k,hk,hlt⟩,_⟩
   ·rw[hl] at hk';rw[hφ];exact r k' hk'
   ·rw[hl] at hk';cases hk'
   ·have:=hlt k' hk'
    have:=r k hk
    exact ⟨by omega,fun e=>by omega⟩
 | .ptr l off,v,hb,⟨_,b,hφ,hv⟩=>by
   refine ⟨ak hb h.n,b,?_,hv⟩
   rcases h.names l hb with ⟨h1,_⟩|⟨_,h2,_⟩
   ·rw[h1];exact hφ
   ·exact absurd hφ (h2 _)
 | .map l,v,hb,⟨_,hv,r,hφ⟩=>by
   refine ⟨ak hb h.n,?_,r,?_⟩
   all_goals rcases h.names l hb with ⟨h1,_⟩|⟨_,_,h2⟩
   ·rw[h1];exact hv
   ·rw[h2] at hφ;cases hφ
   ·rw[h1];exact hφ
   ·rw[h2] at hφ;cases hφ
 | .pp cs,_,hb,⟨b,off,hv,r⟩=>⟨b,off,hv,mV.mono h cs _ hb r⟩
 | .func _ f c,_,hb,⟨f',c',hv,r1,r2⟩=>⟨f',c',hv,k6.mono h f _ hb.1 r1,k6.mono h c _ hb.2 r2⟩
 | .iface _ x,_,hb,⟨u,hv,r⟩=>⟨u,hv,nO.mono h x _ hb r⟩
theorem k6.mono (h:E.Le N E'): ∀ (cs:List AV) (vs:List Value),nbL N cs→k6 E cs vs→k6 E' cs vs
 |[],_,_,r=>r
 |c::cs,_,hb,⟨u,us,hv,r1,r2⟩=>⟨u,us,hv,nO.mono h c _ hb.1 r1,k6.mono h cs _ hb.2 r2⟩
theorem mV.mono (h:E.Le N E') {b:Nat}: ∀ (cs:List AV) (off:Nat),nbL N cs→mV E b off cs→mV E' b off cs
 |[],_,_,_=>trivial
 |c::cs,off,hb,⟨⟨hm,u,hu,h1,r1⟩,r2⟩=>
  let ⟨m,c'⟩:=h.mem b off u hm hu
  ⟨⟨m,u,c',h1,nO.mono h c _ hb.1 r1⟩,mV.mono h cs _ hb.2 r2⟩
theorem mC.mono (h:E.Le N E') {sz b:Nat}: ∀ (rs:List (List AV)) (off:Nat),Lu N rs→mC E sz b off rs→mC E' sz b off rs
 |[],_,_,_=>trivial
 |r::rs,off,hb,⟨hl,r1,r2⟩=>⟨hl,mV.mono h r _ hb.1 r1,mC.mono h rs _ hb.2 r2⟩
end
mutual
theorem nO.nb: ∀ (x:AV) (v:Value),nO E x v→x.nb E.n
 | .any,_,_| .bool _,_,_| .int _ _,_,_| .str _,_,_| .raw _,_,_=>trivial
 | .agg cs,_,⟨_,_,hr⟩=>k6.nb cs _ hr
 | .tup cs,_,⟨_,_,hr⟩=>k6.nb cs _ hr
 | .l5 _ _ rows,_,⟨base,cap,h1,h2,h3,h4,h5,h6⟩=>by
   cases base with
   |none=>
    have:rows.length=0:=by have:=h4 rfl;omega
    have:rows=[]:=af this
    subst this;trivial
   |some a=>exact mC.nb rows _ (h6 a rfl)
 | .acc _ _,_,⟨h,_⟩=>h
 | .own _ _ _ _ _,_,⟨h,_⟩=>h
 | .ptr _ _,_,⟨h,_⟩=>h
 | .map _,_,⟨h,_⟩=>h
 | .pp cs,_,⟨_,_,_,r⟩=>mV.nb cs _ r
 | .func _ f c,_,⟨_,_,_,r1,r2⟩=>⟨k6.nb f _ r1,k6.nb c _ r2⟩
 | .iface _ x,_,⟨_,_,r⟩=>nO.nb x _ r
theorem k6.nb: ∀ (cs:List AV) (vs:List Value),k6 E cs vs→nbL E.n cs
 |[],_,_=>trivial
 |c::cs,_,⟨_,_,_,r1,r2⟩=>⟨nO.nb c _ r1,k6.nb cs _ r2⟩
theorem mV.nb {b:Nat}: ∀ (cs:List AV) (off:Nat),mV E b off cs→nbL E.n cs
 |[],_,_=>trivial
 |c::cs,_,⟨⟨_,_,_,_,r1⟩,r2⟩=>⟨nO.nb c _ r1,mV.nb cs _ r2⟩
theorem mC.nb {sz b:Nat}: ∀ (rs:List (List AV)) (off:Nat),mC E sz b off rs→Lu E.n rs
 |[],_,_=>trivial
 |r::rs,_,⟨_,r1,r2⟩=>⟨mV.nb r _ r1,mC.nb rs _ r2⟩
end
mutual
theorem AV.Xm {M:Nat} (h:N≤M): ∀x:AV,x.nb N→x.nb M
 | .any,_| .bool _,_| .int _ _,_| .str _,_| .raw _,_=>trivial
 | .agg cs,r=>sM h cs r
 | .tup cs,r=>sM h cs r
 | .pp cs,r=>sM h cs r
 | .l5 _ _ rows,r=>nbR_le h rows r
 | .acc _ _,r=>ak r h
 | .own _ _ _ _ _,r=>ak r h
 | .ptr _ _,r=>ak r h
 | .map _,r=>ak r h
 | .func _ f c,r=>⟨sM h f r.1,sM h c r.2⟩
 | .iface _ x,r=>AV.Xm h x r
theorem sM {M:Nat} (h:N≤M): ∀cs:List AV,nbL N cs→nbL M cs
 |[],_=>trivial
 |c::cs,r=>⟨AV.Xm h c r.1,sM h cs r.2⟩
theorem nbR_le {M:Nat} (h:N≤M): ∀rs:List (List AV),Lu N rs→Lu M rs
 |[],_=>trivial
 |r::rs,q=>⟨sM h r q.1,nbR_le h rs q.2⟩
end
end
section lists
variable {E:Env}
theorem k6.length: ∀ {cs:List AV} {vs:List Value},k6 E cs vs→vs.length=cs.length
 |[],_,rfl=>rfl
 |_::_,_,⟨_,_,rfl,_,r2⟩=>by simp [k6.length r2]
theorem k6.get: ∀ {cs:List AV} {vs:List Value} {i:Nat} {c:AV},k6 E cs vs→cs[i]? =some c→ ∃v,vs[i]? =some v∧nO E c v
 |c::cs,_,0,_,⟨u,us,rfl,r1,r2⟩,h=>by
  simp at h;subst h;exact ⟨u,by simp,r1⟩
 |c::cs,_,i+1,_,⟨u,us,rfl,r1,r2⟩,h=>by
  simp at h;obtain ⟨v,hv,r⟩:=k6.get r2 h;exact ⟨v,by simpa using hv,r⟩
theorem k6.set: ∀ {cs:List AV} {vs:List Value} {i:Nat} {c:AV} {v:Value},k6 E cs vs→nO E c v→k6 E (cs.set i c) (vs.set i v)
 |[],_,_,_,_,rfl,_=>rfl
 |_::_,_,0,_,v,⟨_,us,rfl,_,r2⟩,r=>⟨v,us,rfl,r,r2⟩
 |_::_,_,i+1,_,v,⟨u,us,rfl,r1,r2⟩,r=>⟨u,us.set i v,rfl,r1,k6.set r2 r⟩
theorem k6.append: ∀ {cs ds:List AV} {vs us:List Value},k6 E cs vs→k6 E ds us→k6 E (cs++ds) (vs++us)
 |[],_,_,_,rfl,r=>r
 |_::_,_,_,_,⟨u,us,rfl,r1,r2⟩,r=>⟨u,us++_,rfl,r1,k6.append r2 r⟩
theorem k6.take: ∀ {cs:List AV} {vs:List Value} (k:Nat),k6 E cs vs→k6 E (cs.take k) (vs.take k)
 |[],_,_,rfl=>by simp [k6]
 |_::_,_,0,_=>by simp [k6]
 |_::_,_,k+1,⟨u,us,rfl,r1,r2⟩=>⟨u,us.take k,by simp,r1,k6.take k r2⟩
theorem k6.drop: ∀ {cs:List AV} {vs:List Value} (k:Nat),k6 E cs vs→k6 E (cs.drop k) (vs.drop k)
 |[],_,_,rfl=>by simp [k6]
 |_::_,_,0,h=>by simpa using h
 |_::_,_,k+1,⟨u,us,rfl,r1,r2⟩=>by simpa using k6.drop k r2
theorem k6.C1: ∀ (vs:List Value),k6 E (aA vs.length .any) vs
 |[]=>rfl
 |v::vs=>⟨v,vs,rfl,trivial,k6.C1 vs⟩
theorem mV.drop {b:Nat}: ∀ {cs:List AV} {off:Nat} (k:Nat),mV E b off cs→mV E b (off+k) (cs.drop k)
 |[],_,_,_=>by simp [mV]
 |_::_,_,0,h=>by simpa using h
 |_::_,off,k+1,⟨_,r⟩=>by
  have:=mV.drop k r
  simpa [bw,cE 1 k] using this
theorem mV.get {b:Nat}: ∀ {cs:List AV} {off i:Nat} {c:AV},mV E b off cs→cs[i]? =some c→
 ∃u,E.w.cell? ⟨b,off+i,none⟩=some u∧nO E c u
 |_::_,off,0,_,⟨⟨_,u,hu,_,r⟩,_⟩,h=>by simp at h;subst h;exact ⟨u,hu,r⟩
 |_::_,off,i+1,_,⟨_,r⟩,h=>by
  simp at h
  obtain ⟨u,hu,r'⟩:=mV.get r h
  exact ⟨u,by rw[←hu];congr 2;omega,r'⟩
theorem mC.get {sz b:Nat}: ∀ {rs:List (List AV)} {off i:Nat} {r:List AV},mC E sz b off rs→rs[i]? =some r→
 r.length=sz∧mV E b (off+i*sz) r
 |_::_,off,0,_,⟨hl,m,_⟩,h=>by simp at h;subst h;simpa using ⟨hl,m⟩
 |_::_,off,i+1,_,⟨_,_,r⟩,h=>by
  simp at h
  obtain ⟨h1,h2⟩:=mC.get r h
  refine ⟨h1,?_⟩
  have:off+(i+1)*sz=off+sz+i*sz:=by rw[aC];omega
  rw[this];exact h2
theorem mC.drop {sz b:Nat}: ∀ {rs:List (List AV)} {off:Nat} (k:Nat),k≤rs.length→mC E sz b off rs→mC E sz b (off+k*sz) (rs.drop k)
 |[],_,_,_,_=>by simp [mC]
 |_::_,_,0,_,h=>by simpa using h
 |_::_,off,k+1,hk,⟨_,_,r⟩=>by
  have:=mC.drop k (by simpa using hk) r
  have e:off+(k+1)*sz=off+sz+k*sz:=by rw[aC];omega
  rw[e];simpa using this
theorem mC.take {sz b:Nat}: ∀ {rs:List (List AV)} {off:Nat} (k:Nat),mC E sz b off rs→mC E sz b off (rs.take k)
 |[],_,_,_=>by simp [mC]
 |_::_,_,0,_=>by simp [mC]
 |_::_,_,k+1,⟨h1,h2,r⟩=>⟨h1,h2,mC.take k r⟩
theorem mC.append {sz b:Nat}: ∀ {rs qs:List (List AV)} {off:Nat},mC E sz b off rs→mC E sz b (off+rs.length*sz) qs→mC E sz b off (rs++qs)
 |[],_,_,_,h=>by simpa using h
 |r::rs,_,off,⟨h1,h2,h3⟩,h=>by
  refine ⟨h1,h2,mC.append h3 ?_⟩
  have e:off+(r::rs).length*sz=off+sz+rs.length*sz:=by simp [aC];omega
  rw[e] at h;exact h
theorem mV.append {b:Nat}: ∀ {cs ds:List AV} {off:Nat},mV E b off cs→mV E b (off+cs.length) ds→mV E b off (cs++ds)
 |[],_,_,_,h=>by simpa using h
 |c::cs,_,off,⟨h1,h3⟩,h=>by
  refine ⟨h1,mV.append h3 ?_⟩
  have e:off+(c::cs).length=off+1+cs.length:=by simp;omega
  rw[e] at h;exact h
end lists
end Go.Abs
namespace Go.Abs
structure wQ where
 ps:Array Tmp
 assign:Code
 body:Code
 js:List (Int×Code)
def lookJ:List (Int×Code)→Int→Option Code
 |[],_=>none
 |(k,c)::cs,j=>match cs with
  |[]=>some c
  |_::_=>bif j==k then some c else lookJ cs j
def oP (js:List (Int×Code)) (j:Int):Option Code:=bif j==0 then none else lookJ js j
inductive AObj where
 |cells (cs:List AV)
 |acc (pY:Bool) (sz:Nat) (rows:List (List AV))
 |map (es:List (AV×AV))
 |loop (k:wQ) (slots:List AV) (st:LoopState) (sk:Int)
 |iter (s:ByteArray) (pos:Nat)
 |dead
structure AState where
 slots:List AV
 heap:List AObj
 low:Nat:=0
 df:List (FuncId×List AV):=[]
def Qa:Value→AV
 | .int k n=> .int k n
 | .bool b=> .bool b
 | .string s=> .str s
 | .slice none 0 0=> .l5 true 0 []
 |v=> .raw v
def AState.ev (σ:AState):Operand→AV
 | .tmp t=>σ.slots.getD t .any
 | .const v=>Qa v
 | .global g=> .raw (.pointer (some ⟨g,0,none⟩))
 | .func f=> .func (.func f) [] []
def AState.put (σ:AState) (dst:Option Tmp) (x:AV):AState:=
 match dst with
 |some d=>{σ with slots:=σ.slots.set d x}
 |none=>σ
def AObj.muts:AObj→Value→Nat→Nat→Prop
 | .cells _,.pointer (some a),b,_=>b=a.block
 | .acc pY sz _,.slice (some a) n cap,b,o=>(b=a.block∧cap≠0)∧(pY=true→a.off+n*sz≤o)
 | .map _,.map (some r),b,_=>b=r
 | .loop _ _ _ _,.func (.yield r) _ _,b,_=>b=r∨b+1=r
 | .iter _ _,.pointer (some a),b,_=>b=a.block
 |_,_,_,_=>False
def AObj.block:AObj→Value→Nat→Prop
 | .cells _,.pointer (some a),b=>b=a.block
 | .acc _ _ _,.slice (some a) _ cap,b=>b=a.block∧cap≠0
 | .map _,.map (some r),b=>b=r
 | .loop _ _ _ _,.func (.yield r) _ _,b=>b=r∨b+1=r
 | .iter _ _,.pointer (some a),b=>b=a.block
 |_,_,_=>False
theorem AObj.nu {x:AObj} {h:Value} {b o:Nat} (m:x.muts h b o):x.block h b:=by
 unfold AObj.muts at m;unfold AObj.block;split at m<;>simp_all
def ET (φ:Nat→Value) (H:List AObj) (b o:Nat):Prop:= ∃ (l:Nat) (x:AObj),H[l]? =some x∧x.muts (φ l) b o
def lN:Option AObj→Option Nat
 |some (.acc _ _ rows)=>some rows.length
 |_=>none
structure Ctx where
 P:Program
 w0:World
 M0:Nat→Nat→Prop
 A:Nat→Nat→Prop
 hA: ∀b o,A b o→b<w0.heap.size
 hk:KnowW w0 M0
 N0:Nat:=0
 φ0:Nat→Value:=fun _=> .tuple #[]
 ln0:Nat→Option Nat:=fun _=>none
def Ctx.env (C:Ctx) (φ:Nat→Value) (H:List AObj) (w:World):Env:=
 {w,mu:=fun b o=>ET φ H b o∨C.A b o,φ,ln:=fun l=>lN H[l]?,n:=H.length}
def qP (E:Env):List (AV×AV)→List MapEntry→Prop
 |[],es=>es=[]
 |(k,v)::r,es=> ∃e s,es=e::s∧nO E k e.key∧nO E v e.val∧qP E r s
def nk (E:Env):AObj→Value→Prop
 | .cells cs,h=> ∃b c t,h= .pointer (some ⟨b,0,none⟩)∧E.w.heap[b]? =some (.cells c t (0,0))∧k6 E cs c.toList∧ ∀u∈c.toList,u.oneCell'=true
 | .acc _ sz rows,h=> ∃base cap,h= .slice base rows.length cap∧rows.length≤cap∧(base=none→cap=0)∧(∀r∈rows,r.length=sz)∧
     ∀a,base=some a→cap≠0→a.spot=none∧ ∃c t,E.w.heap[a.block]? =some (.cells c t (0,0))∧a.off+cap*sz≤c.size∧
      k6 E rows.flatten ((c.toList.drop a.off).take (rows.length*sz))∧ ∀u∈(c.toList.drop a.off).take (rows.length*sz),u.oneCell'=true
 | .map es,h=> ∃r entries clock,h= .map (some r)∧E.w.heap[r]? =some (.map entries clock)∧qP E es entries.toList
 | .loop k slots st sk,h=> ∃D rec,h= .func (.yield (D+1)) #[] #[]∧E.w.heap[D+1]? =some (.loop rec)∧E.w.heap[D]? =some (.deferred (some []))∧
     (rec.params=k.ps∧rec.assign=k.assign∧rec.body=k.body∧rec.state=st∧rec.pending=oP k.js sk∧rec.defers=D)∧k6 E slots rec.tmps.toList
 | .iter s p,h=> ∃b,h= .pointer (some ⟨b,0,none⟩)∧E.w.heap[b]? =some (.stringIter s p)
 | .dead,_=>True
def NamesOK (C:Ctx) (φ:Nat→Value) (H:List AObj):Prop:= ∀l,l<C.N0→(φ l=C.φ0 l∧(lN H[l]? =C.ln0 l∨lN H[l]? =none))∨
 ((∃k,C.ln0 l=some k∧ ∀k',lN H[l]? =some k'→k<k')∧(∀a,C.φ0 l≠ .pointer a)∧hdl (C.φ0 l)=none)
def VX (d:Deferred):Bool:=match d.target with
 | .collected _=>true
 |_=>false
def J6 (E:Env):List (FuncId×List AV)→List Deferred→Prop
 |[],ds=>ds=[]
 |(f,xs)::r,ds=> ∃d s cap,ds=d::s∧d.target= .fn (.func f) cap∧k6 E xs (d.args++cap).toList∧J6 E r s
theorem J6.imp {E E':Env} (h: ∀ (xs:List AV) (vs:List Value),k6 E xs vs→k6 E' xs vs): ∀ {df:List (FuncId×List AV)} {ds:List Deferred},J6 E df ds→J6 E' df ds
 |[],_,r=>r
 |_::_,_,⟨d,s,cap,h1,h2,h3,h4⟩=>⟨d,s,cap,h1,h2,h _ _ h3,J6.imp h h4⟩
theorem J6.mono {E E':Env} (h:E.Le E.n E') {df:List (FuncId×List AV)} {ds:List Deferred} (r:J6 E df ds):J6 E' df ds:=
 r.imp fun _ _ r=>k6.mono h _ _ (k6.nb _ _ r) r
theorem J6.nb {E:Env}: ∀ {df:List (FuncId×List AV)} {ds:List Deferred},J6 E df ds→ ∀p∈df,nbL E.n p.2
 |[],_,_,_,h=>by cases h
 |q::r,_,⟨_,_,_,_,_,h3,h4⟩,p,hp=>by
  rcases bz.1 hp with rfl|hp
  ·exact k6.nb _ _ h3
  ·exact J6.nb h4 p hp
def rB (C:Ctx) (φ:Nat→Value) (H:List AObj) (w:World) (df:List (FuncId×List AV)) (ds:List Deferred):Prop:=
 (ds.filter VX).Nodup∧(∀d∈ds,VX d=true→ ∃D,d=⟨.collected D,#[]⟩∧w.heap[D]? =some (.deferred (some []))∧C.w0.heap.size≤D∧ ∀ (l:Nat) (x:AObj),H[l]? =some x→ ¬ x.block (φ l) D)∧
   J6 (C.env φ H w) df (ds.filter fun d=> !VX d)
theorem rB.nil {C:Ctx} {φ:Nat→Value} {H:List AObj} {w:World}:rB C φ H w [] []:=⟨List.nodup_nil,fun _ h _=>(by cases h),rfl⟩
theorem rB.step' {C:Ctx} {φ φ':Nat→Value} {H H':List AObj} {w w':World} {df:List (FuncId×List AV)} {ds:List Deferred} (h:rB C φ H w df ds)
 (hr: ∀ (xs:List AV) (vs:List Value),(∃f,(f,xs)∈df)→k6 (C.env φ H w) xs vs→k6 (C.env φ' H' w') xs vs)
 (Lv: ∀b,b<w.heap.size→(∀ (l:Nat) (x:AObj),H[l]? =some x→ ¬ x.block (φ l) b)→w'.heap[b]? =w.heap[b]?)
 (DS: ∀ (l:Nat) (x:AObj) (b:Nat),H'[l]? =some x→x.block (φ' l) b→(∃ (k:Nat) (y:AObj),H[k]? =some y∧y.block (φ k) b)∨w.heap.size≤b):rB C φ' H' w' df ds:=by
 refine ⟨h.1,fun d hd hm=> ?_,?_⟩
 ·obtain ⟨D,h1,h2,h3,h4⟩:=h.2.1 d hd hm
  have hlt:=(aq.1 h2).1
  refine ⟨D,h1,by rw[Lv D hlt h4];exact h2,h3,fun l x hx hb=> ?_⟩
  rcases DS l x D hx hb with ⟨k,y,hy,hyb⟩|hge
  ·exact h4 k y hy hyb
  ·omega
 ·have key: ∀ (df':List (FuncId×List AV)) (ds':List Deferred),(∀p∈df',p∈df)→J6 (C.env φ H w) df' ds'→J6 (C.env φ' H' w') df' ds':=by
   intro df'
   induction df' with
   |nil=>intro _ _ r;exact r
   |cons p r ih=>
    intro ds' hp ⟨d,s,cap,h1,h2,h3,h4⟩
    exact ⟨d,s,cap,h1,h2,hr _ _ ⟨p.1,hp p (List.mem_cons_self ..)⟩ h3,ih _ (fun q hq=>hp q (cq _ hq)) h4⟩
  exact key df _ (fun _ h=>h) h.2.2
theorem rB.step {C:Ctx} {φ φ':Nat→Value} {H H':List AObj} {w w':World} {df:List (FuncId×List AV)} {ds:List Deferred} (h:rB C φ H w df ds) (le:(C.env φ H w).Le H.length (C.env φ' H' w'))
 (Lv: ∀b,b<w.heap.size→(∀ (l:Nat) (x:AObj),H[l]? =some x→ ¬ x.block (φ l) b)→w'.heap[b]? =w.heap[b]?)
 (DS: ∀ (l:Nat) (x:AObj) (b:Nat),H'[l]? =some x→x.block (φ' l) b→(∃ (k:Nat) (y:AObj),H[k]? =some y∧y.block (φ k) b)∨w.heap.size≤b):rB C φ' H' w' df ds:=
 h.step' (fun xs vs _ r=>k6.mono le _ _ (k6.nb _ _ r) r) Lv DS
theorem rB.same {C:Ctx} {φ:Nat→Value} {H:List AObj} {w w':World} {df:List (FuncId×List AV)} {ds:List Deferred} (h:rB C φ H w df ds) (le:(C.env φ H w).Le H.length (C.env φ H w')) (Lv: ∀b,b<w.heap.size→w'.heap[b]? =w.heap[b]?):rB C φ H w' df ds:=
 h.step le (fun b hb _=>Lv b hb) (fun l x b hx hb=> .inl ⟨l,x,hx,hb⟩)
structure mA (C:Ctx) (φ:Nat→Value) (σ:AState) (a:Act) (w:World):Prop where
 slots:k6 (C.env φ σ.heap w) σ.slots a.tmps.toList
 defers:rB C φ σ.heap w σ.df a.defers
 objs: ∀ (l:Nat) (x:AObj),σ.heap[l]? =some x→nk (C.env φ σ.heap w) x (φ l)
 apart: ∀ (l l':Nat) (x x':AObj) (b:Nat),σ.heap[l]? =some x→σ.heap[l']? =some x'→x.block (φ l) b→x'.block (φ l') b→l=l'
 s6: ∀ (l:Nat) (x:AObj) (b o:Nat),σ.heap[l]? =some x→x.block (φ l) b→ ¬ C.A b o
 size:C.w0.heap.size≤w.heap.size
 old: ∀b o,b<C.w0.heap.size→ ¬ C.M0 b o→w.cell? ⟨b,o,none⟩=C.w0.cell? ⟨b,o,none⟩
 ni: ∀b,b<C.w0.heap.size→(∀o,¬ C.M0 b o)→w.heap[b]? =C.w0.heap[b]?
 C5: ∀ (l:Nat) (x:AObj) (b o:Nat),σ.heap[l]? =some x→x.muts (φ l) b o→b<C.w0.heap.size→C.M0 b o
 vT: ∀a,a.block<C.w0.heap.size→w.frozen? a=C.w0.frozen? a
 rest:w.output=C.w0.output∧w.os=C.w0.os
 low:C.N0=σ.low∧σ.low≤σ.heap.length
 names:NamesOK C φ σ.heap
section basics
variable {C:Ctx} {φ:Nat→Value} {σ:AState} {a:Act} {w:World}
theorem rep_const (E:Env) (v:Value):nO E (Qa v) v:=by
 unfold Qa;split
 ·rfl
 ·rfl
 ·rfl
 ·exact ⟨none,0,rfl,aD _,fun _=>rfl,fun _=>rfl,(by intro a h;cases h),(by intro a h;cases h)⟩
 ·rfl
theorem mA.ev (S:mA C φ σ a w) (x:Operand):nO (C.env φ σ.heap w) (σ.ev x) (a.eval x):=by
 cases x with
 |tmp t=>
  simp only[AState.ev,Act.eval,List.getD]
  cases h:σ.slots[t]? with
  |none=>exact trivial
  |some c=>
   obtain ⟨v,hv,r⟩:=S.slots.get h
   have:a.tmps.getD t undef=v:=by
    have h2:a.tmps[t]? =some v:=by simpa using hv
    obtain ⟨hlt,he⟩:=aq.1 h2
    simp [Array.getD,hlt,he]
   rw[this];exact r
 |const v=>exact rep_const _ v
 |global g=>rfl
 |func f=>exact ⟨#[],#[],rfl,rfl,rfl⟩
theorem mA.put (S:mA C φ σ a w) (dst:Option Tmp) {x:AV} {v:Value} (r:nO (C.env φ σ.heap w) x v):mA C φ (σ.put dst x) (a.put dst v) w:=by
 cases dst with
 |none=>exact S
 |some d=>
  refine {S with slots:= ?_,defers:=S.defers}
  have:=S.slots.set (i:=d) r
  simpa [AState.put,Act.put,bQ] using this
theorem Ctx.Bi {H H':List AObj} {φ':Nat→Value} {w':World} (hn:H.length≤H'.length)
 (hφ: ∀l,l<H.length→φ' l=φ l∧lN H'[l]? =lN H[l]?)
 (hmem: ∀b o u,¬ (ET φ H b o∨C.A b o)→w.cell? ⟨b,o,none⟩=some u→ ¬ (ET φ' H' b o∨C.A b o)∧w'.cell? ⟨b,o,none⟩=some u):
 (C.env φ H w).Le H.length (C.env φ' H' w'):=
 ⟨hn,fun l hl=> .inl ⟨(hφ l hl).1,.inl (hφ l hl).2⟩,hmem⟩
theorem F7 {w:World} {b o:Nat} {u:Value} (h:w.cell? ⟨b,o,none⟩=some u):b<w.heap.size:=by
 unfold World.cell? at h
 split at h
 ·rename_i hb;exact (aq.1 hb).1
 ·cases h
theorem mA.know (S:mA C φ σ a w):KnowW w (ET φ σ.heap):=fun b o h=>by
 obtain ⟨v,hc,hv,hm⟩:=C.hk b o h
 have hb:=F7 hc
 refine ⟨v,by rw[S.old b o hb hm];exact hc,hv,?_⟩
 rintro ⟨l,x,hx,UE⟩
 exact hm (S.C5 l x b o hx UE hb)
def World.more (w:World) (o:Obj):World:={w with heap:=w.heap.push o}
@[simp] theorem Jy (w:World) (o:Obj):(World.more w o).heap.size=w.heap.size+1:=by simp [World.more]
theorem sN (w:World) (o:Obj) {b:Nat} (h:b<w.heap.size):(World.more w o).heap[b]? =w.heap[b]? :=by
 simp only[World.more];rw[Array.getElem?_push_lt h];simp [h]
theorem DT (w:World) (o:Obj):(World.more w o).heap[w.heap.size]? =some o:=by
 show (w.heap.push o)[w.heap.size]? =some o
 simp
theorem C2 (w:World) (o:Obj) {b i:Nat} (h:b<w.heap.size):(World.more w o).cell? ⟨b,i,none⟩=w.cell? ⟨b,i,none⟩:=by
 simp only[World.cell?,sN w o h]
theorem Z9 (w:World) (c:Array Value) (t:TypeId) (i:Nat):(World.more w (.cells c t)).cell? ⟨w.heap.size,i,none⟩=c[i]? :=by
 simp only[World.cell?,DT];simp
theorem u6 (w:World) (o:Obj) (ho: ∀c t lo hi,o= .cells c t (lo,hi)→lo=0∧hi=0) (a:Addr):(World.more w o).frozen? a=w.frozen? a:=by
 by_cases h:a.block<w.heap.size
 ·simp only[World.frozen?,sN w o h]
 ·by_cases e:a.block=w.heap.size
  ·have e2:w.heap[a.block]? =none:=by simp [e]
   simp only[World.frozen?,e2]
   rw[e,DT]
   cases o<;>simp
   rename_i c t fr
   obtain ⟨lo,hi⟩:=fr
   obtain ⟨rfl,rfl⟩:=ho c t lo hi rfl
   simp
  ·have e1:(World.more w o).heap[a.block]? =none:=by simp [World.more];omega
   have e2:w.heap[a.block]? =none:=by simp;omega
   simp only[World.frozen?,e1,e2]
theorem nk.qc {E:Env} {x:AObj} {h:Value} {b:Nat} (r:nk E x h) (hb:x.block h b):b<E.w.heap.size:=by
 cases x with
 |cells cs=>
  obtain ⟨b',c,t,rfl,hh,_⟩:=r
  simp only[AObj.block] at hb;subst hb
  exact (aq.1 hh).1
 |acc pY sz rows=>
  obtain ⟨base,cap,rfl,_,_,_,hh⟩:=r
  cases base with
  |none=>simp [AObj.block] at hb
  |some a0=>
   simp only[AObj.block] at hb
   obtain ⟨rfl,hc⟩:=hb
   obtain ⟨_,c,t,h2,_⟩:=hh a0 rfl hc
   exact (aq.1 h2).1
 |map es=>
  obtain ⟨r',en,cl,rfl,hh,_⟩:=r
  simp only[AObj.block] at hb;subst hb
  exact (aq.1 hh).1
 |loop k slots st sk=>
  obtain ⟨D,rec,rfl,h1,h2,_⟩:=r
  simp only[AObj.block] at hb
  rcases hb with rfl|hb
  ·exact (aq.1 h1).1
  ·obtain rfl:b=D:=by omega
   exact (aq.1 h2).1
 |iter s p=>
  obtain ⟨b',rfl,hh⟩:=r
  simp only[AObj.block] at hb;subst hb
  exact (aq.1 hh).1
 |dead=>simp [AObj.block] at hb
theorem qP.mono {E E':Env} {N:Nat} (h:E.Le N E'): ∀ {es:List (AV×AV)} {xs:List MapEntry},(∀p∈es,p.1.nb N∧p.2.nb N)→qP E es xs→qP E' es xs
 |[],_,_,r=>r
 |(k,v)::_,_,hb,⟨e,s,he,r1,r2,r3⟩=>
  ⟨e,s,he,nO.mono h k _ (hb (k,v) (by simp)).1 r1,nO.mono h v _ (hb (k,v) (by simp)).2 r2,qP.mono h (fun p hp=>hb p (by simp [hp])) r3⟩
theorem qP.nb {E:Env}: ∀ {es:List (AV×AV)} {xs:List MapEntry},qP E es xs→ ∀p∈es,p.1.nb E.n∧p.2.nb E.n
 |[],_,_=>by simp
 |(k,v)::_,_,⟨e,s,he,r1,r2,r3⟩=>by
  intro p hp
  simp only[bz] at hp
  rcases hp with rfl|hp
  ·exact ⟨nO.nb _ _ r1,nO.nb _ _ r2⟩
  ·exact qP.nb r3 p hp
theorem nk.mono {E E':Env} {x:AObj} {hd:Value} (r:nk E x hd) (h:E.Le E.n E') (hs: ∀b,x.block hd b→E'.w.heap[b]? =E.w.heap[b]?):nk E' x hd:=by
 cases x with
 |cells cs=>
  obtain ⟨b,c,t,rfl,hh,rl,h1⟩:=r
  exact ⟨b,c,t,rfl,by rw[hs b rfl,hh],k6.mono h _ _ (k6.nb _ _ rl) rl,h1⟩
 |acc pY sz rows=>
  obtain ⟨base,cap,rfl,h1,h2,h3,hh⟩:=r
  refine ⟨base,cap,rfl,h1,h2,h3,fun a0 ha hc=> ?_⟩
  obtain ⟨h4,c,t,h5,h6,rl,h1⟩:=hh a0 ha hc
  subst ha
  exact ⟨h4,c,t,by rw[hs _ ⟨rfl,hc⟩,h5],h6,k6.mono h _ _ (k6.nb _ _ rl) rl,h1⟩
 |map es=>
  obtain ⟨r',en,cl,rfl,hh,rp⟩:=r
  exact ⟨r',en,cl,rfl,by rw[hs r' rfl,hh],qP.mono h (qP.nb rp) rp⟩
 |loop k slots st sk=>
  obtain ⟨D,rec,rfl,h1,h2,h3,rl⟩:=r
  exact ⟨D,rec,rfl,by rw[hs (D+1) (.inl rfl),h1],by rw[hs D (.inr rfl),h2],h3,k6.mono h _ _ (k6.nb _ _ rl) rl⟩
 |iter s p=>
  obtain ⟨b,rfl,hh⟩:=r
  exact ⟨b,rfl,by rw[hs b rfl,hh]⟩
 |dead=>trivial
theorem mA.more (S:mA C φ σ a w) (o:Obj) (ho: ∀c t lo hi,o= .cells c t (lo,hi)→lo=0∧hi=0):mA C φ σ a (World.more w o):=by
 have le:(C.env φ σ.heap w).Le σ.heap.length (C.env φ σ.heap (World.more w o)):=
  Ctx.Bi (aD _) (fun _ _=>⟨rfl,rfl⟩) (fun b i u hm hc=>⟨hm,by rw[C2 w o (F7 hc)];exact hc⟩)
 refine {slots:=k6.mono le _ _ (k6.nb _ _ S.slots) S.slots,defers:=S.defers.same le (fun b hb=>sN w o hb),objs:= ?_,apart:=S.apart,s6:=S.s6,size:= ?_,old:= ?_,ni:= ?_,C5:=S.C5,vT:= ?_,rest:=S.rest,low:=S.low,names:=S.names}
 ·intro l x hx
  have r:=S.objs l x hx
  exact nk.mono r le (fun b hb=>sN w o (r.qc hb))
 ·have:=S.size;simp;omega
 ·intro b i hb hm;rw[C2 w o (ak hb S.size)];exact S.old b i hb hm
 ·intro b hb hm;rw[sN w o (ak hb S.size)];exact S.ni b hb hm
 ·intro x hx;rw[u6 w o ho];exact S.vT x hx
theorem mA.drew (S:mA C φ σ a w) (n:Nat):mA C φ σ a {w with drawn:=n}:=by
 have le:(C.env φ σ.heap w).Le σ.heap.length (C.env φ σ.heap {w with drawn:=n}):=
  Ctx.Bi (aD _) (fun _ _=>⟨rfl,rfl⟩) (fun b i u hm hc=>⟨hm,hc⟩)
 exact {slots:=k6.mono le _ _ (k6.nb _ _ S.slots) S.slots,defers:=S.defers.same le (fun _ _=>rfl),objs:=fun l x hx=>nk.mono (S.objs l x hx) le (fun _ _=>rfl),apart:=S.apart,s6:=S.s6,size:=S.size,old:=S.old,ni:=S.ni,C5:=S.C5,vT:=S.vT,rest:=S.rest,low:=S.low,names:=S.names}
theorem mA.le_more (_S:mA C φ σ a w) (o:Obj):(C.env φ σ.heap w).Le σ.heap.length (C.env φ σ.heap (World.more w o)):=
 Ctx.Bi (aD _) (fun _ _=>⟨rfl,rfl⟩) (fun b i u hm hc=>⟨hm,by rw[C2 w o (F7 hc)];exact hc⟩)
theorem not_mut_new (S:mA C φ σ a w) {b:Nat} (hb:w.heap.size≤b) (o:Nat): ¬ (ET φ σ.heap b o∨C.A b o):=by
 rintro (⟨l,x,hx,hm⟩|hA)
 ·have:=(S.objs l x hx).qc (AObj.nu hm)
  simp only[Ctx.env] at this;omega
 ·have:=C.hA _ _ hA
  have:=S.size;omega
theorem Yt (S:mA C φ σ a w) (c:Array Value) (t:TypeId) (h1: ∀u∈c.toList,u.oneCell'=true): ∀ (cs:List AV) (off:Nat),k6 (C.env φ σ.heap w) cs ((c.toList.drop off).take cs.length)→
 mV (C.env φ σ.heap (World.more w (.cells c t))) w.heap.size off cs
 |[],_,_=>trivial
 |x::cs,off,r=>by
  obtain ⟨u,us,hu,r1,r2⟩:=r
  have hc:c[off]? =some u:=by
   have:(c.toList.drop off)[0]? =some u:=by
    have:=congrArg (fun l:List Value=>l[0]?) hu
    simpa using this
   simpa using this
  have htl:us=(c.toList.drop (off+1)).take cs.length:=by
   have h1:=congrArg bY hu
   simp only[List.tail_cons] at h1
   rw[←h1]
   cases hd:c.toList.drop off with
   |nil=>rw[hd] at hu;simp at hu
   |cons y ys=>
    have:c.toList.drop (off+1)=ys:=by
     have:=congrArg bY hd
     simpa [cg] using this
    rw[this];simp
  refine ⟨⟨not_mut_new S (aD _) _,u,by simp only[Ctx.env];rw[Z9];exact hc,h1 u (ct (by simpa using hc)),nO.mono (S.le_more _) _ _ (nO.nb _ _ r1) r1⟩,Yt S c t h1 cs (off+1) (by rw[←htl];exact r2)⟩
theorem Xn (S:mA C φ σ a w) (c:Array Value) (t:TypeId) (h1: ∀u∈c.toList,u.oneCell'=true) (sz:Nat): ∀ (rs:List (List AV)) (off:Nat),(∀r∈rs,r.length=sz)→k6 (C.env φ σ.heap w) rs.flatten ((c.toList.drop off).take (rs.length*sz))→
 mC (C.env φ σ.heap (World.more w (.cells c t))) sz w.heap.size off rs
 |[],_,_,_=>trivial
 |r::rs,off,hl,h=>by
  have hr:r.length=sz:=hl r (by simp)
  simp only[aJ] at h
  have h3:=k6.take r.length h
  have h2:=k6.drop r.length h
  simp only[bF,bG,bN,bD,bq] at h3 h2
  refine ⟨hr,Yt S c t h1 r off ?_,Xn S c t h1 sz rs (off+sz) (fun q hq=>hl q (by simp [hq])) ?_⟩
  ·have:min r.length ((r::rs).length*sz)=r.length:=by
    simp only[aN,aC,aX];omega
   rw[this] at h3;exact h3
  ·have e:(r::rs).length*sz-r.length=rs.length*sz:=by simp only[aN,aC,aX];omega
   rw[e,hr] at h2;exact h2
theorem mA.name (S:mA C φ σ a w) (c:Array Value) (t:TypeId) {cs:List AV} (r:k6 (C.env φ σ.heap w) cs c.toList) (h1: ∀u∈c.toList,u.oneCell'=true):
 mA C (fun l=>if l=σ.heap.length then .pointer (some ⟨w.heap.size,0,none⟩) else φ l) {σ with heap:=σ.heap++[.cells cs]} a (World.more w (.cells c t))∧
 (C.env φ σ.heap w).Le σ.heap.length (C.env (fun l=>if l=σ.heap.length then .pointer (some ⟨w.heap.size,0,none⟩) else φ l) (σ.heap++[.cells cs]) (World.more w (.cells c t))):=by
 let φ':Nat→Value:=fun l=>if l=σ.heap.length then .pointer (some ⟨w.heap.size,0,none⟩) else φ l
 have hφ: ∀l,l<σ.heap.length→φ' l=φ l:=fun l hl=>by simp only[φ'];rw[if_neg (by omega)]
 have mL: ∀ (l:Nat) (x:AObj),(σ.heap++[.cells cs])[l]? =some x→(l<σ.heap.length∧σ.heap[l]? =some x)∨(l=σ.heap.length∧x= .cells cs):=by
  intro l x hx
  by_cases hl:l<σ.heap.length
  ·rw[an hl] at hx;exact .inl ⟨hl,hx⟩
  ·rw[aF (by omega)] at hx
   have hz:l-σ.heap.length=0:=by
    by_cases e:l-σ.heap.length=0
    ·exact e
    ·rw[br (by simp;omega)] at hx;cases hx
   rw[hz] at hx;simp at hx
   exact .inr ⟨by omega,hx.symm⟩
 have EE: ∀b o,ET φ' (σ.heap++[.cells cs]) b o→b=w.heap.size∨ET φ σ.heap b o:=by
  rintro b o ⟨l,x,hx,hm⟩
  rcases mL l x hx with ⟨hl,hx⟩|⟨rfl,rfl⟩
  ·rw[hφ l hl] at hm;exact .inr ⟨l,x,hx,hm⟩
  ·simp only[φ',if_true,AObj.muts] at hm;exact .inl hm
 have le:(C.env φ σ.heap w).Le σ.heap.length (C.env φ' (σ.heap++[.cells cs]) (World.more w (.cells c t))):=by
  refine Ctx.Bi (by simp) (fun l hl=>⟨hφ l hl,by rw[an hl]⟩) (fun b i u hm hc=> ?_)
  have hb:=F7 hc
  refine ⟨fun h=> ?_,by rw[C2 w _ hb];exact hc⟩
  rcases h with h|h
  ·rcases EE b i h with e|h
   ·omega
   ·exact hm (.inl h)
  ·exact hm (.inr h)
 have Ch:rB C φ' (σ.heap++[.cells cs]) (World.more w (.cells c t)) σ.df a.defers:=by
  refine S.defers.step le (fun b hb _=>sN w _ hb) (fun l x b hx hb=> ?_)
  rcases mL l x hx with ⟨hl,hx⟩|⟨rfl,rfl⟩
  ·rw[hφ l hl] at hb;exact .inl ⟨l,x,hx,hb⟩
  ·simp only[φ',if_true,AObj.block] at hb;right;omega
 refine ⟨{slots:=k6.mono le _ _ (k6.nb _ _ S.slots) S.slots,defers:=Ch,objs:= ?_,apart:= ?_,s6:= ?_,size:= ?_,old:= ?_,ni:= ?_,C5:= ?_,vT:= ?_,rest:=S.rest,low:=⟨S.low.1,by have:=S.low.2;simp;omega⟩,names:= ?_},le⟩
 ·intro l x hx
  rcases mL l x hx with ⟨hl,hx⟩|⟨rfl,rfl⟩
  ·have r0:=S.objs l x hx
   have:nk (C.env φ' (σ.heap++[.cells cs]) (World.more w (.cells c t))) x (φ l):=nk.mono r0 le (fun b hb=>sN w _ (r0.qc hb))
   show nk _ x (φ' l)
   rw[hφ l hl];exact this
  ·exact ⟨w.heap.size,c,t,by simp,DT w _,k6.mono le _ _ (k6.nb _ _ r) r,h1⟩
 ·intro l l' x x' b hx hx' hb hb'
  rcases mL l x hx with ⟨hl,hx⟩|⟨rfl,rfl⟩<;>rcases mL l' x' hx' with ⟨hl',hx'⟩|⟨rfl,rfl⟩
  ·rw[show (if l=σ.heap.length then _ else φ l)=φ l from hφ l hl] at hb
   rw[show (if l'=σ.heap.length then _ else φ l')=φ l' from hφ l' hl'] at hb'
   exact S.apart l l' x x' b hx hx' hb hb'
  ·rw[show (if l=σ.heap.length then _ else φ l)=φ l from hφ l hl] at hb
   have:=(S.objs l x hx).qc hb
   simp only[if_true,AObj.block] at hb'
   simp only[Ctx.env] at this;omega
  ·rw[show (if l'=σ.heap.length then _ else φ l')=φ l' from hφ l' hl'] at hb'
   have:=(S.objs l' x' hx').qc hb'
   simp only[if_true,AObj.block] at hb
   simp only[Ctx.env] at this;omega
  ·rfl
 ·intro l x b o hx hb
  rcases mL l x hx with ⟨hl,hx⟩|⟨rfl,rfl⟩
  ·rw[show (if l=σ.heap.length then _ else φ l)=φ l from hφ l hl] at hb
   exact S.s6 l x b o hx hb
  ·simp only[if_true,AObj.block] at hb
   intro hA
   have:=C.hA _ _ hA
   have:=S.size;omega
 ·have:=S.size;simp;omega
 ·intro b i hb hm;rw[C2 w _ (ak hb S.size)];exact S.old b i hb hm
 ·intro b hb hm;rw[sN w _ (ak hb S.size)];exact S.ni b hb hm
 ·intro l x b o hx hm hb
  rcases mL l x hx with ⟨hl,hx⟩|⟨rfl,rfl⟩
  ·rw[show (if l=σ.heap.length then _ else φ l)=φ l from hφ l hl] at hm
   exact S.C5 l x b o hx hm hb
  ·simp only[if_true,AObj.muts] at hm
   have:=S.size;omega
 ·intro x hx;rw[u6 w _ (by intro c' t' lo hi h;cases h;exact ⟨rfl,rfl⟩)];exact S.vT x hx
 ·intro l hl
  have hlt:l<σ.heap.length:=by have:=S.low;omega
  have:=S.names l hl
  rw[an hlt]
  show (φ' l=_∧_)∨_
  rw[hφ l hlt];exact this
end basics
end Go.Abs
namespace Go.Abs
structure u7 where
 val:AV
 rd:List Nat:=[]
 up:List (Nat×AObj):=[]
 nw:List AObj:=[]
 pre:Prop:=True
 whole:Bool:=false
def l7:List AObj→List (Nat×AObj)→List AObj
 |H,[]=>H
 |H,(l,x)::r=>l7 (H.set l x) r
def AState.app (σ:AState) (dst:Option Tmp) (e:u7):AState:=
 {σ.put dst e.val with heap:=l7 σ.heap e.up++e.nw}
def oQ (P:Program) (t:TypeId):Option (Bool×Nat):=
 match P.info? t with
 |none=>none
 |some i=>match P.underlying t with
  |some (.struct _)=>some (true,i.size)
  |some (.array _ _)=>some (true,i.size)
  |some _=>some (false,i.size)
  |none=>none
def oB (P:Program) (t:TypeId):Option (List AV):=
 match P.info? t with
 |none=>none
 |some i=>match i.zero with
  |some v=>if v.cells.toList.all Value.oneCell' then some (v.cells.toList.map Qa) else none
  |none=>none
def yU (P:Program) (t:TypeId) (i:Nat):Option (Nat×TypeId):=
 match P.underlying t with
 |some (.struct fs)=>match fs[i]? with
  |some f=>match P.info? f.type with
   |some j=>if j.size=0 then none else some (f.offset,f.type)
   |none=>none
  |none=>none
 |_=>none
def nU (P:Program) (t:TypeId):Option (TypeId×Nat×Nat):=
 match P.underlying t with
 |some (.slice e)=>match P.info? e with
  |some i=>some (e,i.size,i.bytes)
  |none=>none
 |_=>none
def tarr (P:Program) (t:TypeId):Option (Nat×Nat):=
 match P.underlying t with
 |some (.array n e)=>match P.info? e with
  |some i=>some (n,i.size)
  |none=>none
 |_=>none
def va (P:Program) (t:TypeId):Bool:=
 match P.underlying t with
 |some .string=>true
 |_=>false
def tint (P:Program) (t:TypeId):Option IntKind:=
 match P.underlying t with
 |some (.int k)=>some k
 |_=>none
def n6 (P:Program) (t:TypeId):Bool:=
 match P.underlying t with
 |some (.int _)=>false
 |some _=>true
 |none=>false
def qU (P:Program) (t:TypeId):Bool:=
 match P.underlying t with
 |some (.interface _)=>false
 |some _=>true
 |none=>false
def AV.scalar:AV→Bool
 | .any| .agg _| .tup _=>false
 | .raw v=>v.oneCell'
 |_=>true
def cellsOf:AV→Option (List AV)
 | .agg cs=>if cs.all AV.scalar then some cs else none
 |x=>if x.scalar then some [x] else none
def mg (g:Bool) (n:Nat) (cs:List AV):Option AV:=
 match g with
 |true=>if n≤cs.length then some (.agg (cs.take n)) else none
 |false=>match cs with
  |c::_=>some c
  |[]=>none
def splice (cs:List AV) (off:Nat) (xs:List AV):List AV:=cs.take off++xs++cs.drop (off+xs.length)
def Qb (place:Nat→Option (Nat×Nat)) (cs:List AV):List (Nat×AV)→Option (List AV)
 |[]=>some cs
 |(i,x)::rest=>match place i,cellsOf x with
  |some (off,size),some xs=>if xs.length=size∧off+size≤cs.length then Qb place (splice cs off xs) rest else none
  |_,_=>none
def Nw (P:Program) (t:TypeId):Option (Nat→Option (Nat×Nat)):=
 match P.underlying t with
 |some (.array _ e)=>match P.info? e with
  |some ie=>some fun i=>some (i*ie.size,ie.size)
  |none=>none
 |some (.struct fields)=>match fields.toList.mapM (fun f=>(P.info? f.type).map fun i=>(f.offset,i.size)) with
  |some places=>some fun i=>places.toArray[i]?
  |none=>none
 |_=>none
def Ci (P:Program) (t:TypeId):Bool:=(Nw P t).isSome
def nF (P:Program) (t:TypeId) (i:Nat):Option (Nat×Nat):=
 match Nw P t with
 |some f=>f i
 |none=>none
def rowsOf (sz:Nat) (rows:List (List AV)):List (Nat×AV)→Option (List (List AV))
 |[]=>some rows
 |(i,x)::rest=>match cellsOf x with
  |some xs=>if i<rows.length∧xs.length=sz then rowsOf sz (rows.set i xs) rest else none
  |none=>none
def bitI (k:IntKind) (f:BitVec k.bits→BitVec k.bits→BitVec k.bits) (a b:Int):Int:=k.wrap (f (BitVec.ofInt k.bits a) (BitVec.ofInt k.bits b)).toNat
def binAV (op:BinOp) (x y:AV):Option AV:=
 match x,y with
 | .int k a,.int k' b=>
   if k≠k' then none else
   match op with
   | .add=>some (.int k (k.wrap (a+b)))
   | .sub=>some (.int k (k.wrap (a-b)))
   | .mul=>some (.int k (k.wrap (a*b)))
   | .eql=>some (.bool (a==b))
   | .neq=>some (.bool (a !=b))
   | .lss=>some (.bool (decide (a<b)))
   | .leq=>some (.bool (decide (a≤b)))
   | .gtr=>some (.bool (decide (b<a)))
   | .geq=>some (.bool (decide (b≤a)))
   | .quo=>if b=0 then none else some (.int k (k.wrap (a.tdiv b)))
   | .rem=>if b=0 then none else some (.int k (a.tmod b))
   | .and=>some (.int k (bitI k (· &&& ·) a b))
   | .or=>some (.int k (bitI k (· ||| ·) a b))
   | .xor=>some (.int k (bitI k (· ^^^ ·) a b))
   | .andNot=>some (.int k (bitI k (fun x y=>x&&& ~~~y) a b))
   |_=>none
 | .str a,.str b=>
   match op with
   | .eql=>some (.bool (a.toList==b.toList))
   | .neq=>some (.bool (!(a.toList==b.toList)))
   | .add=>if a.size+b.size≤9223372036854775807 then some (.str (a++b)) else none
   | .lss=>some (.bool (Op.bytesLess a.toList b.toList))
   | .leq=>some (.bool (Op.bytesLess a.toList b.toList||a.toList==b.toList))
   | .gtr=>some (.bool (!(Op.bytesLess a.toList b.toList||a.toList==b.toList)))
   | .geq=>some (.bool (!Op.bytesLess a.toList b.toList))
   |_=>none
 |_,_=>none
def eq1:AV→AV→Bool
 | .int _ a,.int _ b=>a==b
 | .str a,.str b=>a.toList==b.toList
 | .bool a,.bool b=>a==b
 |_,_=>false
def eqB:List AV→List AV→Bool
 |[],[]=>true
 |x::xs,y::ys=>eq1 x y&&eqB xs ys
 |_,_=>false
def Yu (P:Program) (t:TypeId) (cs ds:List AV):Prop:=
 ∀ (E:Env) (vs us:Array Value) (w:World) (x y:Operand),k6 E cs vs.toList→k6 E ds us.toList→
   (do eqGuard .eql t x y (.agg vs) (.agg us);binOp .eql t (.agg vs) (.agg us):Sem Value).run P w= .ok (.bool (eqB cs ds)) w∧
   (do eqGuard .neq t x y (.agg vs) (.agg us);binOp .neq t (.agg vs) (.agg us):Sem Value).run P w= .ok (.bool (!eqB cs ds)) w
def tbl (P:Program) (t:TypeId):Bool:=
 match P.underlying t with
 |some .bool=>true
 |_=>false
def tany (P:Program) (t:TypeId):Bool:=
 match P.underlying t with
 |some (.interface ms)=>ms.isEmpty
 |_=>false
def WL (P:Program) (op:BinOp) (t:TypeId) (x y:AV):Option u7:=
 match op,x,y with
 | .eql,.agg cs,.agg ds=>some {val:= .bool (eqB cs ds),pre:=Yu P t cs ds}
 | .neq,.agg cs,.agg ds=>some {val:= .bool (!eqB cs ds),pre:=Yu P t cs ds}
 | .eql,.bool a,.bool b=>if tbl P t then some {val:= .bool (a==b)} else none
 | .neq,.bool a,.bool b=>if tbl P t then some {val:= .bool (!(a==b))} else none
 | .eql,.iface _ _,.raw .nilIface=>if tany P t then some {val:= .bool false} else none
 | .neq,.iface _ _,.raw .nilIface=>if tany P t then some {val:= .bool true} else none
 | .eql,.raw .nilIface,.raw .nilIface=>if tany P t then some {val:= .bool true} else none
 | .neq,.raw .nilIface,.raw .nilIface=>if tany P t then some {val:= .bool false} else none
 |_,_,_=>none
def Vu (P:Program) (op:BinOp) (t:TypeId) (x:AV) (y:Operand):Option u7:=
 match op,x,y with
 | .eql,.raw (.slice a _ _),.const (.slice none 0 0)=>if (nU P t).isSome then some {val:= .bool a.isNone} else none
 | .eql,.l5 _ _ rows,.const (.slice none 0 0)=>if rows.isEmpty=false∧(nU P t).isSome then some {val:= .bool false} else none
 |_,_,_=>none
def eqEff (P:Program) (op:BinOp) (t:TypeId) (y:Operand) (a b:AV):Option u7:=
 match Vu P op t a y with
 |some e=>some e
 |none=>WL P op t a b
def bound (σ:AState) (d:Nat):Option Operand→Option Int
 |none=>some d
 |some x=>match σ.ev x with
  | .int _ n=>some n
  |_=>none
def Ur (mx:Option Operand) (t:Bool) (h n m:Int):Bool:=
 match mx with
 |none=>t&&decide (h=n)
 |some _=>decide (h=m)
def VY (σ:AState) (sz:Nat) (x:AV) (lo hi mx:Option Operand):Option u7:=
 match x with
 | .l5 t sz' rows=>
   match bound σ 0 lo,bound σ rows.length hi,bound σ rows.length mx with
   |some l,some h,some m=>if (sz'=sz∨rows.length=0)∧0≤l∧l≤h∧h≤m∧m≤rows.length then
     some {val:= .l5 (Ur mx t h rows.length m) sz ((rows.take h.toNat).drop l.toNat)} else none
   |_,_,_=>none
 | .acc k n=>match σ.heap[k]? with
   |some (.acc true sz' rows)=>
    match bound σ 0 lo,bound σ rows.length hi,bound σ rows.length mx with
    |some l,some h,some m=>if sz'=sz∧rows.length=n∧0≤l∧l≤h∧h≤m∧m≤rows.length then
      some {val:= .l5 (Ur mx false h rows.length m) sz ((rows.take h.toNat).drop l.toNat),rd:=[k]} else none
    |_,_,_=>none
   |_=>none
 |_=>none
def Qc (σ:AState) (sz:Nat):AV→Option (List Nat×List (List AV))
 | .l5 _ sz' rows=>if sz'=sz∨rows.length=0 then some ([],rows) else none
 | .acc l n=>match σ.heap[l]? with
   |some (.acc true sz' rows)=>if sz'=sz∧rows.length=n then some ([l],rows) else none
   |_=>none
 | .raw (.slice _ 0 _)=>some ([],[])
 |_=>none
def room (n bytes:Nat):Prop:=n*bytes≤2 ^ 44
def O3 (im:Bool) (σ:AState) (sz bytes:Nat) (x y:AV):Option u7:=
 match Qc σ sz y with
 |none=>none
 |some (rd,ys)=>match x with
  | .acc l n=>match σ.heap[l]? with
    |some (.acc pY sz' rows)=>if sz'=sz∧rows.length=n then
      some {val:= .acc l (rows++ys).length,rd:=l::rd,up:=[(l,.acc pY sz (rows++ys))],pre:=room (rows.length+ys.length) bytes} else none
    |_=>none
  | .l5 true sz' rows=>if sz'=sz∨rows.length=0 then
      (if rows.length=0∨0<ys.length then some {val:= .acc σ.heap.length (rows++ys).length,rd:=rd,nw:=[.acc im sz (rows++ys)],pre:=room (rows.length+ys.length) bytes}
        else some {val:= .l5 true sz' rows,rd:=rd}) else none
  |_=>none
def lenAV (P:Program) (σ:AState) (t:TypeId):AV→Option u7
 | .str s=>if va P t then some {val:= .int .i64 s.size} else none
 | .l5 _ _ rows=>if (nU P t).isSome then some {val:= .int .i64 rows.length} else none
 | .acc l n=>if (nU P t).isSome then match σ.heap[l]? with
   |some (.acc _ _ rows)=>if rows.length=n then some {val:= .int .i64 n,rd:=[l]} else none
   |_=>none else none
 |_=>none
def Yv:List Operand→Nat
 | .tmp t::_=>t
 |_=>0
def Jz (P:Program) (σ:AState) (b:Builtin) (ops:List Operand) (ts:List TypeId) (xs:List AV):Option u7:=
 match b,ts,xs with
 | .len,[t],[x]=>lenAV P σ t x
 | .append,[t,u],[x,y]=>match nU P t,n6 P u with
   |some (e,sz,bytes),true=>match oB P e with
    |some z=>if z.length=sz∧0<sz∧0<bytes then O3 (immF t (Yv ops)) σ sz bytes x y else none
    |none=>none
   |_,_=>none
 | .max,[_,_],[.int k m,.int _ n]=>some {val:= .int k (if n>m then n else m)}
 | .min,[_,_],[.int k m,.int _ n]=>some {val:= .int k (if n<m then n else m)}
 |_,_,_=>none
def Vv (H:List AObj):List AV→Option (List AV×List Nat)
 |[]=>some ([],[])
 | .acc l n::cs=>match H[l]? with
   |some (.acc pY sz rows)=>if rows.length=n then match Vv H cs with
    |some (ds,ns)=>some ((bif pY then .l5 false sz rows else .acc l n)::ds,l::ns)
    |none=>none else none
   |_=>none
 |c::cs=>match Vv H cs with
  |some (ds,ns)=>some (c::ds,ns)
  |none=>none
def ldV (H:List AObj) (l:Nat):AV→Option u7
 | .agg cs=>match Vv H cs with
   |some (ds,ns)=>some {val:= .agg ds,rd:=l::ns}
   |none=>none
 |v=>some {val:=v,rd:=[l]}
def Yw (sz:Nat):Nat→List AV→Option (List AV)
 |0,cs=>if sz≤cs.length then some (cs.take sz) else none
 |n+1,cs=>Yw sz n (cs.drop sz)
def tz1 (P:Program) (t:TypeId):Option AV:=
 match P.info? t with
 |some i=>match i.zero with
  |some (.bool b)=>some (.bool b)
  |some (.int k n)=>some (.int k n)
  |some (.string s)=>some (.str s)
  |some (.agg vs)=>some (.agg (vs.toList.map Qa))
  |_=>none
 |none=>none
def R2 (P:Program) (t:TypeId):Option AV:=
 match P.underlying t with
 |some (.map k e)=>match P.underlying k with
  |some .string=>tz1 P e
  |_=>none
 |_=>none
def K6:List (AV×AV)→Bool
 |[]=>true
 |(.str _,_)::es=>K6 es
 |_=>false
def yw (s:ByteArray):List (AV×AV)→Option AV
 |(.str k,v)::es=>bif s==k then some v else yw s es
 |_=>none
def JA (s:ByteArray) (v:AV):List (AV×AV)→List (AV×AV)
 |(.str k,u)::es=>bif s==k then (.str k,v)::es else (.str k,u)::JA s v es
 |_=>[(.str s,v)]
def Us (z:AV) (l:Nat) (s:ByteArray):Option AObj→Option u7
 |some (.map es)=>if K6 es=true then some {val:=(yw s es).getD z,rd:=[l]} else none
 |_=>none
def lookV (z:AV) (l:Nat):Option AV→u7
 |some v=>{val:= .tup [v,.bool true],rd:=[l]}
 |none=>{val:= .tup [z,.bool false],rd:=[l]}
def WM (z:AV) (l:Nat) (s:ByteArray):Option AObj→Option u7
 |some (.map es)=>if K6 es=true then some (lookV z l (yw s es)) else none
 |_=>none
def tasEff (P:Program) (t:TypeId):AV→Option u7
 | .iface t' x=>if t'=t∧qU P t=true then some {val:= .tup [x,.bool true]} else none
 |_=>none
def mapUpEff (l:Nat) (s:ByteArray) (v:AV):Option AObj→Option u7
 |some (.map es)=>if K6 es=true then some {val:= .any,rd:=[l],up:=[(l,.map (JA s v es))]} else none
 |_=>none
def Yx:Value→Option u7
 | .pointer (some ⟨b,o,none⟩)=>match ktab b with
   |some k=>(kcell b o).bind fun m=>some {val:= .int k m}
   |none=>none
 |_=>none
def Ut (l:Nat):Option AObj→Option u7
 |some (.iter s p)=>if p<s.size then some {val:= .tup [.bool true,.int .i64 p,.int .i32 (Utf8.decode s p).1],rd:=[l],up:=[(l,.iter s (p+(Utf8.decode s p).2))]}
   else some {val:= .tup [.bool false],rd:=[l]}
 |_=>none
def lA (P:Program) (σ:AState):Op→Option u7
 | .move x=>some {val:=σ.ev x}
 | .assign x=>some {val:=σ.ev x}
 | .pick c x y=>match σ.ev c with
   | .bool b=>some {val:=bif b then σ.ev x else σ.ev y}
   |_=>none
 | .alloc t=>match oB P t with
   |some z=>some {val:= .ptr σ.heap.length 0,nw:=[.cells z]}
   |none=>none
 | .box _ x=>match cellsOf (σ.ev x) with
   |some cs=>some {val:= .ptr σ.heap.length 0,nw:=[.cells cs]}
   |none=>none
 | .build t parts=>match Ci P t,oB P t with
   |true,some z=>match Qb (nF P t) z (parts.toList.map fun p=>(p.1,σ.ev p.2)) with
    |some cs=>some {val:= .agg cs}
    |none=>none
   |_,_=>none
 | .buildSlice t len parts=>match nU P t with
   |some (e,sz,_)=>match oB P e with
    |some z=>if z.length=sz∧len*sz≤16777216 then
      match rowsOf sz (aA len z) (parts.toList.map fun p=>(p.1,σ.ev p.2)) with
      |some rows=>bif litF t (Yv (parts.toList.map (·.2))) then some {val:= .acc σ.heap.length rows.length,nw:=[.acc (immF t (Yv (parts.toList.map (·.2)))) sz rows]} else some {val:= .l5 true sz rows}
      |none=>none
     else none
    |none=>none
   |none=>none
 | .load t x=>match oQ P t,σ.ev x with
   |some (g,n),.ptr l off=>match σ.heap[l]? with
    |some (.cells cs)=>match mg g n (cs.drop off) with
     |some v=>ldV σ.heap l v
     |none=>none
    |_=>none
   |some (g,n),.pp cs=>match mg g n cs with
    |some v=>some {val:=v}
    |none=>none
   |some (g,n),.own l i m o sz=>match σ.heap[l]? with
    |some (.acc false sz' rows)=>if sz'=sz∧rows.length=m then match rows[i]? with
     |some r=>match mg g n (r.drop o) with
      |some v=>some {val:=v,rd:=[l]}
      |none=>none
     |none=>none else none
    |_=>none
   |some (false,_),.raw v=>Yx v
   |_,_=>none
 | .store t x y=>match oQ P t,σ.ev x,cellsOf (σ.ev y) with
   |some (_,n),.ptr l off,some ys=>match σ.heap[l]? with
    |some (.cells cs)=>if ys.length=n∧off+n≤cs.length then some {val:= .any,rd:=[l],up:=[(l,.cells (splice cs off ys))]} else none
    |_=>none
   |some (_,n),.own l i m o sz,some ys=>match σ.heap[l]? with
    |some (.acc false sz' rows)=>if sz'=sz∧rows.length=m then match rows[i]? with
     |some r=>if ys.length=n∧o+n≤sz then some {val:= .any,rd:=[l],up:=[(l,.acc false sz (rows.set i (splice r o ys)))]} else none
     |none=>none else none
    |_=>none
   |_,_,_=>none
 | .binOp op t x y _=>match binAV op (σ.ev x) (σ.ev y) with
   |some v=>some {val:=v}
   |none=>eqEff P op t y (σ.ev x) (σ.ev y)
 | .unOp op _ x=>match op,σ.ev x with
   | .not,.bool b=>some {val:= .bool (!b)}
   | .neg,.int k n=>some {val:= .int k (k.wrap (0-n))}
   | .xor,.int k n=>some {val:= .int k (bitI k (· ^^^ ·) (if k.signed then-1 else k.max) n)}
   |_,_=>none
 | .fieldAddr t x i=>match yU P t i,σ.ev x with
   |some (o,_),.ptr l off=>some {val:= .ptr l (off+o)}
   |some (o,_),.pp cs=>some {val:= .pp (cs.drop o)}
   |some (o,_),.own l i m o' sz=>some {val:= .own l i m (o'+o) sz}
   |_,_=>none
 | .field t x i=>match yU P t i,σ.ev x with
   |some (o,u),.agg cs=>match oQ P u with
    |some (g,n)=>match mg g n (cs.drop o) with
     |some v=>some {val:=v}
     |none=>none
    |none=>none
   |_,_=>none
 | .indexAddr t x i=>match nU P t with
   |some (_,sz,_)=>match σ.ev x,σ.ev i with
    | .l5 _ sz' rows,.int _ n=>if sz'=sz∧0≤n then match rows[n.toNat]? with
      |some r=>some {val:= .pp r}
      |none=>none else none
    | .acc l m,.int _ n=>match σ.heap[l]? with
      |some (.acc true sz' rows)=>if sz'=sz∧0≤n∧rows.length=m then match rows[n.toNat]? with
       |some r=>some {val:= .pp r,rd:=[l]}
       |none=>none else none
      |some (.acc false sz' rows)=>if sz'=sz∧0≤n∧rows.length=m∧n<m then some {val:= .own l n.toNat m 0 sz,rd:=[l]} else none
      |_=>none
    |_,_=>none
   |none=>match tarr P t with
    |some (len,sz)=>match σ.ev x,σ.ev i with
     | .ptr l off,.int _ n=>if 0≤n∧n<len then some {val:= .ptr l (off+n.toNat*sz)} else none
     | .pp cs,.int _ n=>if 0≤n∧n<len then (Yw sz n.toNat cs).bind fun ds=>some {val:= .pp ds} else none
     | .raw (.pointer (some ⟨b,o,none⟩)),.int _ n=>if 0≤n∧n<len then some {val:= .raw (.pointer (some ⟨b,o+n.toNat*sz,none⟩))} else none
     |_,_=>none
    |none=>none
 | .index t x i=>match va P t,σ.ev x,σ.ev i with
   |true,.str s,.int _ n=>if 0≤n then match s[n.toNat]? with
    |some b=>some {val:= .int .u8 b.toNat}
    |none=>none else none
   |_,_,_=>none
 | .slice t x lo hi mx=>match nU P t with
   |some (_,sz,_)=>if mx.isSome&&hi.isNone then none else VY σ sz (σ.ev x) lo hi mx
   |none=>match va P t,σ.ev x,mx with
    |true,.str s,none=>match bound σ 0 lo,bound σ s.size hi with
     |some l,some h=>if 0≤l∧l≤h∧h≤s.size then some {val:= .str (s.extract l.toNat h.toNat)} else none
     |_,_=>none
    |_,_,_=>none
 | .nilCheck x=>match σ.ev x with
   | .ptr l off=>some {val:= .ptr l off}
   | .pp cs=>some {val:= .pp cs}
   | .func (.func f) fs cs=>some {val:= .func (.func f) fs cs}
   |_=>none
 | .convert s d x=>match σ.ev x with
   | .str v=>if va P s&&va P d then some {val:= .str v} else none
   | .int _ n=>match tint P s,tint P d with
     |some _,some k=>some {val:= .int k (k.wrap n)}
     |some _,none=>if va P d then some {val:= .str (Utf8.encode n)} else none
     |_,_=>none
   |_=>none
 | .makeInterface t x=>if qU P t then some {val:= .iface t (σ.ev x)} else none
 | .makeSlice t x y=>match nU P t,σ.ev x,σ.ev y with
   |some (e,sz,bytes),.int .i64 n,.int .i64 m=>match oB P e with
    |some z=>if z.length=sz∧0<sz∧0≤n∧n=m then
      some {val:= .acc σ.heap.length n.toNat,nw:=[.acc false sz (aA n.toNat z)],pre:=room n.toNat bytes∧n<2 ^ 62} else none
    |none=>none
   |_,_,_=>none
 | .call {callee:= .builtin b,args,argTypes}=>Jz P σ b args.toList argTypes.toList (args.toList.map σ.ev)
 | .extract x i=>match σ.ev x with
   | .tup vs=>match vs[i]? with
     |some v=>some {val:=v}
     |none=>none
   |_=>none
 | .makeFunc fn f c=>some {val:= .func fn (f.toList.map σ.ev) (c.toList.map σ.ev)}
 | .range t x=>match va P t,σ.ev x with
   |true,.str s=>some {val:= .ptr σ.heap.length 0,nw:=[.iter s 0]}
   |_,_=>none
 | .next x true=>match σ.ev x with
   | .ptr l 0=>Ut l σ.heap[l]?
   |_=>none
 | .makeMap _ none=>some {val:= .map σ.heap.length,nw:=[.map []]}
 | .lookup t x k false=>match R2 P t,σ.ev x,σ.ev k with
   |some z,.map l,.str s=>Us z l s σ.heap[l]?
   |_,_,_=>none
 | .lookup t x k true=>match R2 P t,σ.ev x,σ.ev k with
   |some z,.map l,.str s=>WM z l s σ.heap[l]?
   |_,_,_=>none
 | .typeAssert x _ t true=>tasEff P t (σ.ev x)
 | .mapUpdate t x k y=>match R2 P t,σ.ev x,σ.ev k with
   |some _,.map l,.str s=>mapUpEff l s (σ.ev y) σ.heap[l]?
   |_,_,_=>none
 | .insert t x k y=>match R2 P t,σ.ev x,σ.ev k with
   |some _,.map l,.str s=>mapUpEff l s (σ.ev y) σ.heap[l]?
   |_,_,_=>none
 |_=>none
section sound
variable {C:Ctx} {φ:Nat→Value} {σ:AState} {a:Act} {w:World}
def wg (C:Ctx) (σ:AState) (a:Act) (w:World) (dst:Option Tmp) (r:Result Next) (e:u7):Prop:=
 ∃n v w' φ',r= .ok n w'∧(n= .value v∨(n= .skip∧v=undef))∧mA C φ' (σ.app dst e) (a.put dst v) w'
theorem JB {t:TypeId} {g:Bool} {n:Nat} (h:oQ C.P t=some (g,n)):(isAgg t).run C.P w= .ok g w∧(sizeOf t).run C.P w= .ok n w:=by
 unfold oQ at h
 cases hi:C.P.info? t with
 |none=>simp [hi] at h
 |some i=>
  simp only[hi] at h
  cases hu:C.P.underlying t with
  |none=>simp [hu] at h
  |some d=>
   simp only[hu] at h
   constructor
   ·cases d<;>simp_all [isAgg,run_underlying hu]
   ·simp only[sizeOf,typeInfo]
    cases d<;>simp_all
theorem Yy {E:Env} {c:AV} {v:Value} (h:c.scalar=true) (r:nO E c v):v.oneCell'=true:=by
 cases c with
 |any|agg _|tup _=>simp [AV.scalar] at h
 |bool b|int k n|str s=>simp only[nO] at r;subst r;rfl
 |raw u=>simp only[nO] at r;subst r;exact h
 |l5 t sz rows=>obtain ⟨_,_,rfl,_⟩:=r;rfl
 |acc l n=>obtain ⟨_,⟨_,_,_,rfl⟩,_⟩:=r;rfl
 |own l i n o sz=>obtain ⟨_,⟨_,rfl⟩,_⟩:=r;rfl
 |ptr l off=>obtain ⟨_,_,_,rfl⟩:=r;rfl
 |map l=>
  obtain ⟨_,rfl,_,h2⟩:=r
  revert h2
  generalize E.φ l=h
  intro h2
  unfold hdl at h2
  split at h2<;>first|rfl|cases h2
 |pp cs=>obtain ⟨_,_,rfl,_⟩:=r;rfl
 |func fn f c=>obtain ⟨_,_,rfl,_⟩:=r;rfl
 |iface t x=>obtain ⟨_,rfl,_⟩:=r;rfl
theorem Xo {E:Env}: ∀ {cs:List AV} {vs:List Value},cs.all AV.scalar=true→k6 E cs vs→ ∀v∈vs,v.oneCell'=true
 |[],_,_,rfl=>by simp
 |c::cs,_,h,⟨u,us,rfl,r1,r2⟩=>by
  simp only[cv,aY] at h
  intro v hv
  simp only[bz] at hv
  rcases hv with rfl|hv
  ·exact Yy h.1 r1
  ·exact Xo h.2 r2 v hv
end sound
end Go.Abs
namespace Go.Abs
section sound
variable {C:Ctx} {φ:Nat→Value} {σ:AState} {a:Act} {w:World}
def MemAt (E:Env) (b off:Nat) (cs:List AV):Prop:= ∃us:List Value,k6 E cs us∧ ∀j u,us[j]? =some u→E.w.cell? ⟨b,off+j,none⟩=some u
theorem K7 {E:Env} {b:Nat}: ∀ {cs:List AV} {off:Nat},mV E b off cs→MemAt E b off cs
 |[],_,_=>⟨[],rfl,by simp⟩
 |c::cs,off,⟨⟨_,u,hu,_,r⟩,r2⟩=>by
  obtain ⟨us,rl,h⟩:=K7 r2
  refine ⟨u::us,⟨u,us,rfl,r,rl⟩,fun j v hj=> ?_⟩
  cases j with
  |zero=>simp at hj;subst hj;exact hu
  |succ j=>simp at hj;rw[←h j v hj];congr 2;omega
theorem Yz {E:Env} {b:Nat} {c:Array Value} {t:TypeId} {fr:Nat×Nat} {cs:List AV} (hh:E.w.heap[b]? =some (.cells c t fr)) (r:k6 E cs c.toList) (off:Nat):
 MemAt E b off (cs.drop off):=
 ⟨c.toList.drop off,r.drop off,fun j u hj=>by
   simp only[World.cell?,hh]
   simpa using hj⟩
theorem add_plain (b off j:Nat):(⟨b,off,none⟩:Addr).add j=⟨b,off+j,none⟩:=by
 unfold Addr.add;split<;>simp_all
theorem aaa {P:Program} {a:Addr} {m:Mode} {u:Value} (h:w.cell? a=some u):(load a m).run P w= .ok u w:=by rw[run_load,h]
theorem Qd {E:Env} {b off:Nat} {cs:List AV} (hm:MemAt E b off cs) {P:Program} {t:TypeId} {g:Bool} {n:Nat} (ha:(isAgg t).run P E.w= .ok g E.w) (hs:(sizeOf t).run P E.w= .ok n E.w) {x:AV} (hl:mg g n cs=some x):
 ∃v,(loadVar t ⟨b,off,none⟩).run P E.w= .ok v E.w∧nO E x v:=by
 obtain ⟨us,rl,h⟩:=hm
 unfold mg at hl
 cases g with
 |true=>
  simp only at hl
  split at hl
  ·rename_i hn
   cases hl
   have hlen:=rl.length
   refine ⟨.agg (us.take n).toArray,?_,(us.take n).toArray,rfl,by simpa using rl.take n⟩
   have:=run_loadCells_list (P:=P) E.w ⟨b,off,none⟩ (us.take n) (fun j v hj=>by
    rw[add_plain]
    apply h j v
    rw[bC] at hj
    split at hj
    ·exact hj
    ·cases hj)
   have hl2:(us.take n).length=n:=by rw[aG];omega
   rw[hl2] at this
   simp [loadVar,ha,hs,this]
  ·cases hl
 |false=>
  simp only at hl
  split at hl
  ·rename_i c cs
   cases hl
   obtain ⟨u,us',rfl,r1,_⟩:=rl
   have:=h 0 u (by simp)
   refine ⟨u,?_,r1⟩
   simp only[loadVar,aj,ha,aa]
   simpa using aaa (by simpa using this)
  ·cases hl
theorem FI {E:Env} {x:AV} {xs:List AV} {v:Value} (h:cellsOf x=some xs) (r:nO E x v):k6 E xs v.cells.toList∧ ∀u∈v.cells.toList,u.oneCell'=true:=by
 unfold cellsOf at h
 split at h
 ·rename_i cs
  split at h
  ·rename_i hs
   cases h
   obtain ⟨vs,rfl,rl⟩:=r
   exact ⟨rl,Xo hs rl⟩
  ·cases h
 ·split at h
  ·rename_i hs
   cases h
   have h1:=Yy hs r
   have:v.cells= #[v]:=by cases v<;>first|rfl|(simp [Value.oneCell'] at h1)
   rw[this]
   exact ⟨⟨v,[],rfl,r,rfl⟩,by simpa using h1⟩
  ·cases h
theorem Qe (E:Env): ∀vs:List Value,k6 E (vs.map Qa) vs
 |[]=>rfl
 |v::vs=>⟨v,vs,rfl,rep_const E v,Qe E vs⟩
theorem Uu {P:Program} {t:TypeId} {z:List AV} (h:oB P t=some z): ∃v,(zeroValue t).run P w= .ok v w∧(∀E,k6 E z v.cells.toList)∧ ∀u∈v.cells.toList,u.oneCell'=true:=by
 unfold oB at h
 cases hi:P.info? t with
 |none=>simp [hi] at h
 |some i=>
  simp only[hi] at h
  cases hz:i.zero with
  |none=>simp [hz] at h
  |some v=>
   simp only[hz] at h
   split at h
   ·rename_i h1
    cases h
    exact ⟨v,by simp [zeroValue,typeInfo,hi,hz],fun E=>Qe E _,List.all_eq_true.1 h1⟩
   ·cases h
theorem mA.write (S:mA C φ σ a w) {l b:Nat} {cs cs':List AV} {c c':Array Value} {t:TypeId} (hl:σ.heap[l]? =some (.cells cs)) (hφ:φ l= .pointer (some ⟨b,0,none⟩))
 (hh:w.heap[b]? =some (.cells c t (0,0))) (hr:k6 (C.env φ σ.heap w) cs' c'.toList) (h1: ∀u∈c'.toList,u.oneCell'=true):mA C φ {σ with heap:=σ.heap.set l (.cells cs')} a (w.setRow b c'):=by
 have hlt:l<σ.heap.length:=(az.1 hl).1
 have mL: ∀ (k:Nat) (x:AObj),(σ.heap.set l (.cells cs'))[k]? =some x→(k=l∧x= .cells cs')∨(k≠l∧σ.heap[k]? =some x):=by
  intro k x hx
  by_cases e:k=l
  ·subst e;rw[au hlt] at hx;cases hx;exact .inl ⟨rfl,rfl⟩
  ·rw[ay (fun h=>e h.symm)] at hx;exact .inr ⟨e,hx⟩
 have EE: ∀b' o,ET φ (σ.heap.set l (.cells cs')) b' o→ET φ σ.heap b' o:=by
  rintro b' o ⟨k,x,hx,hm⟩
  rcases mL k x hx with ⟨rfl,rfl⟩|⟨_,hx⟩
  ·exact ⟨k,_,hl,by rw[hφ] at hm ⊢;exact hm⟩
  ·exact ⟨k,x,hx,hm⟩
 have hmb: ∀o,ET φ σ.heap b o:=fun o=>⟨l,_,hl,by rw[hφ];rfl⟩
 have le:(C.env φ σ.heap w).Le σ.heap.length (C.env φ (σ.heap.set l (.cells cs')) (w.setRow b c')):=by
  refine Ctx.Bi (by simp) (fun k hk=>⟨rfl,?_⟩) (fun b' o u hm hc=> ?_)
  ·by_cases e:k=l
   ·subst e;rw[au hlt,hl];rfl
   ·rw[ay (fun h=>e h.symm)]
  ·have hne:b'≠b:=fun e=>hm (.inl (e ▸ hmb o))
   exact ⟨fun h=>hm (h.imp (EE b' o) id),by rw[cell_setRow_other w b c' _ hne];exact hc⟩
 have Ch:rB C φ (σ.heap.set l (.cells cs')) (w.setRow b c') σ.df a.defers:=by
  refine S.defers.step le (fun b' _ hno=> ?_) (fun k x b' hx hb=> ?_)
  ·refine setRow_other w b b' c' (fun e=> ?_)
   subst e
   exact hno l _ hl (by rw[hφ];rfl)
  ·rcases mL k x hx with ⟨rfl,rfl⟩|⟨hne,hx⟩
   ·exact .inl ⟨k,_,hl,by rw[hφ] at hb ⊢;exact hb⟩
   ·exact .inl ⟨k,x,hx,hb⟩
 refine {slots:=k6.mono le _ _ (k6.nb _ _ S.slots) S.slots,defers:=Ch,objs:= ?_,apart:= ?_,s6:= ?_,size:=by simpa using S.size,old:= ?_,ni:= ?_,C5:= ?_,vT:= ?_,rest:=S.rest,low:=⟨S.low.1,by simpa using S.low.2⟩,names:= ?_}
 ·intro k x hx
  rcases mL k x hx with ⟨rfl,rfl⟩|⟨hne,hx⟩
  ·exact ⟨b,c',t,hφ,setRow_heap w b c c' t _ hh,k6.mono le _ _ (k6.nb _ _ hr) hr,h1⟩
  ·refine nk.mono (S.objs k x hx) le (fun b' hb'=> ?_)
   refine setRow_other w b b' c' (fun e=> ?_)
   subst e
   exact hne (S.apart k l x _ b' hx hl hb' (by rw[hφ];rfl))
 ·intro k k' x x' b' hx hx' hb hb'
  rcases mL k x hx with ⟨rfl,rfl⟩|⟨hne,hx1⟩<;>rcases mL k' x' hx' with ⟨rfl,rfl⟩|⟨hne',Mg⟩
  ·rfl
  ·exact S.apart k k' _ x' b' hl Mg (by rw[hφ] at hb ⊢;exact hb) hb'
  ·exact S.apart k k' x _ b' hx1 hl hb (by rw[hφ] at hb' ⊢;exact hb')
  ·exact S.apart k k' x x' b' hx1 Mg hb hb'
 ·intro k x b' o hx hb
  rcases mL k x hx with ⟨rfl,rfl⟩|⟨hne,hx⟩
  ·exact S.s6 k _ b' o hl (by rw[hφ] at hb ⊢;exact hb)
  ·exact S.s6 k x b' o hx hb
 ·intro b' o hb' hm
  by_cases e:b'=b
  ·subst e
   exact absurd (S.C5 l _ b' o hl (by rw[hφ];rfl) hb') hm
  ·rw[cell_setRow_other w b c' _ e];exact S.old b' o hb' hm
 ·intro b' hb' hm
  by_cases e:b'=b
  ·subst e
   exact absurd (S.C5 l _ b' 0 hl (by rw[hφ];rfl) hb') (hm 0)
  ·rw[setRow_other w b b' c' e];exact S.ni b' hb' hm
 ·intro k x b' o hx hm hb'
  rcases mL k x hx with ⟨rfl,rfl⟩|⟨hne,hx⟩
  ·exact S.C5 k _ b' o hl (by rw[hφ] at hm ⊢;exact hm) hb'
  ·exact S.C5 k x b' o hx hm hb'
 ·intro x hx
  rw[←S.vT x hx]
  by_cases e:x.block=b
  ·simp only[World.frozen?]
   rw[e,setRow_heap w b c c' t _ hh,hh]
  ·simp only[World.frozen?]
   rw[setRow_other w b x.block c' e]
 ·intro k hk
  have:=S.names k hk
  by_cases e:k=l
  ·subst e
   rw[au hlt]
   rw[hl] at this
   exact this
  ·rw[ay (fun h=>e h.symm)];exact this
theorem store_sound (S:mA C φ σ a w) {l off n:Nat} {cs ys:List AV} {t:TypeId} {g:Bool} {v:Value} (ht:oQ C.P t=some (g,n)) (hl:σ.heap[l]? =some (.cells cs))
 (hr:k6 (C.env φ σ.heap w) ys v.cells.toList) (h1: ∀u∈v.cells.toList,u.oneCell'=true) (hn:ys.length=n) (hoff:off+n≤cs.length) {p:Value}
 (hp:nO (C.env φ σ.heap w) (.ptr l off) p):
 ∃w',(bR t p v).run C.P w= .ok () w'∧mA C φ {σ with heap:=σ.heap.set l (.cells (splice cs off ys))} a w':=by
 obtain ⟨_,b,hφ,rfl⟩:=hp
 simp only[Ctx.env] at hφ
 obtain ⟨b2,c,t2,hφ2,hh,rl,hone⟩:=S.objs l _ hl
 have e:b2=b:=by rw[hφ] at hφ2;simpa using hφ2.symm
 subst e
 simp only[Ctx.env] at hh
 have hcl:c.size=cs.length:=by have:=rl.length;simpa using this
 have hvl:v.cells.size=n:=by have:=hr.length;simp at this;omega
 have hst:=run_storeCells_at C.P b2 off t2 v.cells.toList 0 c w hh (by simp;omega) h1
 refine ⟨_,?_,S.write hl hφ hh (c':=(c.toList.take off++v.cells.toList++c.toList.drop (off+v.cells.toList.length)).toArray) ?_ ?_⟩
 ·have hs:=(JB (C:=C) (w:=w) ht).2
  simp only[bR,aI,storeVar,aj,av,aa,hs,hvl]
  simp only[bH] at hst
  simpa using hst
 ·have e1:v.cells.toList.length=ys.length:=hr.length
  rw[e1]
  exact ((rl.take off).append hr).append (rl.drop _)
 ·intro u hu
  simp only[aM] at hu
  rcases hu with (hu|hu)|hu
  ·exact hone u (bt hu)
  ·exact h1 u hu
  ·exact hone u (bu hu)
theorem VZ (off:Nat): ∀ (xs:List Value) (k:Nat) (cs:Array Value),off+k+xs.length≤cs.size→
 (((xs.zipIdx k).foldl (fun cs p=>cs.setIfInBounds (off+p.2) p.1) cs).toList=cs.toList.take (off+k)++xs++cs.toList.drop (off+k+xs.length))
 |[],k,cs,_=>by simp
 |x::xs,k,cs,h=>by
  simp only[List.zipIdx_cons,List.foldl_cons]
  rw[VZ off xs (k+1) _ (by simp at h ⊢;omega)]
  have e:=list_seg_step cs.toList (off+k) x xs (by simp at h ⊢;omega)
  simp only[bQ]
  rw[←bw off k 1]
  simpa using e
theorem Vw {E:Env} (place:Nat→Option (Nat×Nat)): ∀ (ps:List (Nat×AV)) (qs:List (Nat×Value)) (cs:List AV) (vs:Array Value) (out:List AV),
 k6 E cs vs.toList→(∀u∈vs.toList,u.oneCell'=true)→qs.map (·.1)=ps.map (·.1)→k6 E (ps.map (·.2)) (qs.map (·.2))→Qb place cs ps=some out→
 ∃us,Instr.fill place vs qs=some us∧k6 E out us.toList∧ ∀u∈us.toList,u.oneCell'=true
 |[],[],cs,vs,out,r,h1,_,_,h=>by
  simp only[Qb] at h;cases h;exact ⟨vs,rfl,r,h1⟩
 |[],_::_,_,_,_,_,_,h,_,_=>by simp at h
 |_::_,[],_,_,_,_,_,h,_,_=>by simp at h
 |(i,x)::ps,(j,v)::qs,cs,vs,out,r,h1,hi,hr,h=>by
  simp only[List.map_cons,bI] at hi
  obtain ⟨rfl,hi⟩:=hi
  obtain ⟨u,us,YA,r1,r2⟩:=hr
  simp only[List.map_cons,bI] at YA
  obtain ⟨rfl,rfl⟩:=YA
  simp only[Qb] at h
  split at h
  ·rename_i off size xs hp hx
   split at h
   ·rename_i hc
    obtain ⟨hrl,hone⟩:=FI hx r1
    have hlen:=hrl.length
    have hcl:=r.length
    have hsz:v.cells.size=size:=by simp at hlen;omega
    have hsp:off+v.cells.size≤vs.size:=by simp at hcl;omega
    have hf:=VZ off v.cells.toList 0 vs (by simpa using hsp)
    simp only[bH] at hf
    have hspl:(v.cells.zipIdx.foldl (fun cs (c,j)=>cs.setIfInBounds (off+j) c) vs).toList=vs.toList.take off++v.cells.toList++vs.toList.drop (off+v.cells.toList.length):=by
     rw[←hf,←Array.foldl_toList];simp
    obtain ⟨us',hus',hr',ho'⟩:=Vw place ps qs (splice cs off xs) (v.cells.zipIdx.foldl (fun cs (c,j)=>cs.setIfInBounds (off+j) c) vs) out (by
     rw[hspl,hlen]
     exact ((r.take off).append hrl).append (r.drop _)) (by
     rw[hspl]
     intro u hu
     rcases aM.1 hu with hu|hu
     ·rcases aM.1 hu with hu|hu
      ·exact h1 u (bt hu)
      ·exact hone u hu
     ·exact h1 u (bu hu)) hi r2 h
    refine ⟨us',?_,hr',ho'⟩
    rw[Instr.fill]
    simp only[hp]
    rw[if_neg (by simp;omega)]
    exact hus'
   ·cases h
  ·cases h
theorem build_sound (S:mA C φ σ a w) {t:TypeId} {parts:Array (Nat×Operand)} {z cs:List AV} (hb:Ci C.P t=true) (hz:oB C.P t=some z)
 (hf:Qb (nF C.P t) z (parts.toList.map fun p=>(p.1,σ.ev p.2))=some cs):
 ∃v,(Instr.build t (parts.map fun (i,x)=>(i,a.eval x))).run C.P w= .ok v w∧nO (C.env φ σ.heap w) (.agg cs) v:=by
 have Ho: ∀ps:List (Nat×Operand),k6 (C.env φ σ.heap w) ((ps.map fun p=>(p.1,σ.ev p.2)).map (·.2)) ((ps.map fun p=>(p.1,a.eval p.2)).map (·.2)):=by
  intro ps
  induction ps with
  |nil=>rfl
  |cons p ps ih=>exact ⟨_,_,rfl,S.ev p.2,ih⟩
 unfold oB at hz
 cases hi:C.P.info? t with
 |none=>simp [hi] at hz
 |some it=>
  simp only[hi] at hz
  cases hz0:it.zero with
  |none=>simp [hz0] at hz
  |some zv=>
   simp only[hz0] at hz
   split at hz
   case isFalse=>cases hz
   rename_i hone
   cases hz
   obtain ⟨us,YA,hr,_⟩:=Vw (nF C.P t) _ (parts.toList.map fun p=>(p.1,a.eval p.2)) _ zv.cells cs (Qe (C.env φ σ.heap w) zv.cells.toList) (List.all_eq_true.1 hone) (by simp) (Ho _) hf
   refine ⟨.agg us,run_build w t _ us ?_,us,rfl,hr⟩
   have hmap:(parts.map fun (i,x)=>(i,a.eval x)).toList=parts.toList.map fun p=>(p.1,a.eval p.2):=by simp
   rw[hmap]
   unfold Ci at hb
   unfold Program.built
   cases hu:C.P.underlying t with
   |none=>simp [Nw,hu] at hb
   |some d=>
    cases d<;>try (simp [Nw,hu] at hb;done)
    case array n e=>
     cases he:C.P.info? e with
     |none=>simp [Nw,hu,he] at hb
     |some ie=>
      have:nF C.P t=fun i=>some (i*ie.size,ie.size):=by funext i;simp [nF,Nw,hu,he]
      rw[this] at YA
      simpa [hi,hz0,he] using YA
    case struct fs=>
     cases hp:fs.toList.mapM (fun f=>(C.P.info? f.type).map fun i=>(f.offset,i.size)) with
     |none=>simp [Nw,hu,hp] at hb
     |some pl=>
      have:nF C.P t=fun i=>pl.toArray[i]? :=by funext i;simp [nF,Nw,hu,hp]
      rw[this] at YA
      simpa [hi,hz0,hp] using YA
end sound
end Go.Abs
namespace Go.Abs
section sound
variable {C:Ctx} {φ:Nat→Value} {σ:AState} {a:Act} {w:World}
theorem Mh {P:Program} {t e:TypeId} {sz bytes:Nat} (h:nU P t=some (e,sz,bytes)):P.underlying t=some (.slice e)∧ ∃i,P.info? e=some i∧i.size=sz∧i.bytes=bytes:=by
 unfold nU at h
 split at h
 ·rename_i e' hu
  split at h
  ·rename_i i hi
   simp only[ah,aU] at h
   obtain ⟨rfl,rfl,rfl⟩:=h
   exact ⟨hu,i,hi,rfl,rfl⟩
  ·cases h
 ·cases h
theorem U2 (z:List Value): ∀n,(List.range (n*z.length)).map (fun i=>z.toArray[i % z.length]!)=(aA n z).flatten
 |0=>by simp
 |n+1=>by
  rw[aC,aX,cE,List.range_add,List.map_append,List.map_map,cC,aJ,←U2 z n]
  congr 1
  ·apply List.ext_getElem?
   intro i
   by_cases hi:i<z.length
   ·simp [hi,Nat.mod_eq_of_lt hi]
   ·simp [hi]
  ·apply List.map_congr_left
   intro i _
   simp [Nat.add_mod_left]
theorem yV {α:Type} {sz:Nat}: ∀ {rows:List (List α)},(∀r∈rows,r.length=sz)→rows.flatten.length=rows.length*sz
 |[],_=>by simp
 |r::rows,h=>by
  simp only[aJ,bn,aN,aC,aX]
  rw[yV (fun q hq=>h q (by simp [hq])),h r (by simp)];omega
theorem Xp {sz:Nat}: ∀ {rows:List (List AV)} {i:Nat} {xs:List AV},(∀r∈rows,r.length=sz)→i<rows.length→xs.length=sz→
 (rows.set i xs).flatten=splice rows.flatten (i*sz) xs
 |[],_,_,_,h,_=>by simp at h
 |r::rows,0,xs,hl,_,hx=>by
  have hr:=hl r (by simp)
  simp [splice,hx,←hr]
 |r::rows,i+1,xs,hl,hi,hx=>by
  have hr:=hl r (by simp)
  have ih:=Xp (rows:=rows) (i:=i) (xs:=xs) (fun q hq=>hl q (cq _ hq)) (by simpa using hi) hx
  simp only[List.set_cons_succ,aJ,ih,splice]
  have e1:(i+1)*sz=r.length+i*sz:=by rw[aC,hr];omega
  have e2:(i+1)*sz+xs.length=r.length+(i*sz+xs.length):=by omega
  rw[e2,e1,List.take_length_add_append,List.drop_length_add_append]
  simp
theorem Xq {sz:Nat}: ∀ {ps:List (Nat×AV)} {rows out:List (List AV)},(∀r∈rows,r.length=sz)→rowsOf sz rows ps=some out→
 Qb (fun i=>some (i*sz,sz)) rows.flatten ps=some out.flatten∧out.length=rows.length∧ ∀r∈out,r.length=sz
 |[],rows,out,hl,h=>by
  simp only[rowsOf] at h;cases h;exact ⟨rfl,rfl,hl⟩
 |(i,x)::ps,rows,out,hl,h=>by
  simp only[rowsOf] at h
  split at h
  ·rename_i xs hx
   split at h
   ·rename_i hc
    have hl': ∀r∈rows.set i xs,r.length=sz:=by
     intro r hr
     rcases bT hr with hr|rfl
     ·exact hl r hr
     ·exact hc.2
    obtain ⟨h1,h2,h3⟩:=Xq hl' h
    refine ⟨?_,by simpa using h2,h3⟩
    simp only[Qb,hx]
    have hfl:=yV hl
    have:i*sz+sz≤rows.length*sz:=by
     have:(i+1)*sz≤rows.length*sz:=aH _ hc.1
     rw[aC] at this;omega
    rw[if_pos ⟨hc.2,by omega⟩,←Xp hl hc.1 hc.2]
    exact h1
   ·cases h
  ·cases h
theorem Cj {E:Env} {z:List AV} {vs:List Value} (r:k6 E z vs): ∀n,k6 E (aA n z).flatten (aA n vs).flatten
 |0=>by simp [k6]
 |n+1=>by
  simp only[cC,aJ]
  exact r.append (Cj r n)
theorem V0 (zv:Value) (n sz:Nat) (hz:zv.cells.size=sz):
 ((bO (n*sz)).map (fun i=>(if n*sz=0 then (#[]:Array Value) else zv.cells)[i % (if n*sz=0 then (#[]:Array Value) else zv.cells).size]!)).toList=(aA n zv.cells.toList).flatten:=by
 have:=U2 zv.cells.toList n
 simp only[aL,hz] at this
 rw[←this]
 by_cases h:n*sz=0
 ·simp [h]
 ·simp [h,hz]
theorem R3 (S:mA C φ σ a w) {t e:TypeId} {len sz bytes:Nat} {parts:Array (Nat×Operand)} {z:List AV} {rows:List (List AV)} (ht:nU C.P t=some (e,sz,bytes))
 (hz:oB C.P e=some z) (hl:z.length=sz∧len*sz≤16777216) (hf:rowsOf sz (aA len z) (parts.toList.map fun p=>(p.1,σ.ev p.2))=some rows):
 ∃us:Array Value,(aZ t len (parts.map fun (i,x)=>(i,a.eval x))).run C.P w= .ok (.slice (some ⟨w.heap.size,0,none⟩) len len) (World.more w (.cells us e))∧
  k6 (C.env φ σ.heap w) rows.flatten us.toList∧(∀u∈us.toList,u.oneCell'=true)∧rows.length=len∧(∀r∈rows,r.length=sz)∧us.toList.length=len*sz:=by
 obtain ⟨hu,i,hi,rfl,rfl⟩:=Mh ht
 have Ho: ∀ps:List (Nat×Operand),k6 (C.env φ σ.heap w) ((ps.map fun p=>(p.1,σ.ev p.2)).map (·.2)) ((ps.map fun p=>(p.1,a.eval p.2)).map (·.2)):=by
  intro ps
  induction ps with
  |nil=>rfl
  |cons p ps ih=>exact ⟨_,_,rfl,S.ev p.2,ih⟩
 obtain ⟨zv,hzr,hzrep,hzone⟩:=Uu (w:=w) hz
 have hzl:zv.cells.size=i.size:=by have:=(hzrep (C.env φ σ.heap w)).length;simp at this;omega
 have hrl: ∀r∈aA len z,r.length=i.size:=by
  intro r hr;rw[bf hr];exact hl.1
 obtain ⟨h1,h2,h3⟩:=Xq hrl hf
 have hbase:k6 (C.env φ σ.heap w) (aA len z).flatten ((bO (len*i.size)).map (fun j=>(if len*i.size=0 then (#[]:Array Value) else zv.cells)[j % (if len*i.size=0 then (#[]:Array Value) else zv.cells).size]!)).toList:=by
  rw[V0 zv len i.size hzl]
  exact Cj (hzrep _) len
 obtain ⟨us,YA,hr,hone⟩:=Vw (fun j=>some (j*i.size,i.size)) _ (parts.toList.map fun p=>(p.1,a.eval p.2)) _ _ rows.flatten hbase (by
  rw[V0 zv len i.size hzl]
  intro u hu
  obtain ⟨l,hl,hu⟩:=List.mem_flatten.1 hu
  rw[bf hl] at hu
  exact hzone u hu) (by simp) (Ho _) h1
 have hlen:rows.length=len:=by simpa using h2
 have hus':us.toList.length=len*i.size:=by
  rw[hr.length,yV h3,hlen]
 refine ⟨us,?_,hr,hone,hlen,h3,hus'⟩
 have hmap:(parts.map fun (i,x)=>(i,a.eval x)).toList=parts.toList.map fun p=>(p.1,a.eval p.2):=by simp
 have hsz:(sizeOf e).run C.P w= .ok i.size w:=by simp [sizeOf,typeInfo,hi]
 by_cases h0:len*i.size=0
 ·simp only[h0,if_true] at YA
  simp only[aZ,aj,run_underlying hu,aa,hsz,h0,if_true,hmap]
  simp only[Nat.not_lt_zero,if_false,gt_iff_lt]
  simp only[YA,newRow,aj,run_newObj,aa,av]
  rfl
 ·simp only[h0,if_false] at YA
  have hle: ¬ (len*i.size>2 ^ 24):=by omega
  simp only[aZ,aj,run_underlying hu,aa,hsz,h0,if_false,av,hmap,hle,hzr]
  simp only[YA,newRow,aj,run_newObj,aa,av]
  rfl
theorem WN (S:mA C φ σ a w) {t e:TypeId} {len sz bytes:Nat} {parts:Array (Nat×Operand)} {z:List AV} {rows:List (List AV)} (ht:nU C.P t=some (e,sz,bytes))
 (hz:oB C.P e=some z) (hl:z.length=sz∧len*sz≤16777216) (hf:rowsOf sz (aA len z) (parts.toList.map fun p=>(p.1,σ.ev p.2))=some rows):
 ∃v c,(aZ t len (parts.map fun (i,x)=>(i,a.eval x))).run C.P w= .ok v (World.more w (.cells c e))∧
  nO (C.env φ σ.heap (World.more w (.cells c e))) (.l5 true sz rows) v:=by
 obtain ⟨us,hrun,hr,hone,hlen,h3,hus'⟩:=R3 S ht hz hl hf
 refine ⟨.slice (some ⟨w.heap.size,0,none⟩) len len,us,hrun,some ⟨w.heap.size,0,none⟩,len,by rw[hlen],by omega,fun _=>hlen.symm,by simp,by simp,?_⟩
 intro a0 ha
 simp only[ah] at ha
 subst ha
 refine Xn S us e hone sz rows 0 h3 ?_
 have:us.toList.take (rows.length*sz)=us.toList:=bp (by rw[hus',hlen];exact aD _)
 simpa [this] using hr
end sound
end Go.Abs
namespace Go.Abs
section sound
variable {C:Ctx} {φ:Nat→Value} {σ:AState} {a:Act} {w:World}
theorem run_append_fits {P:Program} {t u ty e:TypeId} {i:TypeInfo} {d:TypeDesc} {base:Option Addr} {sLen sCap n:Nat} {x:Value} {us:Array Value} (hu:P.underlying t=some (.slice e)) (hi:P.info? e=some i)
 (hd:P.underlying u=some d) (hni: ∀k,d≠ .int k) (hlen:(cw x).run P w= .ok n w) (hsrc:(aB i.size n x).run P w= .ok us w) (hfit:sLen+n≤sCap):
 (aE #[t,u] ty #[.slice base sLen sCap,x]).run P w=
   (match base with|some a=>(storeCells (a.add (sLen*i.size)) us.toList).run P w|none=> .ok () w).andThen fun _ w'=> .ok (.slice base (sLen+n) sCap) w':=by
 have hsz:(sizeOf e).run P w= .ok i.size w:=by simp [sizeOf,typeInfo,hi]
 cases d<;>try (exact absurd rfl (hni _))
 all_goals
  simp only[aE,bE,aT,bX,aj,run_underlying hu,run_underlying hd,aa,hsz,hlen,hfit,if_true,av,aP,if_false,cj,hsrc]
  cases base with
  |none=>rfl
  |some b=>simp only[aj,av]
theorem growBy_le (newLen:Nat): ∀ (r c:Nat),256≤c→ck newLen r c≤2 ^ r*c
 |0,c,_=>by simp [ck]
 |r+1,c,h=>by
  unfold ck
  split
  ·have:1≤2 ^ (r+1):=Nat.one_le_two_pow
   calc c=1*c:=by omega
    _≤_:=aH _ this
  ·have h1:=growBy_le newLen r (c+(c+768) / 4) (by omega)
   have h2:c+(c+768) / 4≤2*c:=by omega
   calc _≤2 ^ r*(c+(c+768) / 4):=h1
    _≤2 ^ r*(2*c):=Nat.mul_le_mul_left _ h2
    _=2 ^ (r+1)*c:=by rw[Nat.pow_succ];simp [Nat.mul_assoc]
theorem nextcap_le {need cap:Nat} (h:cap<need):bJ need cap≤16*need:=by
 unfold bJ
 split
 ·omega
 ·split
  ·omega
  ·have:=growBy_le need 4 cap (by omega)
   omega
theorem O4 {P:Program} {t u ty e:TypeId} {i:TypeInfo} {d:TypeDesc} {base:Option Addr} {sLen sCap n:Nat} {x zv:Value} {us old:Array Value} (hu:P.underlying t=some (.slice e)) (hi:P.info? e=some i)
 (hd:P.underlying u=some d) (hni: ∀k,d≠ .int k) (hlen:(cw x).run P w= .ok n w) (hsrc: ∀k,(aB i.size n x).run P {w with drawn:=k}= .ok us {w with drawn:=k})
 (hold: ∀k,(aB i.size sLen (.slice base sLen sCap)).run P {w with drawn:=k}= .ok old {w with drawn:=k}) (hz:i.zero=some zv)
 (hbig:sCap<sLen+n) (hroom:(sLen+n)*i.bytes≤2 ^ 44) (hb:0<i.bytes):
 ∃cap,sLen+n≤cap∧(aE #[t,u] ty #[.slice base sLen sCap,x]).run P w=
  .ok (.slice (some ⟨w.heap.size,0,none⟩) (sLen+n) cap) (World.more {w with drawn:=w.drawn+1} (.cells (old++us++bS zv.cells (cap-(sLen+n))) e)):=by
 have hsz: ∀w:World,(sizeOf e).run P w= .ok i.size w:=fun w=>by simp [sizeOf,typeInfo,hi]
 have hti: ∀w:World,(typeInfo e).run P w= .ok i w:=fun w=>by simp [typeInfo,hi]
 have hzv: ∀w:World,(zeroValue e).run P w= .ok zv w:=fun w=>by simp [zeroValue,typeInfo,hi,hz]
 have hneed:sLen+n≤2 ^ 44:=cG (Nat.le_mul_of_pos_right _ hb) hroom
 have hcap: ¬ (bJ (sLen+n) sCap*i.bytes>2 ^ 48):=by
  have h1:=aH i.bytes (nextcap_le hbig)
  rw[Nat.mul_assoc] at h1
  omega
 have hb0:i.bytes≠0:=by omega
 have hfit: ¬ (sLen+n≤sCap):=by omega
 refine ⟨(sLen+n)+w.tape w.drawn (.appendCap (sLen+n) sCap e) % (2 ^ 63-(sLen+n)),by omega,?_⟩
 cases d<;>try (exact absurd rfl (hni _))
 all_goals
  simp only[aE,bE,aT,bX,aj,run_underlying hu,run_underlying hd,aa,hsz,hlen,hfit,if_false,av,hti,aP,hb0,or_self,and_false,hcap,run_choose,Question.forced,Question.cut,run_askRoom,hold,hsrc,hzv,cj,if_true,newRow,run_newObj]
  rfl
theorem mA.regrow (S:mA C φ σ a w) {l sz:Nat} {pY:Bool} {rows ys:List (List AV)} {w':World} {h':Value} (hl:σ.heap[l]? =some (.acc pY sz rows)) (hys:0<ys.length∨h'=φ l)
 (hsize:w.heap.size≤w'.heap.size)
 (hcell: ∀b o,b<w.heap.size→ ¬ (AObj.acc pY sz rows).muts (φ l) b o→w'.cell? ⟨b,o,none⟩=w.cell? ⟨b,o,none⟩)
 (Lv: ∀b,b<w.heap.size→ ¬ (AObj.acc pY sz rows).block (φ l) b→w'.heap[b]? =w.heap[b]?)
 (hfroz: ∀x,w'.frozen? x=w.frozen? x) (wR:w'.output=w.output∧w'.os=w.os)
 (Fb: ∀b,(AObj.acc pY sz (rows++ys)).block h' b→(AObj.acc pY sz rows).block (φ l) b∨w.heap.size≤b)
 (Xr: ∀b o,(AObj.acc pY sz (rows++ys)).muts h' b o→(AObj.acc pY sz rows).muts (φ l) b o∨w.heap.size≤b)
 (Hp: ∀E',(C.env φ σ.heap w).Le σ.heap.length E'→E'.w=w'→nk E' (.acc pY sz (rows++ys)) h'):
 mA C (fun k=>if k=l then h' else φ k) {σ with heap:=σ.heap.set l (.acc pY sz (rows++ys))} a w':=by
 have hlt:l<σ.heap.length:=(az.1 hl).1
 let φ':Nat→Value:=fun k=>if k=l then h' else φ k
 have hφl:φ' l=h':=by simp [φ']
 have hφk: ∀k,k≠l→φ' k=φ k:=fun k hk=>by simp [φ',hk]
 have mL: ∀ (k:Nat) (x:AObj),(σ.heap.set l (.acc pY sz (rows++ys)))[k]? =some x→(k=l∧x= .acc pY sz (rows++ys))∨(k≠l∧σ.heap[k]? =some x):=by
  intro k x hx
  by_cases e:k=l
  ·subst e;rw[au hlt] at hx;cases hx;exact .inl ⟨rfl,rfl⟩
  ·rw[ay (fun h=>e h.symm)] at hx;exact .inr ⟨e,hx⟩
 have hlst: ∀a,φ l≠ .pointer a:=by
  obtain ⟨base,cap,hh,_⟩:=S.objs l _ hl
  intro a;rw[hh];simp
 have hlmap:hdl (φ l)=none:=by
  obtain ⟨base,cap,hh,_⟩:=S.objs l _ hl
  rw[hh];rfl
 have EE: ∀b o,ET φ' (σ.heap.set l (.acc pY sz (rows++ys))) b o→ET φ σ.heap b o∨w.heap.size≤b:=by
  rintro b o ⟨k,x,hx,hm⟩
  rcases mL k x hx with ⟨rfl,rfl⟩|⟨hne,hx⟩
  ·rw[hφl] at hm
   exact (Xr b o hm).imp (fun h=>⟨k,_,hl,h⟩) id
  ·rw[hφk k hne] at hm
   exact .inl ⟨k,x,hx,hm⟩
 have le:(C.env φ σ.heap w).Le σ.heap.length (C.env φ' (σ.heap.set l (.acc pY sz (rows++ys))) w'):=by
  refine ⟨by simp [Ctx.env],fun k hk=> ?_,fun b o u hm hc=> ?_⟩
  ·by_cases e:k=l
   ·subst e
    simp only[Ctx.env,hl,lN,au hlt]
    rcases bP ys.length with h0|h0
    ·left
     rcases hys with h|h
     ·omega
     ·exact ⟨by rw[hφl];exact h,.inl (by simp [h0])⟩
    ·right
     exact ⟨⟨_,rfl,fun k' hk'=>by simp at hk';omega⟩,hlst,hlmap⟩
   ·left
    exact ⟨hφk k e,.inl (by simp only[Ctx.env];rw[ay (fun h=>e h.symm)])⟩
  ·have hb:=F7 hc
   simp only[Ctx.env] at hb hm ⊢
   refine ⟨fun h=> ?_,?_⟩
   ·rcases h with h|h
    ·rcases EE b o h with h|h
     ·exact hm (.inl h)
     ·omega
    ·exact hm (.inr h)
   ·rw[hcell b o hb (fun h=>hm (.inl ⟨l,_,hl,h⟩))];exact hc
 have Ch:rB C φ' (σ.heap.set l (.acc pY sz (rows++ys))) w' σ.df a.defers:=by
  refine S.defers.step le (fun b hb hno=>Lv b hb (hno l _ hl)) (fun k x b hx hb=> ?_)
  rcases mL k x hx with ⟨rfl,rfl⟩|⟨hne,hx⟩
  ·rw[hφl] at hb
   exact (Fb b hb).imp (fun h=>⟨k,_,hl,h⟩) id
  ·rw[hφk k hne] at hb
   exact .inl ⟨k,x,hx,hb⟩
 refine {slots:=k6.mono le _ _ (k6.nb _ _ S.slots) S.slots,defers:=Ch,objs:= ?_,apart:= ?_,s6:= ?_,size:=cG S.size hsize,old:= ?_,ni:= ?_,C5:= ?_,vT:=fun x hx=>by rw[hfroz];exact S.vT x hx,rest:=⟨by rw[wR.1];exact S.rest.1,by rw[wR.2];exact S.rest.2⟩,low:=⟨S.low.1,by simpa using S.low.2⟩,names:= ?_}
 ·intro k x hx
  rcases mL k x hx with ⟨rfl,rfl⟩|⟨hne,hx⟩
  ·have:=Hp _ le rfl
   simpa using this
  ·have r0:=S.objs k x hx
   have:nk (C.env φ' (σ.heap.set l (.acc pY sz (rows++ys))) w') x (φ k):=by
    refine nk.mono r0 le (fun b hb=>Lv b (r0.qc hb) (fun h=> ?_))
    exact hne (S.apart k l x _ b hx hl hb h)
   simpa [hne] using this
 ·intro k k' x x' b hx hx' hb hb'
  rcases mL k x hx with ⟨rfl,rfl⟩|⟨hne,hx1⟩<;>rcases mL k' x' hx' with ⟨rfl,rfl⟩|⟨hne',Mg⟩
  ·rfl
  ·simp only[if_true] at hb
   simp only[hne',if_false] at hb'
   rcases Fb b hb with h|h
   ·exact S.apart k k' _ x' b hl Mg h hb'
   ·have:=(S.objs k' x' Mg).qc hb'
    simp only[Ctx.env] at this;omega
  ·simp only[if_true] at hb'
   simp only[hne,if_false] at hb
   rcases Fb b hb' with h|h
   ·exact S.apart k k' x _ b hx1 hl hb h
   ·have:=(S.objs k x hx1).qc hb
    simp only[Ctx.env] at this;omega
  ·simp only[hne,hne',if_false] at hb hb'
   exact S.apart k k' x x' b hx1 Mg hb hb'
 ·intro k x b o hx hb
  rcases mL k x hx with ⟨rfl,rfl⟩|⟨hne,hx1⟩
  ·simp only[if_true] at hb
   rcases Fb b hb with h|h
   ·exact S.s6 k _ b o hl h
   ·intro hA
    have:=C.hA _ _ hA
    have:=S.size;omega
  ·simp only[hne,if_false] at hb
   exact S.s6 k x b o hx1 hb
 ·intro b o hb hm
  rw[hcell b o (ak hb S.size) (fun h=>hm (S.C5 l _ b o hl h hb))]
  exact S.old b o hb hm
 ·intro b hb hm
  rw[Lv b (ak hb S.size) (fun h=> ?_)]
  ·exact S.ni b hb hm
  ·obtain ⟨base,cap,hh,_⟩:=S.objs l _ hl
   rw[hh] at h
   cases base with
   |none=>simp [AObj.block] at h
   |some a0=>
    simp only[AObj.block] at h
    exact hm (a0.off+rows.length*sz) (S.C5 l _ b _ hl (by rw[hh];exact ⟨h,fun _=>aD _⟩) hb)
 ·intro k x b o hx hm hb
  rcases mL k x hx with ⟨rfl,rfl⟩|⟨hne,hx1⟩
  ·simp only[if_true] at hm
   rcases Xr b o hm with h|h
   ·exact S.C5 k _ b o hl h hb
   ·have:=S.size;omega
  ·simp only[hne,if_false] at hm
   exact S.C5 k x b o hx1 hm hb
 ·intro k hk
  have:=S.names k hk
  by_cases e:k=l
  ·subst e
   rw[hl] at this
   rw[au hlt]
   simp only[if_true,lN] at this ⊢
   rcases bP ys.length with h0|h0
   ·have hh:h'=φ k:=by
     rcases hys with h|h
     ·omega
     ·exact h
    rw[hh]
    have e0:(rows++ys).length=rows.length:=by simp [h0]
    rw[e0];exact this
   ·right
    rcases this with ⟨h1,h2|h2⟩|⟨⟨n,h1,h2⟩,h3⟩
    ·refine ⟨⟨rows.length,h2.symm,fun k' hk'=>by simp at hk';omega⟩,?_⟩
     rw[←h1];exact ⟨hlst,hlmap⟩
    ·cases h2
    ·exact ⟨⟨n,h1,fun k' hk'=>by have:=h2 rows.length rfl;simp at hk';omega⟩,h3⟩
  ·rw[ay (fun h=>e h.symm)]
   simp only[e,if_false];exact this
theorem mA.Qf (S:mA C φ σ a w) {pY:Bool} {sz:Nat} {rows:List (List AV)} {w':World} {h':Value}
 (hsize:w.heap.size≤w'.heap.size) (Lv: ∀b,b<w.heap.size→w'.heap[b]? =w.heap[b]?)
 (hfroz: ∀x,w'.frozen? x=w.frozen? x) (wR:w'.output=w.output∧w'.os=w.os)
 (Fb: ∀b,(AObj.acc pY sz rows).block h' b→w.heap.size≤b)
 (Hp: ∀E',(C.env φ σ.heap w).Le σ.heap.length E'→E'.w=w'→nk E' (.acc pY sz rows) h'):
 mA C (fun k=>if k=σ.heap.length then h' else φ k) {σ with heap:=σ.heap++[.acc pY sz rows]} a w':=by
 let φ':Nat→Value:=fun k=>if k=σ.heap.length then h' else φ k
 have hφ: ∀l,l<σ.heap.length→φ' l=φ l:=fun l hl=>by simp only[φ'];rw[if_neg (by omega)]
 have mL: ∀ (l:Nat) (x:AObj),(σ.heap++[.acc pY sz rows])[l]? =some x→(l<σ.heap.length∧σ.heap[l]? =some x)∨(l=σ.heap.length∧x= .acc pY sz rows):=by
  intro l x hx
  by_cases hl:l<σ.heap.length
  ·rw[an hl] at hx;exact .inl ⟨hl,hx⟩
  ·rw[aF (by omega)] at hx
   have hz:l-σ.heap.length=0:=by
    by_cases e:l-σ.heap.length=0
    ·exact e
    ·rw[br (by simp;omega)] at hx;cases hx
   rw[hz] at hx;simp at hx
   exact .inr ⟨by omega,hx.symm⟩
 have hcell: ∀b o,b<w.heap.size→w'.cell? ⟨b,o,none⟩=w.cell? ⟨b,o,none⟩:=by
  intro b o hb;simp only[World.cell?,Lv b hb]
 have EE: ∀b o,ET φ' (σ.heap++[.acc pY sz rows]) b o→w.heap.size≤b∨ET φ σ.heap b o:=by
  rintro b o ⟨l,x,hx,hm⟩
  rcases mL l x hx with ⟨hl,hx⟩|⟨rfl,rfl⟩
  ·rw[hφ l hl] at hm;exact .inr ⟨l,x,hx,hm⟩
  ·simp only[φ',if_true] at hm
   exact .inl (Fb b (AObj.nu hm))
 have le:(C.env φ σ.heap w).Le σ.heap.length (C.env φ' (σ.heap++[.acc pY sz rows]) w'):=by
  refine Ctx.Bi (by simp) (fun l hl=>⟨hφ l hl,by rw[an hl]⟩) (fun b i u hm hc=> ?_)
  have hb:=F7 hc
  refine ⟨fun h=> ?_,by rw[hcell b i hb];exact hc⟩
  rcases h with h|h
  ·rcases EE b i h with e|h
   ·omega
   ·exact hm (.inl h)
  ·exact hm (.inr h)
 have Ch:rB C φ' (σ.heap++[.acc pY sz rows]) w' σ.df a.defers:=by
  refine S.defers.step le (fun b hb _=>Lv b hb) (fun l x b hx hb=> ?_)
  rcases mL l x hx with ⟨hl,hx⟩|⟨rfl,rfl⟩
  ·rw[hφ l hl] at hb;exact .inl ⟨l,x,hx,hb⟩
  ·simp only[φ',if_true] at hb;exact .inr (Fb b hb)
 refine {slots:=k6.mono le _ _ (k6.nb _ _ S.slots) S.slots,defers:=Ch,objs:= ?_,apart:= ?_,s6:= ?_,size:=cG S.size hsize,old:= ?_,ni:= ?_,C5:= ?_,vT:=fun x hx=>by rw[hfroz];exact S.vT x hx,rest:=⟨by rw[wR.1];exact S.rest.1,by rw[wR.2];exact S.rest.2⟩,low:=⟨S.low.1,by have:=S.low.2;simp;omega⟩,names:= ?_}
 ·intro l x hx
  rcases mL l x hx with ⟨hl,hx⟩|⟨rfl,rfl⟩
  ·have r0:=S.objs l x hx
   have:nk (C.env φ' (σ.heap++[.acc pY sz rows]) w') x (φ l):=nk.mono r0 le (fun b hb=>Lv b (r0.qc hb))
   show nk _ x (φ' l)
   rw[hφ l hl];exact this
  ·have:=Hp _ le rfl
   simpa using this
 ·intro l l' x x' b hx hx' hb hb'
  rcases mL l x hx with ⟨hl,hx1⟩|⟨rfl,rfl⟩<;>rcases mL l' x' hx' with ⟨hl',Mg⟩|⟨rfl,rfl⟩
  ·rw[show (if l=σ.heap.length then _ else φ l)=φ l from hφ l hl] at hb
   rw[show (if l'=σ.heap.length then _ else φ l')=φ l' from hφ l' hl'] at hb'
   exact S.apart l l' x x' b hx1 Mg hb hb'
  ·rw[show (if l=σ.heap.length then _ else φ l)=φ l from hφ l hl] at hb
   have:=(S.objs l x hx1).qc hb
   simp only[if_true] at hb'
   have:=Fb b hb'
   simp only[Ctx.env] at*;omega
  ·rw[show (if l'=σ.heap.length then _ else φ l')=φ l' from hφ l' hl'] at hb'
   have:=(S.objs l' x' Mg).qc hb'
   simp only[if_true] at hb
   have:=Fb b hb
   simp only[Ctx.env] at*;omega
  ·rfl
 ·intro l x b o hx hb
  rcases mL l x hx with ⟨hl,hx1⟩|⟨rfl,rfl⟩
  ·rw[show (if l=σ.heap.length then _ else φ l)=φ l from hφ l hl] at hb
   exact S.s6 l x b o hx1 hb
  ·simp only[if_true] at hb
   intro hA
   have:=C.hA _ _ hA
   have:=Fb b hb
   have:=S.size;omega
 ·intro b i hb hm;rw[hcell b i (ak hb S.size)];exact S.old b i hb hm
 ·intro b hb hm;rw[Lv b (ak hb S.size)];exact S.ni b hb hm
 ·intro l x b o hx hm hb
  rcases mL l x hx with ⟨hl,hx1⟩|⟨rfl,rfl⟩
  ·rw[show (if l=σ.heap.length then _ else φ l)=φ l from hφ l hl] at hm
   exact S.C5 l x b o hx1 hm hb
  ·simp only[if_true] at hm
   have:=Fb b (AObj.nu hm)
   have:=S.size;omega
 ·intro l hl
  have hlt:l<σ.heap.length:=by have:=S.low;omega
  have:=S.names l hl
  rw[an hlt]
  show (φ' l=_∧_)∨_
  rw[hφ l hlt];exact this
end sound
end Go.Abs
namespace Go.Abs
section sound
variable {C:Ctx} {φ:Nat→Value} {σ:AState} {a:Act} {w:World}
theorem R4 {E:Env} {sz b:Nat}: ∀ {rows:List (List AV)} {off:Nat},mC E sz b off rows→mV E b off rows.flatten∧ ∀r∈rows,r.length=sz
 |[],_,_=>⟨trivial,by simp⟩
 |r::rows,off,⟨h1,h2,h3⟩=>by
  obtain ⟨m,hl⟩:=R4 h3
  refine ⟨?_,?_⟩
  ·simp only[aJ]
   exact mV.append h2 (by rw[h1];exact m)
  ·intro q hq
   simp only[bz] at hq
   rcases hq with rfl|hq
   ·exact h1
   ·exact hl q hq
theorem U3 {E:Env} {b:Nat}: ∀ {cs:List AV} {off:Nat} {us:List Value},mV E b off cs→k6 E cs us→(∀j u,us[j]? =some u→E.w.cell? ⟨b,off+j,none⟩=some u)→ ∀u∈us,u.oneCell'=true
 |[],_,_,_,rfl,_=>by simp
 |c::cs,off,_,⟨⟨_,u,hu,h1,_⟩,r2⟩,⟨u',us,rfl,_,rl⟩,hc=>by
  intro v hv
  simp only[bz] at hv
  rcases hv with rfl|hv
  ·have:=hc 0 v (by simp)
   simp only[bH] at this
   rw[hu] at this;cases this;exact h1
  ·exact U3 r2 rl (fun j w hj=>by rw[←hc (j+1) w (by simpa using hj)];congr 2;omega) v hv
def Reads (P:Program) (E:Env) (sz:Nat) (rows:List (List AV)) (v:Value):Prop:=
 ∃us:List Value,k6 E rows.flatten us∧us.length=rows.length*sz∧(∀r∈rows,r.length=sz)∧(∀u∈us,u.oneCell'=true)∧
  ∀k,(aB sz rows.length v).run P {E.w with drawn:=k}= .ok us.toArray {E.w with drawn:=k}
theorem reads_lst {P:Program} {E:Env} {sz sz':Nat} {t:Bool} {rows:List (List AV)} {v:Value} (h:sz'=sz∨rows.length=0) (r:nO E (.l5 t sz' rows) v):Reads P E sz rows v:=by
 obtain ⟨base,cap,rfl,h2,h3,h4,h5,h6⟩:=r
 cases base with
 |none=>
  have h0:rows.length=0:=by have:=h4 rfl;omega
  have:rows=[]:=af h0
  subst this
  exact ⟨[],rfl,by simp,by simp,by simp,fun k=>by simp [aB]⟩
 |some a=>
  by_cases hr:rows=[]
  ·subst hr
   exact ⟨[],rfl,by simp,by simp,by simp,fun k=>by simp [aB,loadCells,loadCellsFrom]⟩
  ·have hsz:sz'=sz:=by
    rcases h with h|h
    ·exact h
    ·exact absurd (af h) hr
   subst hsz
   obtain ⟨m,hl⟩:=R4 (h6 a rfl)
   obtain ⟨us,rl,hc⟩:=K7 m
   have hone:=U3 m rl hc
   have hlen:us.length=rows.length*sz':=by rw[rl.length,yV hl]
   refine ⟨us,rl,hlen,hl,hone,fun k=> ?_⟩
   have hsp:=h5 a rfl hr
   have ha:a=⟨a.block,a.off,none⟩:=by cases a;simp_all
   have:=run_loadCells_list (P:=P) {E.w with drawn:=k} a us (fun j v hj=>by
    rw[ha,add_plain];exact hc j v hj)
   rw[hlen] at this
   simpa [aB] using this
theorem reads_acc {P:Program} (S:mA C φ σ a w) {l sz:Nat} {pY:Bool} {rows:List (List AV)} (hl:σ.heap[l]? =some (.acc pY sz rows)):Reads P (C.env φ σ.heap w) sz rows (φ l):=by
 obtain ⟨base,cap,hh,h2,h3,h4,h5⟩:=S.objs l _ hl
 rw[hh]
 cases base with
 |none=>
  have h0:rows.length=0:=by have:=h3 rfl;omega
  have:rows=[]:=af h0
  subst this
  exact ⟨[],rfl,by simp,by simp,by simp,fun k=>by simp [aB]⟩
 |some b=>
  by_cases hcap:cap=0
  ·have h0:rows.length=0:=by omega
   have:rows=[]:=af h0
   subst this
   exact ⟨[],rfl,by simp,by simp,by simp,fun k=>by simp [aB,loadCells,loadCellsFrom]⟩
  ·obtain ⟨hsp,c,t,hc,hsz,rl,hone⟩:=h5 b rfl hcap
   have hle:rows.length*sz≤cap*sz:=aH _ h2
   have hlen:((c.toList.drop b.off).take (rows.length*sz)).length=rows.length*sz:=by
    rw[aG,bg]
    simp only[aL]
    omega
   refine ⟨_,rl,hlen,h4,hone,fun k=> ?_⟩
   have ha:b=⟨b.block,b.off,none⟩:=by cases b;simp_all
   have:=run_loadCells_list (P:=P) {(C.env φ σ.heap w).w with drawn:=k} b ((c.toList.drop b.off).take (rows.length*sz)) (fun j v hj=>by
    rw[ha,add_plain]
    simp only[Ctx.env] at hc
    simp only[World.cell?,Ctx.env,hc]
    rw[bC] at hj
    split at hj
    ·simpa using hj
    ·cases hj)
   rw[hlen] at this
   simpa [aB] using this
theorem JU (_S:mA C φ σ a w) {l n sz:Nat} {pY:Bool} {rows:List (List AV)} {v:Value} (hl:σ.heap[l]? =some (.acc pY sz rows)) (hn:rows.length=n)
 (r:nO (C.env φ σ.heap w) (.acc l n) v):v=φ l:=by
 obtain ⟨_,_,h⟩:=r
 exact (h rows.length (by simp [Ctx.env,hl,lN])).2 hn.symm
theorem R5 (S:mA C φ σ a w) {l sz:Nat} {rows:List (List AV)} (hl:σ.heap[l]? =some (.acc true sz rows)):nO (C.env φ σ.heap w) (.l5 false sz rows) (φ l):=by
 obtain ⟨base,cap,hh,h2,h3,h4,h5⟩:=S.objs l _ hl
 refine ⟨base,cap,hh,h2,(by intro h;cases h),h3,?_,?_⟩
 ·intro b hb hne
  have hc:cap≠0:=fun h0=>hne (af (by omega))
  exact (h5 b hb hc).1
 ·intro b hb
  by_cases hc:cap=0
  ·have:rows=[]:=af (by omega)
   subst this;trivial
  ·obtain ⟨hsp,c,t,hcb,hsz,rl,hone⟩:=h5 b hb hc
   subst hb
   have hle:rows.length*sz≤cap*sz:=aH _ h2
   have hnm: ∀o,o<b.off+rows.length*sz→ ¬ (ET φ σ.heap b.block o∨C.A b.block o):=by
    intro o ho UE
    have hbl:(AObj.acc true sz rows).block (φ l) b.block:=by rw[hh];exact ⟨rfl,hc⟩
    rcases UE with ⟨l',x,hx,hm⟩|hA
    ·have e:=S.apart l' l x _ b.block hx hl (AObj.nu hm) hbl
     subst e
     rw[hl] at hx;cases hx
     rw[hh] at hm
     have:=hm.2 rfl
     omega
    ·exact S.s6 l _ b.block o hl hbl hA
   have key: ∀ (rs:List (List AV)) (off:Nat),(∀r∈rs,r.length=sz)→off+rs.length*sz≤b.off+rows.length*sz→
    k6 (C.env φ σ.heap w) rs.flatten ((c.toList.drop off).take (rs.length*sz))→(∀u∈(c.toList.drop off).take (rs.length*sz),u.oneCell'=true)→mC (C.env φ σ.heap w) sz b.block off rs:=by
    have mem: ∀ (cs:List AV) (off:Nat),off+cs.length≤b.off+rows.length*sz→k6 (C.env φ σ.heap w) cs ((c.toList.drop off).take cs.length)→(∀u∈(c.toList.drop off).take cs.length,u.oneCell'=true)→
     mV (C.env φ σ.heap w) b.block off cs:=by
     intro cs
     induction cs with
     |nil=>intro _ _ _ _;trivial
     |cons x cs ih=>
      intro off ho r h1
      obtain ⟨u,us,hu,r1,r2⟩:=r
      have hcu:c[off]? =some u:=by
       have:(c.toList.drop off)[0]? =some u:=by
        have:=congrArg (fun l:List Value=>l[0]?) hu
        simpa using this
       simpa using this
      have htl:us=(c.toList.drop (off+1)).take cs.length:=by
       have h1:=congrArg bY hu
       simp only[List.tail_cons] at h1
       rw[←h1]
       cases hd:c.toList.drop off with
       |nil=>rw[hd] at hu;simp at hu
       |cons y ys=>
        have:c.toList.drop (off+1)=ys:=by
         have:=congrArg bY hd
         simpa [cg] using this
        rw[this];simp
      simp only[aN] at ho
      simp only[Ctx.env] at hcb
      refine ⟨⟨hnm off (by omega),u,by simp only[Ctx.env,World.cell?,hcb];simpa using hcu,h1 u (by rw[hu];simp),r1⟩,ih (off+1) (by omega) (by rw[←htl];exact r2) (fun v hv=>h1 v (by rw[hu,htl];simp [hv]))⟩
    intro rs
    induction rs with
    |nil=>intro _ _ _ _ _;trivial
    |cons r rs ih=>
     intro off hl' ho h h1
     have hr:r.length=sz:=hl' r (by simp)
     simp only[aJ] at h
     have h3:=k6.take r.length h
     have h2:=k6.drop r.length h
     simp only[bF,bG,bN,bD,bq] at h3 h2
     have e1:min r.length ((r::rs).length*sz)=r.length:=by
      simp only[aN,aC,aX];omega
     have e2:(r::rs).length*sz-r.length=rs.length*sz:=by simp only[aN,aC,aX];omega
     simp only[aN,aC,aX] at ho
     rw[e1] at h3
     rw[e2,hr] at h2
     refine ⟨hr,mem r off (by omega) h3 (fun u hu=>h1 u ?_),ih (off+sz) (fun q hq=>hl' q (by simp [hq])) (by omega) h2 (fun u hu=>h1 u ?_)⟩
     ·have:(c.toList.drop off).take r.length=((c.toList.drop off).take ((r::rs).length*sz)).take r.length:=by rw[bN,e1]
      rw[this] at hu
      exact bt hu
     ·have:(c.toList.drop (off+sz)).take (rs.length*sz)=((c.toList.drop off).take ((r::rs).length*sz)).drop sz:=by
       rw[bD,bq]
       congr 1
       rw[←e2,hr]
      rw[this] at hu
      exact bu hu
   exact key rows b.off h4 (aD _) rl hone
theorem aab {P:Program} (S:mA C φ σ a w) {sz:Nat} {y:AV} {rd:List Nat} {ys:List (List AV)} {v:Value} (h:Qc σ sz y=some (rd,ys)) (r:nO (C.env φ σ.heap w) y v):
 Reads P (C.env φ σ.heap w) sz ys v∧(cw v).run P w= .ok ys.length w:=by
 unfold Qc at h
 split at h
 ·split at h
  ·rename_i hc
   cases h
   refine ⟨reads_lst hc r,?_⟩
   obtain ⟨_,_,rfl,_⟩:=r
   rfl
  ·cases h
 ·split at h
  ·rename_i hl
   split at h
   ·rename_i hc
    cases h
    have hv:=JU S hl hc.2 r
    subst hv
    refine ⟨hc.1 ▸ reads_acc S hl,?_⟩
    obtain ⟨base,cap,hh,_⟩:=S.objs _ _ hl
    rw[hh];rfl
   ·cases h
  ·cases h
 ·cases h
  have r:v=_:=r
  subst r
  exact ⟨⟨[],rfl,by simp,by simp,by simp,fun k=>by rename_i base cap;cases base<;>simp [aB,loadCells,loadCellsFrom]⟩,rfl⟩
 ·cases h
theorem R6 (z:Array Value) (n:Nat):(bS z n).size=n*z.size:=by simp [bS]
theorem YB {E':Env} {sz cap b:Nat} {e:TypeId} {rows:List (List AV)} {c:Array Value} {us:List Value} {zs:Array Value} {pY:Bool} (hrows: ∀r∈rows,r.length=sz)
 (hr:k6 E' rows.flatten us) (hone: ∀u∈us,u.oneCell'=true) (hw:E'.w.heap[b]? =some (.cells c e (0,0))) (hc:c.toList=us++zs.toList) (hz:zs.size=(cap-rows.length)*sz) (hle:rows.length≤cap):
 nk E' (.acc pY sz rows) (.slice (some ⟨b,0,none⟩) rows.length cap):=by
 have YA:us.length=rows.length*sz:=by rw[hr.length,yV hrows]
 refine ⟨some ⟨b,0,none⟩,cap,rfl,hle,by simp,hrows,fun a ha _=> ?_⟩
 simp only[ah] at ha
 subst ha
 refine ⟨rfl,c,e,hw,?_,?_⟩
 ·have:c.size=rows.length*sz+(cap-rows.length)*sz:=by rw[←aL,hc];simp [YA,hz]
  rw[this,←aC]
  have:rows.length+(cap-rows.length)=cap:=by omega
  rw[this];simp
 ·have e:((c.toList.drop 0).take (rows.length*sz))=us:=by
   rw[hc,cm,←YA];simp
  rw[e];exact ⟨hr,hone⟩
theorem YC (σ:AState) (dst:Option Tmp) (x:AV) (rd:List Nat) (l:Nat) (o:AObj) (p:Prop):
 σ.app dst {val:=x,rd,up:=[(l,o)],pre:=p}=AState.put {σ with heap:=σ.heap.set l o} dst x:=by
 cases dst<;>simp [AState.app,l7,AState.put]
theorem WO (σ:AState) (dst:Option Tmp) (x:AV) (rd:List Nat) (o:AObj) (p:Prop):
 σ.app dst {val:=x,rd,nw:=[o],pre:=p}=AState.put {σ with heap:=σ.heap++[o]} dst x:=by
 cases dst<;>simp [AState.app,l7,AState.put]
theorem append_sound (S:mA C φ σ a w) {dst:Option Tmp} {t u ty e:TypeId} {sz bytes:Nat} {z:List AV} {x y:AV} {vx vy:Value} {ef:u7} (ht:nU C.P t=some (e,sz,bytes)) (hu:n6 C.P u=true)
 (hz:oB C.P e=some z) (hzl:z.length=sz∧0<sz∧0<bytes) {im:Bool} (h:O3 im σ sz bytes x y=some ef) (hp:ef.pre)
 (rx:nO (C.env φ σ.heap w) x vx) (ry:nO (C.env φ σ.heap w) y vy):
 ∃v w' φ',(aE #[t,u] ty #[vx,vy]).run C.P w= .ok v w'∧mA C φ' (σ.app dst ef) (a.put dst v) w':=by
 obtain ⟨hut,i,hi,rfl,rfl⟩:=Mh ht
 obtain ⟨d,hd,hni⟩: ∃d,C.P.underlying u=some d∧ ∀k,d≠ .int k:=by
  unfold n6 at hu
  split at hu
  ·cases hu
  ·rename_i d hdi hd;exact ⟨d,hd,fun k hk=>hdi k hk⟩
  ·cases hu
 obtain ⟨zv,hzi,hzs⟩: ∃zv,i.zero=some zv∧zv.cells.size=i.size:=by
  have h0:=hz
  unfold oB at h0
  simp only[hi] at h0
  cases hz0:i.zero with
  |none=>simp [hz0] at h0
  |some zv=>
   simp only[hz0] at h0
   split at h0
   ·cases h0
    exact ⟨zv,rfl,by simpa using hzl.1⟩
   ·cases h0
 unfold O3 at h
 split at h
 ·cases h
 rename_i rd ys hsrc
 obtain ⟨⟨us,rus,lus,rowus,oneus,rdus⟩,hlenv⟩:=aab (P:=C.P) S hsrc ry
 simp only[Ctx.env] at rdus
 have rdus0:(aB i.size ys.length vy).run C.P w= .ok us.toArray w:=rdus w.drawn
 split at h
 ·
  rename_i l n
  split at h
  ·rename_i pY sz' rows hl
   split at h
   ·rename_i hc
    obtain ⟨rfl,hn⟩:=hc
    cases h
    simp only at hp
    have hvx:=JU S hl hn rx
    subst hvx
    obtain ⟨base,cap,hh,h2,h3,h4,h5⟩:=S.objs l _ hl
    have hrows: ∀r∈rows++ys,r.length=i.size:=by
     intro r hr
     rcases aM.1 hr with hr|hr
     ·exact h4 r hr
     ·exact rowus r hr
    have hlt:l<σ.heap.length:=(az.1 hl).1
    have fin: ∀ {h':Value} {w':World},(∃b m c,h'= .slice b m c)→(aE #[t,u] ty #[φ l,vy]).run C.P w= .ok h' w'→
     mA C (fun k=>if k=l then h' else φ k) {σ with heap:=σ.heap.set l (.acc pY i.size (rows++ys))} a w'→
     ∃v w' φ',(aE #[t,u] ty #[φ l,vy]).run C.P w= .ok v w'∧
      mA C φ' (σ.app dst {val:= .acc l (rows++ys).length,rd:=l::rd,up:=[(l,.acc pY i.size (rows++ys))],pre:=room (rows.length+ys.length) i.bytes}) (a.put dst v) w':=by
     intro h' w' UD hrun hS
     refine ⟨h',w',(fun k=>if k=l then h' else φ k),hrun,?_⟩
     have:=hS.put dst (x:= .acc l (rows++ys).length) (v:=h') ⟨by simpa [Ctx.env] using hlt,UD,fun k hk=>by
      simp only[Ctx.env,au hlt,lN,ah] at hk
      exact ⟨by omega,fun _=>by simp [Ctx.env]⟩⟩
     rw[YC];exact this
    by_cases hfit:rows.length+ys.length≤cap
    ·have hrun:=run_append_fits (w:=w) (ty:=ty) (base:=base) (sLen:=rows.length) (sCap:=cap) hut hi hd hni hlenv rdus0 hfit
     by_cases hcap:cap=0
     ·
      have hr0:rows=[]:=af (by omega)
      have hy0:ys=[]:=af (by omega)
      subst hr0 hy0
      have hu0:us=[]:=by simpa using lus
      subst hu0
      rw[←hh] at hrun
      have YD:(aE #[t,u] ty #[φ l,vy]).run C.P w= .ok (φ l) w:=by
       rw[hrun,hh];cases base<;>simp [storeCells]
      refine fin ⟨_,_,_,hh⟩ YD (S.regrow hl (.inr rfl) (aD _) (fun _ _ _ _=>rfl) (fun _ _ _=>rfl) (fun _=>rfl) ⟨rfl,rfl⟩ (fun b hb=> .inl (by simpa using hb)) (fun b o hm=> .inl (by simpa using hm)) ?_)
      intro E' hle hw
      rw[hh]
      exact ⟨base,cap,by simp,by simp,h3,by simp,fun b hb hc=>absurd hcap hc⟩
     ·cases base with
      |none=>exact absurd (h3 rfl) hcap
      |some b=>
       obtain ⟨hsp,c,tc,hcb,hsz,rl,onerl⟩:=h5 b rfl hcap
       simp only[Ctx.env] at hcb
       have hb:b=⟨b.block,b.off,none⟩:=by cases b;simp_all
       have e1:(rows.length+ys.length)*i.size≤cap*i.size:=aH _ hfit
       have e2:(rows.length+ys.length)*i.size=rows.length*i.size+ys.length*i.size:=aC ..
       have hst:=run_storeCells_at C.P b.block (b.off+rows.length*i.size) tc us 0 c w hcb (by omega) oneus
       simp only[bH] at hst
       let c':Array Value:=(c.toList.take (b.off+rows.length*i.size)++us++c.toList.drop (b.off+rows.length*i.size+us.length)).toArray
       have YD:(aE #[t,u] ty #[φ l,vy]).run C.P w= .ok (.slice (some b) (rows.length+ys.length) cap) (w.setRow b.block c'):=by
        rw[←hh] at hrun
        rw[hrun]
        simp only
        rw[hb,add_plain]
        simp only[hst,aa]
        rfl
       have hc'cell: ∀o,o<b.off+rows.length*i.size→c'[o]? =c[o]? :=by
        intro o ho
        simp only[c',bE,aK]
        rw[an (by simp;omega),bC,if_pos ho]
        simp
       refine fin ⟨_,_,_,rfl⟩ YD (S.regrow hl ?_ (by simp) ?_ ?_ ?_ ⟨rfl,rfl⟩ ?_ ?_ ?_)
       ·rcases bP ys.length with h0|h0
        ·right;rw[hh];simp [h0]
        ·exact .inl h0
       ·intro b' o hb' hm
        by_cases e:b'=b.block
        ·subst e
         simp only[World.cell?]
         rw[setRow_heap w b.block c c' tc _ hcb,hcb]
         simp only[Option.isSome_none,aP,if_false]
         apply hc'cell
         rw[hh] at hm
         cases pY with
         |false=>exact absurd ⟨⟨rfl,hcap⟩,fun h=>by cases h⟩ hm
         |true=>
          by_cases ho:o<b.off+rows.length*i.size
          ·exact ho
          ·exact absurd ⟨⟨rfl,hcap⟩,fun _=>by omega⟩ hm
        ·exact cell_setRow_other w _ _ _ e
       ·intro b' hb' hbl
        rw[hh] at hbl
        exact setRow_other w b.block b' c' (fun e=>hbl ⟨e,hcap⟩)
       ·intro x
        by_cases e:x.block=b.block
        ·simp only[World.frozen?]
         rw[e,setRow_heap w b.block c c' tc _ hcb,hcb]
        ·simp only[World.frozen?]
         rw[setRow_other w b.block x.block c' e]
       ·intro b' hb'
        left;rw[hh];exact hb'
       ·intro b' o hm
        left
        rw[hh]
        refine ⟨hm.1,fun hi'=> ?_⟩
        have:=hm.2 hi'
        omega
       ·intro E' hle hw
        refine ⟨some b,cap,by simp,by simpa using hfit,by simp,hrows,fun b0 hb0 _=> ?_⟩
        simp only[ah] at hb0
        subst hb0
        refine ⟨hsp,c',tc,by rw[hw];exact setRow_heap w b.block c c' tc _ hcb,?_,?_⟩
        ·have:c'.size=c.size:=by simp [c'];omega
         omega
        ·have rl':=k6.mono hle _ _ (k6.nb _ _ rl) rl
         have ru':=k6.mono hle _ _ (k6.nb _ _ rus) rus
         have:=rl'.append ru'
         rw[bM]
         have e3:(c'.toList.drop b.off).take ((rows++ys).length*i.size)=(c.toList.drop b.off).take (rows.length*i.size)++us:=by
          have hcl:b.off+rows.length*i.size≤c.toList.length:=by simp;omega
          have e4:c'.toList=c.toList.take b.off++((c.toList.drop b.off).take (rows.length*i.size)++(us++c.toList.drop (b.off+rows.length*i.size+us.length))):=by
           simp only[c',aK]
           rw[←aK (c.toList.take b.off),←cx]
          rw[e4,bL (by simp;omega),bD]
          simp only[bU,List.take_zero,List.nil_append]
          rw[←aK]
          apply bF
          simp only[bn,aG,bg,lus,aC]
          omega
         rw[e3]
         exact ⟨this,fun v hv=>(aM.1 hv).elim (onerl v) (oneus v)⟩
    ·
     have hold:=(reads_acc (P:=C.P) S hl)
     obtain ⟨os,ros,los,_,oneos,rdos⟩:=hold
     rw[hh] at rdos
     simp only[Ctx.env] at rdos
     obtain ⟨ncap,hle,hrun⟩:=O4 (w:=w) (ty:=ty) hut hi hd hni hlenv rdus rdos hzi (by omega) hp hzl.2.2
     rw[←hh] at hrun
     refine fin ⟨_,_,_,rfl⟩ hrun (S.regrow hl (.inl (by omega)) (by simp) ?_ ?_ ?_ ⟨rfl,rfl⟩ ?_ ?_ ?_)
     ·intro b o hb _;exact C2 {w with drawn:=w.drawn+1} _ hb
     ·intro b hb _;exact sN {w with drawn:=w.drawn+1} _ hb
     ·intro x
      rw[u6 {w with drawn:=w.drawn+1} _ (by intro c' t' lo hi h;cases h;exact ⟨rfl,rfl⟩)];rfl
     ·intro b hb
      right
      have:b=w.heap.size:=hb.1
      omega
     ·intro b o hm
      right
      have:b=w.heap.size:=hm.1.1
      omega
     ·intro E' hle' hw
      have ro':=k6.mono hle' _ _ (k6.nb _ _ ros) ros
      have ru':=k6.mono hle' _ _ (k6.nb _ _ rus) rus
      have hll:(rows++ys).length=rows.length+ys.length:=by simp
      rw[←hll]
      refine YB (us:=os++us) hrows (by rw[bM];exact ro'.append ru') (fun v hv=>(aM.1 hv).elim (oneos v) (oneus v)) (by rw[hw];exact DT {w with drawn:=w.drawn+1} _) (by simp;rfl) ?_ (by omega)
      rw[R6,hzs,hll]
   ·cases h
  ·cases h
 ·
  rename_i sz' rows
  split at h
  ·rename_i hc
   split at h
   case isFalse hne=>
    cases h
    have hy0:ys=[]:=af (by omega)
    subst hy0
    have hu0:us=[]:=by simpa using lus
    subst hu0
    obtain ⟨base,cap,rfl,h2,h3,h4,h5,h6⟩:=id rx
    have hcap:=h3 rfl
    subst hcap
    have hrun:=run_append_fits (w:=w) (ty:=ty) (base:=base) (sLen:=rows.length) (sCap:=rows.length) hut hi hd hni hlenv rdus0 (by simp)
    have YD:(aE #[t,u] ty #[.slice base rows.length rows.length,vy]).run C.P w= .ok (.slice base rows.length rows.length) w:=by
     rw[hrun];cases base<;>simp [storeCells]
    refine ⟨_,w,φ,YD,?_⟩
    have:=S.put dst rx
    simpa [AState.app,l7,AState.put] using (by cases dst<;>simpa [AState.put] using this)
   rename_i hne
   cases h
   have hroom:=hp
   obtain ⟨os,ros,los,rowos,oneos,rdos⟩:=reads_lst (P:=C.P) hc rx
   obtain ⟨base,cap,rfl,h2,h3,h4,h5,h6⟩:=rx
   have hcap:=h3 rfl
   subst hcap
   simp only[Ctx.env] at rdos
   have hrows: ∀r∈rows++ys,r.length=i.size:=by
    intro r hr
    rcases aM.1 hr with hr|hr
    ·exact rowos r hr
    ·exact rowus r hr
   have fin: ∀ {h':Value} {w':World},(∃b m c,h'= .slice b m c)→(aE #[t,u] ty #[.slice base rows.length rows.length,vy]).run C.P w= .ok h' w'→
    mA C (fun k=>if k=σ.heap.length then h' else φ k) {σ with heap:=σ.heap++[.acc im i.size (rows++ys)]} a w'→
    ∃v w' φ',(aE #[t,u] ty #[.slice base rows.length rows.length,vy]).run C.P w= .ok v w'∧
     mA C φ' (σ.app dst {val:= .acc σ.heap.length (rows++ys).length,rd:=rd,nw:=[.acc im i.size (rows++ys)],pre:=room (rows.length+ys.length) i.bytes}) (a.put dst v) w':=by
    intro h' w' UD hrun hS
    refine ⟨h',w',(fun k=>if k=σ.heap.length then h' else φ k),hrun,?_⟩
    have:=hS.put dst (x:= .acc σ.heap.length (rows++ys).length) (v:=h') ⟨by simp [Ctx.env],UD,fun k hk=>by
     simp only[Ctx.env,aF (aD _),bU,aT,lN,ah] at hk
     exact ⟨by omega,fun _=>by simp [Ctx.env]⟩⟩
    rw[WO];exact this
   by_cases hfit:rows.length+ys.length≤rows.length
   ·have hy0:ys=[]:=af (by omega)
    subst hy0
    have hr0:rows=[]:=by
     rcases hne with h|h
     ·exact af h
     ·simp at h
    subst hr0
    have hu0:us=[]:=by simpa using lus
    subst hu0
    have hrun:=run_append_fits (w:=w) (ty:=ty) (base:=base) (sLen:=0) (sCap:=0) hut hi hd hni hlenv rdus0 (by simp)
    have YD:(aE #[t,u] ty #[.slice base 0 0,vy]).run C.P w= .ok (.slice base 0 0) w:=by
     rw[hrun];cases base<;>simp [storeCells]
    refine fin ⟨_,_,_,rfl⟩ YD (S.Qf (aD _) (fun _ _=>rfl) (fun _=>rfl) ⟨rfl,rfl⟩ ?_ ?_)
    ·intro b hb
     cases base<;>simp [AObj.block] at hb
    ·intro E' _ _
     exact ⟨base,0,rfl,by simp,fun _=>rfl,by simp,fun b _ h0=>absurd rfl h0⟩
   ·obtain ⟨ncap,hle,hrun⟩:=O4 (w:=w) (ty:=ty) hut hi hd hni hlenv rdus rdos hzi (by omega) hroom hzl.2.2
    refine fin ⟨_,_,_,rfl⟩ hrun (S.Qf (by simp) ?_ ?_ ⟨rfl,rfl⟩ ?_ ?_)
    ·intro b hb;exact sN {w with drawn:=w.drawn+1} _ hb
    ·intro x
     rw[u6 {w with drawn:=w.drawn+1} _ (by intro c' t' lo hi h;cases h;exact ⟨rfl,rfl⟩)];rfl
    ·intro b hb
     have:b=w.heap.size:=hb.1
     omega
    ·intro E' hle' hw
     have ro':=k6.mono hle' _ _ (k6.nb _ _ ros) ros
     have ru':=k6.mono hle' _ _ (k6.nb _ _ rus) rus
     have hll:(rows++ys).length=rows.length+ys.length:=by simp
     rw[←hll]
     refine YB (us:=os++us) hrows (by rw[bM];exact ro'.append ru') (fun v hv=>(aM.1 hv).elim (oneos v) (oneus v)) (by rw[hw];exact DT {w with drawn:=w.drawn+1} _) (by simp;rfl) ?_ (by omega)
     rw[R6,hzs,hll]
  ·cases h
 ·cases h
end sound
end Go.Abs
namespace Go.Abs
section sound
variable {C:Ctx} {φ:Nat→Value} {σ:AState} {a:Act} {w:World}
theorem F8 (σ:AState) (dst:Option Tmp) (x:AV) (rd:List Nat) (p:Prop):σ.app dst {val:=x,rd,pre:=p}=σ.put dst x:=by
 cases dst<;>simp [AState.app,l7,AState.put]
theorem lC (S:mA C φ σ a w) {dst:Option Tmp} {x:AV} {rd:List Nat} {p:Prop} {m:Sem Value} (h: ∃v,m.run C.P w= .ok v w∧nO (C.env φ σ.heap w) x v):
 wg C σ a w dst ((do pure (.value (←m)):Sem Next).run C.P w) {val:=x,rd,pre:=p}:=by
 obtain ⟨v,hr,rep⟩:=h
 refine ⟨.value v,v,w,φ,by simp [hr],.inl rfl,?_⟩
 rw[F8];exact S.put dst rep
theorem foff_eq {P:Program} {t u:TypeId} {i o:Nat} (h:yU P t i=some (o,u)): ∃fs f j,P.underlying t=some (.struct fs)∧fs[i]? =some f∧P.info? f.type=some j∧j.size≠0∧f.offset=o∧f.type=u:=by
 unfold yU at h
 split at h
 ·rename_i fs hu
  split at h
  ·rename_i f hf
   split at h
   ·rename_i j hj
    split at h
    ·cases h
    ·rename_i hs
     simp only[ah,aU] at h
     exact ⟨fs,f,j,hu,hf,hj,hs,h.1,h.2⟩
   ·cases h
  ·cases h
 ·cases h
theorem mA.writeAcc (S:mA C φ σ a w) {l b off cap sz:Nat} {rows ug:List (List AV)} {c c':Array Value} {t:TypeId} (hl:σ.heap[l]? =some (.acc false sz rows)) (hφ:φ l= .slice (some ⟨b,off,none⟩) rows.length cap) (hcap:cap≠0)
 (hle:rows.length≤cap) (hlen:ug.length=rows.length) (hh:w.heap[b]? =some (.cells c t (0,0))) (hsz: ∀r∈ug,r.length=sz) (hfit:off+cap*sz≤c'.size)
 (hr:k6 (C.env φ σ.heap w) ug.flatten ((c'.toList.drop off).take (ug.length*sz))) (h1: ∀u∈(c'.toList.drop off).take (ug.length*sz),u.oneCell'=true):
 mA C φ {σ with heap:=σ.heap.set l (.acc false sz ug)} a (w.setRow b c'):=by
 have hlt:l<σ.heap.length:=(az.1 hl).1
 have mL: ∀ (k:Nat) (x:AObj),(σ.heap.set l (.acc false sz ug))[k]? =some x→(k=l∧x= .acc false sz ug)∨(k≠l∧σ.heap[k]? =some x):=by
  intro k x hx
  by_cases e:k=l
  ·subst e;rw[au hlt] at hx;cases hx;exact .inl ⟨rfl,rfl⟩
  ·rw[ay (fun h=>e h.symm)] at hx;exact .inr ⟨e,hx⟩
 have Xr: ∀b' o,(AObj.acc false sz ug).muts (φ l) b' o→(AObj.acc false sz rows).muts (φ l) b' o:=by
  intro b' o hm;rw[hφ] at hm ⊢;exact ⟨hm.1,fun h=>by cases h⟩
 have DS: ∀b',(AObj.acc false sz ug).block (φ l) b'→(AObj.acc false sz rows).block (φ l) b':=by
  intro b' hm;rw[hφ] at hm ⊢;exact hm
 have hmb: ∀o,(AObj.acc false sz rows).muts (φ l) b o:=by
  intro o;rw[hφ];exact ⟨⟨rfl,hcap⟩,fun h=>by cases h⟩
 have hbb:(AObj.acc false sz rows).block (φ l) b:=by rw[hφ];exact ⟨rfl,hcap⟩
 have EE: ∀b' o,ET φ (σ.heap.set l (.acc false sz ug)) b' o→ET φ σ.heap b' o:=by
  rintro b' o ⟨k,x,hx,hm⟩
  rcases mL k x hx with ⟨e,rfl⟩|⟨_,hx⟩
  ·rw[e] at hm;exact ⟨l,_,hl,Xr b' o hm⟩
  ·exact ⟨k,x,hx,hm⟩
 have Xs: ∀k:Nat,lN (σ.heap.set l (.acc false sz ug))[k]? =lN σ.heap[k]? :=by
  intro k
  by_cases e:k=l
  ·subst e;rw[au hlt,hl];simp only[lN,hlen]
  ·rw[ay (fun h=>e h.symm)]
 have le:(C.env φ σ.heap w).Le σ.heap.length (C.env φ (σ.heap.set l (.acc false sz ug)) (w.setRow b c')):=by
  refine Ctx.Bi (by simp) (fun k _=>⟨rfl,Xs k⟩) (fun b' o u hm hc=> ?_)
  have hne:b'≠b:=fun e=>hm (.inl (e ▸ ⟨l,_,hl,hmb o⟩))
  exact ⟨fun h=>hm (h.imp (EE b' o) id),by rw[cell_setRow_other w b c' _ hne];exact hc⟩
 have Ch:rB C φ (σ.heap.set l (.acc false sz ug)) (w.setRow b c') σ.df a.defers:=by
  refine S.defers.step le (fun b' _ hno=> ?_) (fun k x b' hx hb=> ?_)
  ·refine setRow_other w b b' c' (fun e=> ?_)
   subst e
   exact hno l _ hl hbb
  ·rcases mL k x hx with ⟨e,rfl⟩|⟨hne,hx⟩
   ·rw[e] at hb;exact .inl ⟨l,_,hl,DS b' hb⟩
   ·exact .inl ⟨k,x,hx,hb⟩
 refine {slots:=k6.mono le _ _ (k6.nb _ _ S.slots) S.slots,defers:=Ch,objs:= ?_,apart:= ?_,s6:= ?_,size:=by simpa using S.size,old:= ?_,ni:= ?_,C5:= ?_,vT:= ?_,rest:=S.rest,low:=⟨S.low.1,by simpa using S.low.2⟩,names:= ?_}
 ·intro k x hx
  rcases mL k x hx with ⟨e,rfl⟩|⟨hne,hx⟩
  ·rw[e]
   refine ⟨some ⟨b,off,none⟩,cap,by rw[hlen];exact hφ,by rw[hlen];exact hle,by simp,hsz,?_⟩
   intro a0 ha _
   simp only[ah] at ha
   subst ha
   exact ⟨rfl,c',t,setRow_heap w b c c' t _ hh,hfit,k6.mono le _ _ (k6.nb _ _ hr) hr,h1⟩
  ·refine nk.mono (S.objs k x hx) le (fun b' hb'=> ?_)
   refine setRow_other w b b' c' (fun e=> ?_)
   subst e
   exact hne (S.apart k l x _ b' hx hl hb' hbb)
 ·intro k k' x x' b' hx hx' hb hb'
  rcases mL k x hx with ⟨e1,rfl⟩|⟨hne,hx1⟩<;>rcases mL k' x' hx' with ⟨e2,rfl⟩|⟨hne',Mg⟩
  ·rw[e1,e2]
  ·rw[e1] at hb ⊢;exact S.apart l k' _ x' b' hl Mg (DS b' hb) hb'
  ·rw[e2] at hb' ⊢;exact S.apart k l x _ b' hx1 hl hb (DS b' hb')
  ·exact S.apart k k' x x' b' hx1 Mg hb hb'
 ·intro k x b' o hx hb
  rcases mL k x hx with ⟨e,rfl⟩|⟨hne,hx⟩
  ·rw[e] at hb;exact S.s6 l _ b' o hl (DS b' hb)
  ·exact S.s6 k x b' o hx hb
 ·intro b' o hb' hm
  by_cases e:b'=b
  ·subst e
   exact absurd (S.C5 l _ b' o hl (hmb o) hb') hm
  ·rw[cell_setRow_other w b c' _ e];exact S.old b' o hb' hm
 ·intro b' hb' hm
  by_cases e:b'=b
  ·subst e
   exact absurd (S.C5 l _ b' 0 hl (hmb 0) hb') (hm 0)
  ·rw[setRow_other w b b' c' e];exact S.ni b' hb' hm
 ·intro k x b' o hx hm hb'
  rcases mL k x hx with ⟨e,rfl⟩|⟨hne,hx⟩
  ·rw[e] at hm;exact S.C5 l _ b' o hl (Xr b' o hm) hb'
  ·exact S.C5 k x b' o hx hm hb'
 ·intro x hx
  rw[←S.vT x hx]
  by_cases e:x.block=b
  ·simp only[World.frozen?]
   rw[e,setRow_heap w b c c' t _ hh,hh]
  ·simp only[World.frozen?]
   rw[setRow_other w b x.block c' e]
 ·intro k hk
  have:=S.names k hk
  show (φ k=_∧(lN (σ.heap.set l (.acc false sz ug))[k]? =_∨lN (σ.heap.set l (.acc false sz ug))[k]? =none))∨((∃q,_∧ ∀k',lN (σ.heap.set l (.acc false sz ug))[k]? =some k'→q<k')∧_)
  rw[Xs k];exact this
theorem own_at (S:mA C φ σ a w) {l i n o sz:Nat} {rows:List (List AV)} {r:List AV} {v:Value} (hl:σ.heap[l]? =some (.acc false sz rows)) (hn:rows.length=n) (hi:rows[i]? =some r)
 (rv:nO (C.env φ σ.heap w) (.own l i n o sz) v): ∃b off cap c t,φ l= .slice (some ⟨b,off,none⟩) rows.length cap∧cap≠0∧rows.length≤cap∧v= .pointer (some ⟨b,off+i*sz+o,none⟩)∧w.heap[b]? =some (.cells c t (0,0))∧
   off+cap*sz≤c.size∧(∀q∈rows,q.length=sz)∧k6 (C.env φ σ.heap w) rows.flatten ((c.toList.drop off).take (rows.length*sz))∧ ∀u∈(c.toList.drop off).take (rows.length*sz),u.oneCell'=true:=by
 obtain ⟨_,_,h⟩:=rv
 obtain ⟨b,off,m,cp,hφ,hv⟩:=(h rows.length (by simp [Ctx.env,hl,lN])).2 hn.symm
 obtain ⟨base,cap,hh,h2,h3,h4,h5⟩:=S.objs l _ hl
 simp only[Ctx.env] at hφ
 rw[hh] at hφ
 simp only[Value.slice.injEq] at hφ
 obtain ⟨hb,_,_⟩:=hφ
 subst hb
 have hlt:i<rows.length:=(az.1 hi).1
 have hcap:cap≠0:=by omega
 obtain ⟨_,c,t,h6,h7,h8,h9⟩:=h5 _ rfl hcap
 exact ⟨b,off,cap,c,t,hh,hcap,h2,hv,h6,h7,h4,h8,h9⟩
theorem R7 {sz:Nat}: ∀ {rows:List (List AV)} {i:Nat} {r:List AV},(∀q∈rows,q.length=sz)→rows[i]? =some r→rows.flatten.drop (i*sz)=r++(rows.drop (i+1)).flatten
 |q::rows,0,r,_,h=>by simp at h;subst h;simp
 |q::rows,i+1,r,hl,h=>by
  simp at h
  have hq:q.length=sz:=hl q (by simp)
  have:=R7 (fun p hp=>hl p (by simp [hp])) h
  simp only[aJ,List.drop_succ_cons]
  rw[aC,aX,cE,←hq,List.drop_append]
  simp only[Nat.add_sub_cancel_left,hq]
  rw[this]
  rw[b9 (by omega)]
  rfl
theorem load_own (S:mA C φ σ a w) {t:TypeId} {g:Bool} {k l i n o sz:Nat} {rows:List (List AV)} {r:List AV} {x:AV} {v:Value} (ht:oQ C.P t=some (g,k)) (hl:σ.heap[l]? =some (.acc false sz rows)) (hn:rows.length=n)
 (hi:rows[i]? =some r) (hx:mg g k (r.drop o)=some x) (rv:nO (C.env φ σ.heap w) (.own l i n o sz) v): ∃u,(bh t v).run C.P w= .ok u w∧nO (C.env φ σ.heap w) x u:=by
 obtain ⟨b,off,cap,c,t2,hφ,hcap,hle,rfl,hh,hfit,hsz,rl,_⟩:=own_at S hl hn hi rv
 have hrl:=rl.drop (i*sz)
 rw[R7 hsz hi] at hrl
 have hr:=hrl.take r.length
 rw[bF rfl] at hr
 have hr2:=hr.drop o
 have hi':=JB (C:=C) (w:=w) ht
 have hm:MemAt (C.env φ σ.heap w) b (off+i*sz+o) (r.drop o):=by
  refine ⟨_,hr2,fun j u hj=> ?_⟩
  simp only[Ctx.env,World.cell?,hh]
  simp only[List.getElem?_drop,bC] at hj
  split at hj
  ·split at hj
   ·rw[show off+i*sz+o+j=off+(i*sz+(o+j)) by omega]
    simpa using hj
   ·cases hj
  ·cases hj
 obtain ⟨u,hu,ru⟩:=Qd (P:=C.P) (t:=t) hm hi'.1 hi'.2 hx
 exact ⟨u,by simpa [bh,aI,Ctx.env] using hu,ru⟩
theorem Rh {sz:Nat}: ∀ {rows:List (List AV)} {i:Nat} {r q:List AV},(∀p∈rows,p.length=sz)→rows[i]? =some r→q.length=sz→
 (rows.set i q).flatten=rows.flatten.take (i*sz)++q++rows.flatten.drop (i*sz+sz)
 |p::rows,0,r,q,hl,h,hq=>by
  have hp:p.length=sz:=hl p (by simp)
  simp [←hp]
 |p::rows,i+1,r,q,hl,h,hq=>by
  simp at h
  have hp:p.length=sz:=hl p (by simp)
  have ih:=Rh (q:=q) (fun p hp=>hl p (by simp [hp])) h hq
  simp only[List.set_cons_succ,aJ,ih]
  rw[show (i+1)*sz=p.length+i*sz by rw[aC,hp];omega]
  have e1:(p++rows.flatten).take (p.length+i*sz)=p++rows.flatten.take (i*sz):=by
   rw[List.take_append,bp (by omega)];congr 2;omega
  have e2:(p++rows.flatten).drop (p.length+i*sz+sz)=rows.flatten.drop (i*sz+sz):=by
   rw[List.drop_append,b9 (by omega),List.nil_append];congr 1;omega
  rw[e1,e2]
  simp only[aK]
theorem seg_eq {α:Type} {L V:List α} {off p k n:Nat} (hV:V.length=k) (h:p+k≤n) (hL:off+n≤L.length):
 ((L.take (off+p)++V++L.drop (off+p+k)).drop off).take n=((L.drop off).take n).take p++V++((L.drop off).take n).drop (p+k):=by
 have e1:L.take (off+p)=L.take off++(L.drop off).take p:=by rw[cx]
 have e2:L.drop (off+p+k)=(L.drop off).drop (p+k):=by rw[bq,bw]
 have hA:(L.take off).length=off:=by rw[aG];omega
 have hB:((L.drop off).take p).length=p:=by rw[aG,bg];omega
 rw[e1,e2,aK,aK,bG hA]
 generalize L.drop off=B at hB
 have e3:(B.take n).take p=B.take p:=by rw[bN];congr 1;omega
 have e4:(B.take n).drop (p+k)=(B.drop (p+k)).take (n-(p+k)):=by rw[bD]
 rw[e3,e4]
 have e5:B.take p++(V++B.drop (p+k))=(B.take p++V)++B.drop (p+k):=by rw[aK]
 have hAB:(B.take p++V).length=p+k:=by rw[bn,hB,hV]
 rw[e5,List.take_append,hAB]
 have e6:(B.take p++V).take n=B.take p++V:=bp (by rw[hAB];exact h)
 rw[e6]
theorem store_own (S:mA C φ σ a w) {l i n o k sz:Nat} {rows:List (List AV)} {r ys:List AV} {t:TypeId} {g:Bool} {v p:Value} (ht:oQ C.P t=some (g,k)) (hl:σ.heap[l]? =some (.acc false sz rows)) (hn:rows.length=n)
 (hi:rows[i]? =some r) (hr:k6 (C.env φ σ.heap w) ys v.cells.toList) (h1: ∀u∈v.cells.toList,u.oneCell'=true) (hk:ys.length=k) (hoff:o+k≤sz) (hp:nO (C.env φ σ.heap w) (.own l i n o sz) p):
 ∃w',(bR t p v).run C.P w= .ok () w'∧mA C φ {σ with heap:=σ.heap.set l (.acc false sz (rows.set i (splice r o ys)))} a w':=by
 obtain ⟨b,off,cap,c,t2,hφ,hcap,hle,rfl,hh,hfit,hsz,rl,hone⟩:=own_at S hl hn hi hp
 have hlt:i<rows.length:=(az.1 hi).1
 have hrl:r.length=sz:=hsz r (ct hi)
 have hvl:v.cells.size=k:=by have:=hr.length;simp at this;omega
 have hmul:i*sz+sz≤rows.length*sz:=by
  have:(i+1)*sz≤rows.length*sz:=aH _ hlt
  rw[aC,aX] at this;exact this
 have hmul2:rows.length*sz≤cap*sz:=aH _ hle
 have hst:=run_storeCells_at C.P b (off+i*sz+o) t2 v.cells.toList 0 c w hh (by simp;omega) h1
 have hspl:(splice r o ys).length=sz:=by
  simp only[splice,bn,aG,bg];omega
 have hfl:rows.flatten.length=rows.length*sz:=yV hsz
 have hflat:(rows.set i (splice r o ys)).flatten=rows.flatten.take (i*sz+o)++ys++rows.flatten.drop (i*sz+o+k):=by
  rw[Rh hsz hi hspl]
  have hd:=R7 hsz hi
  have e1:rows.flatten.take (i*sz+o)=rows.flatten.take (i*sz)++r.take o:=by
   rw[cx,hd,List.take_append_of_le_length (by omega)]
  have e2:rows.flatten.drop (i*sz+o+k)=r.drop (o+k)++rows.flatten.drop (i*sz+sz):=by
   have e3:rows.flatten.drop (i*sz+sz)=(rows.drop (i+1)).flatten:=by
    rw[←bq,hd,←hrl,bG]
    rfl
   rw[e3,bw,←bq,hd,bL (by omega)]
  rw[e1,e2]
  simp only[splice,aK,hk]
 let c':Array Value:=(c.toList.take (off+i*sz+o)++v.cells.toList++c.toList.drop (off+i*sz+o+v.cells.toList.length)).toArray
 have ZV:c'.toList=c.toList.take (off+i*sz+o)++v.cells.toList++c.toList.drop (off+i*sz+o+k):=by
  simp only[c',aL,hvl]
 have hcs:c'.size=c.size:=by
  rw[←aL,ZV]
  simp only[bn,aG,bg,aL,hvl]
  omega
 have hseg:(c'.toList.drop off).take (rows.length*sz)=((c.toList.drop off).take (rows.length*sz)).take (i*sz+o)++v.cells.toList++((c.toList.drop off).take (rows.length*sz)).drop (i*sz+o+k):=by
  rw[ZV]
  have hcl:c.toList.length=c.size:=by simp
  have:=seg_eq (L:=c.toList) (V:=v.cells.toList) (off:=off) (p:=i*sz+o) (k:=k) (n:=rows.length*sz) (by simpa using hvl) (by omega) (by omega)
  rw[←bw] at this
  exact this
 refine ⟨_,?_,S.writeAcc hl hφ hcap hle (by rw[bZ]) hh (c':=c') (hsz:= ?_) (by rw[hcs];exact hfit) ?_ ?_⟩
 ·have hs:=(JB (C:=C) (w:=w) ht).2
  simp only[bR,aI,storeVar,aj,av,aa,hs,hvl]
  simp only[bH] at hst
  simpa [c'] using hst
 ·intro q hq
  rcases bT hq with hq|rfl
  ·exact hsz q hq
  ·exact hspl
 ·rw[hflat,bZ,hseg]
  exact ((rl.take _).append hr).append (rl.drop _)
 ·rw[bZ,hseg]
  intro u hu
  simp only[aM] at hu
  rcases hu with (hu|hu)|hu
  ·exact hone u (bt hu)
  ·exact h1 u hu
  ·exact hone u (bu hu)
theorem K8 (_S:mA C φ σ a w) {t u:TypeId} {i o:Nat} {x:AV} {v:Value} (h:yU C.P t i=some (o,u)) (rx:nO (C.env φ σ.heap w) x v):
 (∀l off,x= .ptr l off→ ∃v',(aV t v i).run C.P w= .ok v' w∧nO (C.env φ σ.heap w) (.ptr l (off+o)) v')∧
 (∀cs,x= .pp cs→ ∃v',(aV t v i).run C.P w= .ok v' w∧nO (C.env φ σ.heap w) (.pp (cs.drop o)) v')∧
 (∀l j n o' sz,x= .own l j n o' sz→ ∃v',(aV t v i).run C.P w= .ok v' w∧nO (C.env φ σ.heap w) (.own l j n (o'+o) sz) v'):=by
 obtain ⟨fs,f,j,hu,hf,hj,hs,rfl,rfl⟩:=foff_eq h
 have hsz:(sizeOf f.type).run C.P w= .ok j.size w:=by simp [sizeOf,typeInfo,hj]
 have key: ∀b off,(aV t (.pointer (some ⟨b,off,none⟩)) i).run C.P w= .ok (.pointer (some ⟨b,off+f.offset,none⟩)) w:=by
  intro b off
  simp [aV,run_underlying hu,hf,aI,fieldPlace,hsz,hs,add_plain]
 refine ⟨?_,?_,?_⟩
 ·rintro l off rfl
  obtain ⟨hl,b,hb,rfl⟩:=rx
  exact ⟨_,key b off,hl,b,hb,rfl⟩
 ·rintro cs rfl
  obtain ⟨b,off,rfl,rm⟩:=rx
  exact ⟨_,key b off,b,_,rfl,rm.drop _⟩
 ·rintro l j n o' sz rfl
  obtain ⟨hl,⟨ad,rfl⟩,hr⟩:=rx
  have key2:(aV t (.pointer (some ad)) i).run C.P w= .ok (.pointer (some (ad.add f.offset))) w:=by
   simp [aV,run_underlying hu,hf,aI,fieldPlace,hsz,hs]
  refine ⟨_,key2,hl,⟨_,rfl⟩,fun k hk=> ?_⟩
  obtain ⟨h1,h2⟩:=hr k hk
  refine ⟨h1,fun e=> ?_⟩
  obtain ⟨b,off,m,c,h3,h4⟩:=h2 e
  refine ⟨b,off,m,c,h3,?_⟩
  simp only[Value.pointer.injEq,ah] at h4 ⊢
  rw[h4,add_plain]
  simp only[bw]
theorem part_sound {E:Env} {P:Program} {t:TypeId} {g:Bool} {n o:Nat} {cs:List AV} {vs:Array Value} {x:AV} (ha:(isAgg t).run P w= .ok g w) (hs:(sizeOf t).run P w= .ok n w)
 (r:k6 E cs vs.toList) (hl:mg g n (cs.drop o)=some x): ∃v,(part t vs o).run P w= .ok v w∧nO E x v:=by
 unfold mg at hl
 cases g with
 |true=>
  simp only at hl
  split at hl
  ·cases hl
   refine ⟨.agg (vs.extract o (o+n)),by simp [part,ha,hs],_,rfl,?_⟩
   have:=(r.drop o).take n
   simpa [List.take_drop,Array.toList_extract,List.extract_eq_take_drop] using this
  ·cases hl
 |false=>
  cases hd:cs.drop o with
  |nil=>rw[hd] at hl;cases hl
  |cons c cs'=>
   rw[hd] at hl
   injection hl with hl
   subst hl
   have h0:cs[o]? =some c:=by
    have:=congrArg (fun l:List AV=>l[0]?) hd
    simpa using this
   obtain ⟨v,hv,rv⟩:=r.get h0
   refine ⟨v,?_,rv⟩
   have:vs[o]? =some v:=by simpa using hv
   simp [part,ha,this]
theorem U4 {t e:TypeId} {sz bytes:Nat} {tt:Bool} {rows:List (List AV)} {r:List AV} {n:Int} {k:IntKind} {v:Value} (ht:nU C.P t=some (e,sz,bytes)) (hn:0≤n)
 (hr:rows[n.toNat]? =some r) (rx:nO (C.env φ σ.heap w) (.l5 tt sz rows) v): ∃v',(aW t v (.int k n)).run C.P w= .ok v' w∧nO (C.env φ σ.heap w) (.pp r) v':=by
 obtain ⟨hu,i,hi,rfl,rfl⟩:=Mh ht
 obtain ⟨base,cap,rfl,h2,h3,h4,h5,h6⟩:=rx
 have hlt:n.toNat<rows.length:=(az.1 hr).1
 have hne:rows≠[]:=by intro h;subst h;simp at hlt
 have hsz:(sizeOf e).run C.P w= .ok i.size w:=by simp [sizeOf,typeInfo,hi]
 cases base with
 |none=>have:=h4 rfl;omega
 |some b=>
  have hb:b=⟨b.block,b.off,none⟩:=by have:=h5 b rfl hne;cases b;simp_all
  obtain ⟨_,hm⟩:=mC.get (h6 b rfl) hr
  refine ⟨.pointer (some ⟨b.block,b.off+n.toNat*i.size,none⟩),?_,b.block,_,rfl,hm⟩
  have hlt':0≤n∧n<(rows.length:Int):=⟨hn,by omega⟩
  simp only[aW,asIntOf,aj,av,aa,run_underlying hu,hlt',and_self,if_true,hsz]
  rw[hb,add_plain]
theorem aac (S:mA C φ σ a w) {t e:TypeId} {sz bytes l m:Nat} {rows:List (List AV)} {r:List AV} {n:Int} {k:IntKind} {v:Value} (ht:nU C.P t=some (e,sz,bytes)) (hn:0≤n)
 (hl:σ.heap[l]? =some (.acc true sz rows)) (hm:rows.length=m) (hr:rows[n.toNat]? =some r) (rx:nO (C.env φ σ.heap w) (.acc l m) v):
 ∃v',(aW t v (.int k n)).run C.P w= .ok v' w∧nO (C.env φ σ.heap w) (.pp r) v':=by
 have hv:=JU S hl hm rx
 subst hv
 exact U4 (tt:=false) ht hn hr (R5 S hl)
theorem Xt (b:Addr) (h:b.spot=none) (k:Nat):b.add k=⟨b.block,b.off+k,none⟩:=by
 have hb:b=⟨b.block,b.off,none⟩:=by cases b;simp_all
 rw[hb,add_plain]
theorem run_sliceBound {P:Program} {k:IntKind} {n:Int} {y:Nat} {c:BoundsCode} (h:0≤n∧n≤y):(aO (.int k n) y c).run P w= .ok n.toNat w:=by
 simp [aO,asIntOf,h]
theorem Gz (S:mA C φ σ a w) {d:Nat} {x:Option Operand} {n:Int} (h:bound σ d x=some n):(x=none∧n=d)∨ ∃y k,x=some y∧a.eval y= .int k n:=by
 unfold bound at h
 cases x with
 |none=>simp at h;exact .inl ⟨rfl,h.symm⟩
 |some y=>
  right
  simp only at h
  have r:=S.ev y
  split at h
  ·rename_i k m hm
   cases h
   rw[hm] at r
   exact ⟨y,k,rfl,r⟩
  ·cases h
theorem Ri (S:mA C φ σ a w) {s:Bool} {len cap:Nat} {lo hi mx:Option Operand} {l h m:Int} (hl:bound σ 0 lo=some l) (hh:bound σ len hi=some h) (hm:bound σ len mx=some m)
 (hb:0≤l∧l≤h∧h≤m∧m≤len) (hc:len≤cap) (hmx:mx≠none→hi≠none):
 (aS s len cap (lo.map a.eval) (hi.map a.eval) (mx.map a.eval)).run C.P w= .ok (l.toNat,h.toNat,if mx=none then cap else m.toNat) w:=by
 have e0:(0:Int)≤h:=by omega
 rcases Gz S hm with ⟨rfl,rfl⟩|⟨ym,km,rfl,em⟩
 ·rcases Gz S hh with ⟨rfl,rfl⟩|⟨yh,kh,rfl,eh⟩
  ·rcases Gz S hl with ⟨rfl,rfl⟩|⟨yl,kl,rfl,el⟩
   ·simp [aS]
   ·have e3: ∀c,(aO (.int kl l) len c).run C.P w= .ok l.toNat w:=fun c=>run_sliceBound (by omega)
    simp [aS,el,e3]
  ·have e1: ∀c,(aO (.int kh h) cap c).run C.P w= .ok h.toNat w:=fun c=>run_sliceBound (by omega)
   rcases Gz S hl with ⟨rfl,rfl⟩|⟨yl,kl,rfl,el⟩
   ·simp [aS,eh,e1]
   ·have e3: ∀c,(aO (.int kl l) h.toNat c).run C.P w= .ok l.toNat w:=fun c=>run_sliceBound (by omega)
    simp [aS,eh,e1,el,e3]
 ·rcases Gz S hh with ⟨rfl,rfl⟩|⟨yh,kh,rfl,eh⟩
  ·exact absurd rfl (hmx (by intro h;cases h))
  ·have e1: ∀c,(aO (.int kh h) m.toNat c).run C.P w= .ok h.toNat w:=fun c=>run_sliceBound (by omega)
   have e2: ∀c,(aO (.int km m) cap c).run C.P w= .ok m.toNat w:=fun c=>run_sliceBound (by omega)
   rcases Gz S hl with ⟨rfl,rfl⟩|⟨yl,kl,rfl,el⟩
   ·simp [aS,eh,em,e1,e2]
   ·have e3: ∀c,(aO (.int kl l) h.toNat c).run C.P w= .ok l.toNat w:=fun c=>run_sliceBound (by omega)
    simp [aS,eh,em,e1,e2,el,e3]
theorem slice_lst (S:mA C φ σ a w) {t e:TypeId} {sz sz' bytes:Nat} {tt:Bool} {rows:List (List AV)} {lo hi mx:Option Operand} {l h m:Int} {v:Value} (ht:nU C.P t=some (e,sz,bytes))
 (hl:bound σ 0 lo=some l) (hh:bound σ rows.length hi=some h) (hm:bound σ rows.length mx=some m) (hsz:sz'=sz∨rows.length=0) (hb:0≤l∧l≤h∧h≤m∧m≤rows.length)
 (hmx:(mx.isSome&&hi.isNone)=false) (rx:nO (C.env φ σ.heap w) (.l5 tt sz' rows) v):
 ∃v',(bA t v (lo.map a.eval) (hi.map a.eval) (mx.map a.eval)).run C.P w= .ok v' w∧
  nO (C.env φ σ.heap w) (.l5 (Ur mx tt h rows.length m) sz ((rows.take h.toNat).drop l.toNat)) v':=by
 obtain ⟨hu,i,hi',rfl,rfl⟩:=Mh ht
 obtain ⟨base,cap,rfl,h2,h3,h4,h5,h6⟩:=rx
 have hsize:(sizeOf e).run C.P w= .ok i.size w:=by simp [sizeOf,typeInfo,hi']
 have hbs:=Ri S (s:=true) (cap:=cap) hl hh hm hb h2 (by
  intro h1 h2
  cases mx with
  |none=>exact h1 rfl
  |some _=>subst h2;simp at hmx)
 have hlen:((rows.take h.toNat).drop l.toNat).length=h.toNat-l.toNat:=by
  rw[bg,aG];omega
 obtain ⟨m',hm',hm1,hm2⟩: ∃m',(if mx=none then cap else m.toNat)=m'∧(mx=none→m'=cap)∧(mx≠none→m'=m.toNat):=by
  refine ⟨_,rfl,fun h=>by rw[if_pos h],fun h=>by rw[if_neg h]⟩
 have hm3:h.toNat≤m':=by
  by_cases e:mx=none
  ·rw[hm1 e];omega
  ·rw[hm2 e];omega
 rw[hm'] at hbs
 clear hm'
 have hrun:(bA t (.slice base rows.length cap) (lo.map a.eval) (hi.map a.eval) (mx.map a.eval)).run C.P w=
  .ok (.slice (if m'=l.toNat then base else base.map (·.add (l.toNat*i.size))) (h.toNat-l.toNat) (m'-l.toNat)) w:=by
  simp only[bA,aj,run_underlying hu,aa,Instr.slice,hbs,hsize,av]
 refine ⟨_,hrun,_,_,by rw[hlen],?_,?_,?_,?_,?_⟩
 ·rw[hlen];omega
 ·intro htt
  rw[hlen]
  cases mx with
  |none=>
   simp only[Ur,aY,decide_eq_true_eq] at htt
   have:=h3 htt.1
   have:=hm1 rfl
   omega
  |some y=>
   simp only[Ur,decide_eq_true_eq] at htt
   have:=hm2 (by intro h;cases h)
   omega
 ·intro hnone
  cases base with
  |none=>
   have hc0:=h4 rfl
   by_cases e:mx=none
   ·rw[hm1 e];omega
   ·rw[hm2 e];omega
  |some b=>
   exfalso
   split at hnone<;>simp at hnone
 ·intro b hb' hne
  cases base with
  |none=>split at hb'<;>simp at hb'
  |some b0=>
   have hrows:rows≠[]:=by intro h0;subst h0;simp at hne
   have hsp:=h5 b0 rfl hrows
   split at hb'
   ·simp only[ah] at hb';subst hb';exact hsp
   ·simp only[Option.map_some,ah] at hb'
    rw[Xt b0 hsp] at hb';rw[←hb']
 ·intro b hb'
  by_cases hrows:rows=[]
  ·subst hrows;simp [mC]
  ·have hszz:sz'=i.size:=by
    rcases hsz with h|h
    ·exact h
    ·exact absurd (af h) hrows
   subst hszz
   cases base with
   |none=>split at hb'<;>simp at hb'
   |some b0=>
    have hsp:=h5 b0 rfl hrows
    have rr:=h6 b0 rfl
    split at hb'
    ·rename_i heq
     have hlh:h.toNat≤l.toNat:=by omega
     have:(rows.take h.toNat).drop l.toNat=[]:=List.drop_eq_nil_of_le (by rw[aG];omega)
     rw[this];trivial
    ·simp only[Option.map_some,ah] at hb'
     rw[Xt b0 hsp] at hb';rw[←hb']
     exact mC.drop _ (by rw[aG];omega) (mC.take _ rr)
theorem slice_str (S:mA C φ σ a w) {t:TypeId} {s:ByteArray} {lo hi:Option Operand} {l h:Int} (ht:va C.P t=true) (hl:bound σ 0 lo=some l) (hh:bound σ s.size hi=some h) (hb:0≤l∧l≤h∧h≤s.size):
 (bA t (.string s) (lo.map a.eval) (hi.map a.eval) none).run C.P w= .ok (.string (s.extract l.toNat h.toNat)) w:=by
 have hu:C.P.underlying t=some .string:=by
  unfold va at ht
  split at ht
  ·assumption
  ·cases ht
 have hbs:=Ri S (s:=false) (mx:=none) (cap:=s.size) (m:=s.size) hl hh rfl (by omega) (aD _) (by intro h;exact absurd rfl h)
 simp only[Option.map_none] at hbs
 simp only[bA,aj,run_underlying hu,aa,Instr.slice,Option.isSome_none,aP,if_false,hbs,av]
end sound
end Go.Abs
namespace Go.Abs
section sound
variable {C:Ctx} {φ:Nat→Value} {σ:AState} {a:Act} {w:World}
theorem binAV_sound {E:Env} {op:BinOp} {t:TypeId} {ox oy:Operand} {x y r:AV} {vx vy:Value} (h:binAV op x y=some r) (rx:nO E x vx) (ry:nO E y vy):
 ∃v,(do eqGuard op t ox oy vx vy;binOp op t vx vy:Sem Value).run C.P w= .ok v w∧nO E r v:=by
 unfold binAV at h
 split at h
 ·rename_i k m k' n
  simp only[nO] at rx ry
  subst rx ry
  split at h
  ·cases h
  ·rename_i hk
   have hk':k=k':=by simpa using hk
   subst hk'
   have hg:(eqGuard op t ox oy (.int k m) (.int k n)).run C.P w= .ok () w:=by
    unfold eqGuard;split<;>rfl
   cases op with
   |quo=>
    simp only at h
    split at h
    ·cases h
    ·rename_i hz
     cases h
     exact ⟨_,by simp [hg,binOp,Op.intDiv,hz],rfl⟩
   |rem=>
    simp only at h
    split at h
    ·cases h
    ·rename_i hz
     cases h
     exact ⟨_,by simp [hg,binOp,Op.intDiv,hz],rfl⟩
   |and=>cases h;exact ⟨_,by simp only[aj,hg,aa,binOp];rw[if_neg hk];rfl,rfl⟩
   |or=>cases h;exact ⟨_,by simp only[aj,hg,aa,binOp];rw[if_neg hk];rfl,rfl⟩
   |xor=>cases h;exact ⟨_,by simp only[aj,hg,aa,binOp];rw[if_neg hk];rfl,rfl⟩
   |andNot=>cases h;exact ⟨_,by simp only[aj,hg,aa,binOp];rw[if_neg hk];rfl,rfl⟩
   |_=>simp at h<;>subst h<;>refine ⟨_,?_,rfl⟩<;>simp [hg,binOp,Op.intArith,Op.intCmp]
 ·rename_i s u
  simp only[nO] at rx ry
  subst rx ry
  have hg:(eqGuard op t ox oy (.string s) (.string u)).run C.P w= .ok () w:=by
   unfold eqGuard;split<;>rfl
  cases op with
  |add=>
   simp only at h
   split at h
   ·rename_i hz
    cases h
    have hz': ¬ ((s.size+u.size:Nat):Int)>IntKind.i64.max:=by
     have:IntKind.i64.max=9223372036854775807:=by decide
     rw[this];omega
    exact ⟨_,by simp only[aj,hg,aa,binOp,Op.stringOp];rw[if_neg hz'];rfl,rfl⟩
   ·cases h
  |_=>simp at h<;>subst h<;>refine ⟨_,?_,rfl⟩<;>simp [hg,binOp,Op.stringOp]
 ·cases h
theorem tbl_under {P:Program} {t:TypeId} (h:tbl P t=true):P.underlying t=some .bool:=by
 unfold tbl at h
 split at h
 ·assumption
 ·cases h
theorem tbl_guard {P:Program} {op:BinOp} {t:TypeId} {ox oy:Operand} {p q:Bool}:(eqGuard op t ox oy (.bool p) (.bool q)).run P w= .ok () w:=by
 unfold eqGuard;split<;>rfl
theorem tbl_eq {P:Program} {t:TypeId} {w:World} {p q:Bool} (h:tbl P t=true):(binOp .eql t (.bool p) (.bool q)).run P w= .ok (.bool (p==q)) w:=by
 have:=run_equal_bool (P:=P) w t p q (tbl_under h)
 simp only[aj,aa,binOp,this,av]
theorem tbl_ne {P:Program} {t:TypeId} {w:World} {p q:Bool} (h:tbl P t=true):(binOp .neq t (.bool p) (.bool q)).run P w= .ok (.bool (!(p==q))) w:=by
 have:=run_equal_bool (P:=P) w t p q (tbl_under h)
 simp only[aj,aa,binOp,this,av]
theorem does_more (S:mA C φ σ a w) {dst:Option Tmp} {x:AV} {v:Value} {rd:List Nat} {p:Prop} {r:Result Next} {o:Obj} (ho: ∀c t lo hi,o= .cells c t (lo,hi)→lo=0∧hi=0)
 (hr:r= .ok (.value v) (World.more w o)) (rep:nO (C.env φ σ.heap (World.more w o)) x v):wg C σ a w dst r {val:=x,rd,pre:=p}:=by
 refine ⟨.value v,v,_,φ,hr,.inl rfl,?_⟩
 rw[F8];exact (S.more o ho).put dst rep
theorem does_name (S:mA C φ σ a w) {dst:Option Tmp} {r:Result Next} {c:Array Value} {t:TypeId} {cs:List AV} {rd:List Nat} {p:Prop} (hr:r= .ok (.value (.pointer (some ⟨w.heap.size,0,none⟩))) (World.more w (.cells c t)))
 (rep:k6 (C.env φ σ.heap w) cs c.toList) (h1: ∀u∈c.toList,u.oneCell'=true):wg C σ a w dst r {val:= .ptr σ.heap.length 0,rd,nw:=[.cells cs],pre:=p}:=by
 obtain ⟨S',le⟩:=S.name c t rep h1
 refine ⟨_,_,_,(fun l=>if l=σ.heap.length then .pointer (some ⟨w.heap.size,0,none⟩) else φ l),hr,.inl rfl,?_⟩
 rw[WO]
 exact S'.put dst ⟨by simp [Ctx.env],w.heap.size,by simp [Ctx.env],rfl⟩
theorem Uv {P:Program} {t:TypeId} (h:va P t=true):P.underlying t=some .string:=by
 unfold va at h
 split at h
 ·assumption
 ·cases h
theorem tint_eq {P:Program} {t:TypeId} {k:IntKind} (h:tint P t=some k):P.underlying t=some (.int k):=by
 unfold tint at h
 split at h
 ·rename_i k' hu;cases h;exact hu
 ·cases h
theorem YE {P:Program} {t:TypeId} (h:(nU P t).isSome=true): ∃e,P.underlying t=some (.slice e):=by
 obtain ⟨⟨e,sz,b⟩,hx⟩:=Option.isSome_iff_exists.1 h
 exact ⟨e,(Mh hx).1⟩
theorem len_sound (S:mA C φ σ a w) {t ty:TypeId} {x:AV} {v:Value} {ef:u7} (h:lenAV C.P σ t x=some ef) (rx:nO (C.env φ σ.heap w) x v):
 ∃y rd,ef={val:=y,rd}∧ ∃u,(bV #[t] ty #[v]).run C.P w= .ok u w∧nO (C.env φ σ.heap w) y u:=by
 unfold lenAV at h
 split at h
 ·split at h
  ·rename_i ht
   cases h
   simp only[nO] at rx
   subst rx
   exact ⟨_,_,rfl,_,by simp [bV,run_underlying (Uv ht)];rfl,rfl⟩
  ·cases h
 ·split at h
  ·rename_i ht
   obtain ⟨e,hu⟩:=YE ht
   cases h
   obtain ⟨b,cap,rfl,_⟩:=rx
   exact ⟨_,_,rfl,_,by simp [bV,run_underlying hu];rfl,rfl⟩
  ·cases h
 ·split at h
  ·rename_i ht
   obtain ⟨e,hu⟩:=YE ht
   split at h
   ·rename_i hl
    split at h
    ·rename_i hn
     cases h
     have hv:=JU S hl hn rx
     subst hv
     obtain ⟨b,cap,hh,_⟩:=S.objs _ _ hl
     refine ⟨_,_,rfl,.int .i64 _,?_,rfl⟩
     rw[hh,←hn]
     simp [bV,run_underlying hu];rfl
    ·cases h
   ·cases h
  ·cases h
 ·cases h
theorem XP (S:mA C φ σ a w) {dst:Option Tmp} {t e:TypeId} {sz bytes:Nat} {n:Int} {z:List AV} {rd:List Nat} {p:Prop} (ht:nU C.P t=some (e,sz,bytes)) (hz:oB C.P e=some z)
 (hc:z.length=sz∧0<sz∧0≤n) (hroom:room n.toNat bytes∧n<2 ^ 62):
 wg C σ a w dst ((do pure (.value (←bK t (.int .i64 n) (.int .i64 n))):Sem Next).run C.P w)
  {val:= .acc σ.heap.length n.toNat,rd,nw:=[.acc false sz (aA n.toNat z)],pre:=p}:=by
 obtain ⟨hu,i,hi,rfl,rfl⟩:=Mh ht
 obtain ⟨zv,hzr,hzrep,hzone⟩:=Uu (w:=w) hz
 have hzl:zv.cells.size=i.size:=by have:=(hzrep (C.env φ σ.heap w)).length;simp at this;omega
 have hwrap:IntKind.i64.wrap n=n:=by
  obtain ⟨_,h2⟩:=hroom
  simp [IntKind.wrap,IntKind.bits,IntKind.signed]
  omega
 have hti:(typeInfo e).run C.P w= .ok i w:=by simp [typeInfo,hi]
 have hsz:(sizeOf e).run C.P w= .ok i.size w:=by simp [sizeOf,typeInfo,hi]
 have hb:(i.bytes:Int)*n≤2 ^ 44:=by
  have h1:=hroom.1
  unfold room at h1
  have h2:((n.toNat*i.bytes:Nat):Int)≤2 ^ 44:=by exact_mod_cast h1
  rw[Int.natCast_mul,Int.toNat_of_nonneg hc.2.2,Int.mul_comm] at h2
  exact h2
 have rR:k6 (C.env φ σ.heap w) (aA n.toNat z).flatten ((bO (n.toNat*i.size)).map (fun j=>(if n.toNat*i.size=0 then (#[]:Array Value) else zv.cells)[j % (if n.toNat*i.size=0 then (#[]:Array Value) else zv.cells).size]!)).toList:=by
  rw[V0 zv n.toNat i.size hzl]
  exact Cj (hzrep _) n.toNat
 have hone: ∀u∈((bO (n.toNat*i.size)).map (fun j=>(if n.toNat*i.size=0 then (#[]:Array Value) else zv.cells)[j % (if n.toNat*i.size=0 then (#[]:Array Value) else zv.cells).size]!)).toList,u.oneCell'=true:=by
  rw[V0 zv n.toNat i.size hzl]
  intro u hu
  obtain ⟨l,hl,hu⟩:=List.mem_flatten.1 hu
  rw[bf hl] at hu
  exact hzone u hu
 generalize hcells:(bO (n.toNat*i.size)).map (fun j=>(if n.toNat*i.size=0 then (#[]:Array Value) else zv.cells)[j % (if n.toNat*i.size=0 then (#[]:Array Value) else zv.cells).size]!)=c at rR hone
 have hzs: ∀r∈aA n.toNat z,r.length=i.size:=by
  intro r hr;rw[bf hr];exact hc.1
 have hcsz:c.size=n.toNat*i.size:=by
  have h1:=rR.length
  have h2:=yV hzs
  rw[aQ] at h2
  rw[aL] at h1
  omega
 have htake:(c.toList.drop 0).take (n.toNat*i.size)=c.toList:=by
  rw[cm,←hcsz,←aL,List.take_length]
 have S':=S.Qf (pY:=false) (sz:=i.size) (rows:=aA n.toNat z) (w':=World.more w (.cells c e)) (h':= .slice (some ⟨w.heap.size,0,none⟩) n.toNat n.toNat) (by simp) (fun b hb=>sN w _ hb)
  (u6 w _ (by intro c' t' lo hi h;cases h;exact ⟨rfl,rfl⟩)) ⟨rfl,rfl⟩ (by
    rintro b ⟨rfl,_⟩;exact aD _) (by
    intro E' le hw
    refine ⟨some ⟨w.heap.size,0,none⟩,n.toNat,by rw[aQ],by rw[aQ];exact aD _,by simp,hzs,?_⟩
    intro a0 ha _
    simp only[ah] at ha
    subst ha
    refine ⟨rfl,c,e,by rw[hw];exact DT w _,by rw[hcsz];simp,?_,?_⟩
    ·rw[aQ,htake];exact k6.mono le _ _ (k6.nb _ _ rR) rR
    ·rw[aQ,htake];exact hone)
 have S2:=S'.put dst (x:= .acc σ.heap.length n.toNat) (v:= .slice (some ⟨w.heap.size,0,none⟩) n.toNat n.toNat) ⟨by simp [Ctx.env],⟨_,_,_,rfl⟩,fun k hk=>by
  simp only[Ctx.env,aF (aD _),bU,aT,lN,ah,aQ] at hk
  exact ⟨by omega,fun _=>by simp [Ctx.env]⟩⟩
 have hrun:((do pure (.value (←bK t (.int .i64 n) (.int .i64 n))):Sem Next).run C.P w)= .ok (.value (.slice (some ⟨w.heap.size,0,none⟩) n.toNat n.toNat)) (World.more w (.cells c e)):=by
  have h1: ¬ (((n<0∨(i.bytes:Int)*n>2 ^ 48)∨n<0)∨n>n):=by omega
  by_cases h0:n.toNat*i.size=0
  ·simp only[h0,if_true] at hcells
   simp only[bK,aj,run_underlying hu,aa,asInt,asIntOf,av,hti,hwrap,decide_eq_true_eq,Bool.or_eq_true,h1,if_false,run_askRoom,hsz,h0,if_true,newRow,run_newObj]
   rw[hcells];rfl
  ·simp only[h0,if_false] at hcells
   simp only[bK,aj,run_underlying hu,aa,asInt,asIntOf,av,hti,hwrap,decide_eq_true_eq,Bool.or_eq_true,h1,if_false,run_askRoom,hsz,h0,hzr,newRow,run_newObj]
   rw[hcells];rfl
 rw[←WO σ dst _ rd _ p] at S2
 exact ⟨_,_,_,_,hrun,.inl rfl,S2⟩
theorem V1 (S:mA C φ σ a w) {dst:Option Tmp} {t e:TypeId} {len sz bytes:Nat} {parts:Array (Nat×Operand)} {z:List AV} {rows:List (List AV)} {pY:Bool} (ht:nU C.P t=some (e,sz,bytes))
 (hz:oB C.P e=some z) (hl:z.length=sz∧len*sz≤16777216) (hf:rowsOf sz (aA len z) (parts.toList.map fun p=>(p.1,σ.ev p.2))=some rows):
 wg C σ a w dst ((do pure (.value (←aZ t len (parts.map fun (i,x)=>(i,a.eval x)))):Sem Next).run C.P w)
  {val:= .acc σ.heap.length rows.length,nw:=[.acc pY sz rows]}:=by
 obtain ⟨us,hrun,hr,hone,hlen,h3,hus'⟩:=R3 S ht hz hl hf
 have hsz:us.size=len*sz:=by simpa using hus'
 have htake:(us.toList.drop 0).take (rows.length*sz)=us.toList:=by
  rw[cm,bp (by rw[hus',hlen];exact aD _)]
 have S':=S.Qf (pY:=pY) (sz:=sz) (rows:=rows) (w':=World.more w (.cells us e)) (h':= .slice (some ⟨w.heap.size,0,none⟩) len len) (by simp) (fun b hb=>sN w _ hb)
  (u6 w _ (by intro c' t' lo hi h;cases h;exact ⟨rfl,rfl⟩)) ⟨rfl,rfl⟩ (by
    rintro b ⟨rfl,_⟩;exact aD _) (by
    intro E' le hw
    refine ⟨some ⟨w.heap.size,0,none⟩,len,by rw[hlen],by omega,by simp,h3,?_⟩
    intro a0 ha _
    simp only[ah] at ha
    subst ha
    refine ⟨rfl,us,e,by rw[hw];exact DT w _,by rw[hsz];simp,?_,?_⟩
    ·rw[htake];exact k6.mono le _ _ (k6.nb _ _ hr) hr
    ·rw[htake];exact hone)
 have S2:=S'.put dst (x:= .acc σ.heap.length rows.length) (v:= .slice (some ⟨w.heap.size,0,none⟩) len len) ⟨by simp [Ctx.env],⟨_,_,_,rfl⟩,fun k hk=>by
  simp only[Ctx.env,aF (aD _),bU,aT,lN,ah] at hk
  exact ⟨by omega,fun _=>by simp [Ctx.env]⟩⟩
 have hrun2:((do pure (.value (←aZ t len (parts.map fun (i,x)=>(i,a.eval x)))):Sem Next).run C.P w)= .ok (.value (.slice (some ⟨w.heap.size,0,none⟩) len len)) (World.more w (.cells us e)):=by
  simp only[aj,hrun,aa,av]
 rw[←WO σ dst _ [] _ True] at S2
 exact ⟨_,_,_,_,hrun2,.inl rfl,S2⟩
theorem wg.of_eq {dst:Option Tmp} {r r':Result Next} {e:u7} (h:r=r') (d:wg C σ a w dst r' e):wg C σ a w dst r e:=h ▸ d
theorem map_one {α β:Type} {f:α→β} {l:List α} {x:β} (h:l.map f=[x]): ∃y,l=[y]∧f y=x:=by
 cases l with
 |nil=>simp at h
 |cons y l=>cases l with
  |nil=>simp at h;exact ⟨y,rfl,h⟩
  |cons z l=>simp at h
theorem map_two {α β:Type} {f:α→β} {l:List α} {x x':β} (h:l.map f=[x,x']): ∃y y',l=[y,y']∧f y=x∧f y'=x':=by
 cases l with
 |nil=>simp at h
 |cons y l=>cases l with
  |nil=>simp at h
  |cons z l=>cases l with
   |nil=>simp at h;exact ⟨y,z,rfl,h.1,h.2⟩
   |cons _ _=>simp at h
theorem aad (S:mA C φ σ a w) {o:Oper} {b:Builtin} {args:Array Operand} {ts:Array TypeId} {e:u7} (ho:o.op= .call {callee:= .builtin b,args,argTypes:=ts})
 (h:Jz C.P σ b args.toList ts.toList (args.toList.map σ.ev)=some e) (hp:e.pre):wg C σ a w o.dst ((execOp a.eval o).run C.P w) e:=by
 obtain ⟨ts,rfl⟩: ∃l:List TypeId,ts=l.toArray:=⟨ts.toList,by simp⟩
 obtain ⟨args,rfl⟩: ∃l:List Operand,args=l.toArray:=⟨args.toList,by simp⟩
 simp only at h
 have hrun:(execOp a.eval o).run C.P w=(builtin b ts.toArray o.type (args.toArray.map fun| .const _=>true|_=>false) (args.toArray.map a.eval)).run C.P w:=by
  simp only[execOp,ho,resolve,aj,av,aa,invoke]
  rfl
 refine wg.of_eq hrun ?_
 unfold Jz at h
 split at h
 ·rename_i t x hx
  obtain ⟨ox,rfl,rfl⟩:=map_one hx
  obtain ⟨y,rd,rfl,hv⟩:=len_sound (ty:=o.type) S h (S.ev ox)
  have:=lC (dst:=o.dst) (rd:=rd) (p:=True) S hv
  simpa [builtin] using this
 ·rename_i t u x y hx
  obtain ⟨ox,oy,rfl,rfl,rfl⟩:=map_two hx
  split at h
  ·rename_i et sz bytes ht hu
   split at h
   ·rename_i z hz
    split at h
    ·rename_i hc
     obtain ⟨v,w',φ',hr,hS⟩:=append_sound (dst:=o.dst) (ty:=o.type) S ht hu hz hc h hp (S.ev ox) (S.ev oy)
     refine ⟨.value v,v,w',φ',?_,.inl rfl,hS⟩
     simp [builtin,hr]
    ·cases h
   ·cases h
  ·cases h
 ·rename_i t u k m k' n hx
  obtain ⟨ox,oy,rfl,hx1,Mg⟩:=map_two hx
  have r1:=S.ev ox
  have r2:=S.ev oy
  rw[hx1] at r1
  rw[Mg] at r2
  simp only[nO] at r1 r2
  cases h
  refine wg.of_eq ?_ (lC (rd:=[]) (p:=True) (m:=pure (.int k (if n>m then n else m))) S ⟨_,rfl,rfl⟩)
  simp [builtin,Builtin.max_,r1,r2,Builtin.max2]
 ·rename_i t u k m k' n hx
  obtain ⟨ox,oy,rfl,hx1,Mg⟩:=map_two hx
  have r1:=S.ev ox
  have r2:=S.ev oy
  rw[hx1] at r1
  rw[Mg] at r2
  simp only[nO] at r1 r2
  cases h
  refine wg.of_eq ?_ (lC (rd:=[]) (p:=True) (m:=pure (.int k (if n<m then n else m))) S ⟨_,rfl,rfl⟩)
  simp [builtin,Builtin.min_,r1,r2,Builtin.min2]
 ·cases h
theorem GA (S:mA C φ σ a w): ∀xs:List Operand,k6 (C.env φ σ.heap w) (xs.map σ.ev) (xs.map a.eval)
 |[]=>rfl
 |x::xs=>⟨_,_,rfl,S.ev x,GA S xs⟩
end sound
end Go.Abs
namespace Go.Abs
open Go.MapKept
section
variable {C:Ctx} {φ:Nat→Value} {σ:AState} {a:Act} {w:World}
theorem mA.nameMap (S:mA C φ σ a w):
 mA C (fun l=>if l=σ.heap.length then .map (some w.heap.size) else φ l) {σ with heap:=σ.heap++[.map []]} a (World.more w (.map #[] 0)):=by
 let φ':Nat→Value:=fun l=>if l=σ.heap.length then .map (some w.heap.size) else φ l
 let w':=World.more w (.map #[] 0)
 have hφ: ∀l,l<σ.heap.length→φ' l=φ l:=fun l hl=>by simp only[φ'];rw[if_neg (by omega)]
 have hφn:φ' σ.heap.length= .map (some w.heap.size):=by simp [φ']
 have hsz:w'.heap.size=w.heap.size+1:=Jy _ _
 have hold: ∀b,b<w.heap.size→w'.heap[b]? =w.heap[b]? :=fun b hb=>sN _ _ hb
 have hL:w'.heap[w.heap.size]? =some (.map #[] 0):=DT _ _
 have mL: ∀ (l:Nat) (x:AObj),(σ.heap++[.map []])[l]? =some x→(l<σ.heap.length∧σ.heap[l]? =some x)∨(l=σ.heap.length∧x= .map []):=by
  intro l x hx
  by_cases hl:l<σ.heap.length
  ·rw[an hl] at hx;exact .inl ⟨hl,hx⟩
  ·rw[aF (by omega)] at hx
   have hz:l-σ.heap.length=0:=by
    by_cases e:l-σ.heap.length=0
    ·exact e
    ·rw[br (by simp;omega)] at hx;cases hx
   rw[hz] at hx;simp at hx
   exact .inr ⟨by omega,hx.symm⟩
 have hcell: ∀b o,b<w.heap.size→w'.cell? ⟨b,o,none⟩=w.cell? ⟨b,o,none⟩:=by
  intro b o hb;simp only[World.cell?,hold b hb]
 have hnb: ∀b,(AObj.map []).block (φ' σ.heap.length) b→w.heap.size≤b:=by
  intro b hb
  rw[hφn] at hb
  have hb:b=w.heap.size:=hb
  omega
 have EE: ∀b o,ET φ' (σ.heap++[.map []]) b o→w.heap.size≤b∨ET φ σ.heap b o:=by
  rintro b o ⟨l,x,hx,hm⟩
  rcases mL l x hx with ⟨hl,hx⟩|⟨rfl,rfl⟩
  ·rw[hφ l hl] at hm;exact .inr ⟨l,x,hx,hm⟩
  ·exact .inl (hnb b (AObj.nu hm))
 have le:(C.env φ σ.heap w).Le σ.heap.length (C.env φ' (σ.heap++[.map []]) w'):=by
  refine Ctx.Bi (by simp) (fun l hl=>⟨hφ l hl,by rw[an hl]⟩) (fun b i u hm hc=> ?_)
  have hb:=F7 hc
  refine ⟨fun h=> ?_,by rw[hcell b i hb];exact hc⟩
  rcases h with h|h
  ·rcases EE b i h with e|h
   ·omega
   ·exact hm (.inl h)
  ·exact hm (.inr h)
 have Ch:rB C φ' (σ.heap++[.map []]) w' σ.df a.defers:=by
  refine S.defers.step le (fun b hb _=>hold b hb) (fun l x b hx hb=> ?_)
  rcases mL l x hx with ⟨hl,hx⟩|⟨rfl,rfl⟩
  ·rw[hφ l hl] at hb;exact .inl ⟨l,x,hx,hb⟩
  ·exact .inr (hnb b hb)
 refine {slots:=k6.mono le _ _ (k6.nb _ _ S.slots) S.slots,defers:=Ch,objs:= ?_,apart:= ?_,s6:= ?_,size:=by show _≤w'.heap.size;have:=S.size;omega,old:= ?_,ni:= ?_,C5:= ?_,vT:= ?_,rest:=S.rest,low:=⟨S.low.1,by have:=S.low.2;simp;omega⟩,names:= ?_}
 ·intro l x hx
  show nk _ x (φ' l)
  rcases mL l x hx with ⟨hl,hx⟩|⟨rfl,rfl⟩
  ·have r0:=S.objs l x hx
   rw[hφ l hl]
   exact nk.mono r0 le (fun b hb=>hold b (r0.qc hb))
  ·rw[hφn]
   exact ⟨w.heap.size,#[],0,rfl,hL,rfl⟩
 ·intro l l' x x' b hx hx' hb hb'
  have hb:x.block (φ' l) b:=hb
  have hb':x'.block (φ' l') b:=hb'
  rcases mL l x hx with ⟨hl,hx⟩|⟨rfl,rfl⟩<;>rcases mL l' x' hx' with ⟨hl',hx'⟩|⟨rfl,rfl⟩
  ·rw[hφ l hl] at hb
   rw[hφ l' hl'] at hb'
   exact S.apart l l' x x' b hx hx' hb hb'
  ·rw[hφ l hl] at hb
   have h1:=(S.objs l x hx).qc hb
   have h2:=hnb b hb'
   simp only[Ctx.env] at h1;omega
  ·rw[hφ l' hl'] at hb'
   have h1:=(S.objs l' x' hx').qc hb'
   have h2:=hnb b hb
   simp only[Ctx.env] at h1;omega
  ·rfl
 ·intro l x b o hx hb
  have hb:x.block (φ' l) b:=hb
  rcases mL l x hx with ⟨hl,hx⟩|⟨rfl,rfl⟩
  ·rw[hφ l hl] at hb
   exact S.s6 l x b o hx hb
  ·intro hA
   have h1:=C.hA _ _ hA
   have h2:=hnb b hb
   have:=S.size;omega
 ·intro b i hb hm;rw[hcell b i (ak hb S.size)];exact S.old b i hb hm
 ·intro b hb hm;rw[hold b (ak hb S.size)];exact S.ni b hb hm
 ·intro l x b o hx hm hb
  have hm:x.muts (φ' l) b o:=hm
  rcases mL l x hx with ⟨hl,hx⟩|⟨rfl,rfl⟩
  ·rw[hφ l hl] at hm
   exact S.C5 l x b o hx hm hb
  ·have h2:=hnb b (AObj.nu hm)
   have:=S.size;omega
 ·intro x hx
  exact (u6 w (.map #[] 0) (by intro c t lo hi h;cases h) x).trans (S.vT x hx)
 ·intro l hl
  have hlt:l<σ.heap.length:=by have:=S.low;omega
  have:=S.names l hl
  rw[an hlt]
  show (φ' l=_∧_)∨_
  rw[hφ l hlt];exact this
theorem mA.nameIter (S:mA C φ σ a w) (s:ByteArray):
 mA C (fun l=>if l=σ.heap.length then .pointer (some ⟨w.heap.size,0,none⟩) else φ l) {σ with heap:=σ.heap++[.iter s 0]} a (World.more w (.stringIter s 0)):=by
 let φ':Nat→Value:=fun l=>if l=σ.heap.length then .pointer (some ⟨w.heap.size,0,none⟩) else φ l
 let w':=World.more w (.stringIter s 0)
 have hφ: ∀l,l<σ.heap.length→φ' l=φ l:=fun l hl=>by simp only[φ'];rw[if_neg (by omega)]
 have hφn:φ' σ.heap.length= .pointer (some ⟨w.heap.size,0,none⟩):=by simp [φ']
 have hsz:w'.heap.size=w.heap.size+1:=Jy _ _
 have hold: ∀b,b<w.heap.size→w'.heap[b]? =w.heap[b]? :=fun b hb=>sN _ _ hb
 have hL:w'.heap[w.heap.size]? =some (.stringIter s 0):=DT _ _
 have mL: ∀ (l:Nat) (x:AObj),(σ.heap++[.iter s 0])[l]? =some x→(l<σ.heap.length∧σ.heap[l]? =some x)∨(l=σ.heap.length∧x= .iter s 0):=by
  intro l x hx
  by_cases hl:l<σ.heap.length
  ·rw[an hl] at hx;exact .inl ⟨hl,hx⟩
  ·rw[aF (by omega)] at hx
   have hz:l-σ.heap.length=0:=by
    by_cases e:l-σ.heap.length=0
    ·exact e
    ·rw[br (by simp;omega)] at hx;cases hx
   rw[hz] at hx;simp at hx
   exact .inr ⟨by omega,hx.symm⟩
 have hcell: ∀b o,b<w.heap.size→w'.cell? ⟨b,o,none⟩=w.cell? ⟨b,o,none⟩:=by
  intro b o hb;simp only[World.cell?,hold b hb]
 have hnb: ∀b,(AObj.iter s 0).block (φ' σ.heap.length) b→w.heap.size≤b:=by
  intro b hb
  rw[hφn] at hb
  have hb:b=w.heap.size:=hb
  omega
 have EE: ∀b o,ET φ' (σ.heap++[.iter s 0]) b o→w.heap.size≤b∨ET φ σ.heap b o:=by
  rintro b o ⟨l,x,hx,hm⟩
  rcases mL l x hx with ⟨hl,hx⟩|⟨rfl,rfl⟩
  ·rw[hφ l hl] at hm;exact .inr ⟨l,x,hx,hm⟩
  ·exact .inl (hnb b (AObj.nu hm))
 have le:(C.env φ σ.heap w).Le σ.heap.length (C.env φ' (σ.heap++[.iter s 0]) w'):=by
  refine Ctx.Bi (by simp) (fun l hl=>⟨hφ l hl,by rw[an hl]⟩) (fun b i u hm hc=> ?_)
  have hb:=F7 hc
  refine ⟨fun h=> ?_,by rw[hcell b i hb];exact hc⟩
  rcases h with h|h
  ·rcases EE b i h with e|h
   ·omega
   ·exact hm (.inl h)
  ·exact hm (.inr h)
 have Ch:rB C φ' (σ.heap++[.iter s 0]) w' σ.df a.defers:=by
  refine S.defers.step le (fun b hb _=>hold b hb) (fun l x b hx hb=> ?_)
  rcases mL l x hx with ⟨hl,hx⟩|⟨rfl,rfl⟩
  ·rw[hφ l hl] at hb;exact .inl ⟨l,x,hx,hb⟩
  ·exact .inr (hnb b hb)
 refine {slots:=k6.mono le _ _ (k6.nb _ _ S.slots) S.slots,defers:=Ch,objs:= ?_,apart:= ?_,s6:= ?_,size:=by show _≤w'.heap.size;have:=S.size;omega,old:= ?_,ni:= ?_,C5:= ?_,vT:= ?_,rest:=S.rest,low:=⟨S.low.1,by have:=S.low.2;simp;omega⟩,names:= ?_}
 ·intro l x hx
  show nk _ x (φ' l)
  rcases mL l x hx with ⟨hl,hx⟩|⟨rfl,rfl⟩
  ·have r0:=S.objs l x hx
   rw[hφ l hl]
   exact nk.mono r0 le (fun b hb=>hold b (r0.qc hb))
  ·rw[hφn]
   exact ⟨w.heap.size,rfl,hL⟩
 ·intro l l' x x' b hx hx' hb hb'
  have hb:x.block (φ' l) b:=hb
  have hb':x'.block (φ' l') b:=hb'
  rcases mL l x hx with ⟨hl,hx⟩|⟨rfl,rfl⟩<;>rcases mL l' x' hx' with ⟨hl',hx'⟩|⟨rfl,rfl⟩
  ·rw[hφ l hl] at hb
   rw[hφ l' hl'] at hb'
   exact S.apart l l' x x' b hx hx' hb hb'
  ·rw[hφ l hl] at hb
   have h1:=(S.objs l x hx).qc hb
   have h2:=hnb b hb'
   simp only[Ctx.env] at h1;omega
  ·rw[hφ l' hl'] at hb'
   have h1:=(S.objs l' x' hx').qc hb'
   have h2:=hnb b hb
   simp only[Ctx.env] at h1;omega
  ·rfl
 ·intro l x b o hx hb
  have hb:x.block (φ' l) b:=hb
  rcases mL l x hx with ⟨hl,hx⟩|⟨rfl,rfl⟩
  ·rw[hφ l hl] at hb
   exact S.s6 l x b o hx hb
  ·intro hA
   have h1:=C.hA _ _ hA
   have h2:=hnb b hb
   have:=S.size;omega
 ·intro b i hb hm;rw[hcell b i (ak hb S.size)];exact S.old b i hb hm
 ·intro b hb hm;rw[hold b (ak hb S.size)];exact S.ni b hb hm
 ·intro l x b o hx hm hb
  have hm:x.muts (φ' l) b o:=hm
  rcases mL l x hx with ⟨hl,hx⟩|⟨rfl,rfl⟩
  ·rw[hφ l hl] at hm
   exact S.C5 l x b o hx hm hb
  ·have h2:=hnb b (AObj.nu hm)
   have:=S.size;omega
 ·intro x hx
  exact (u6 w (.stringIter s 0) (by intro c t lo hi h;cases h) x).trans (S.vT x hx)
 ·intro l hl
  have hlt:l<σ.heap.length:=by have:=S.low;omega
  have:=S.names l hl
  rw[an hlt]
  show (φ' l=_∧_)∨_
  rw[hφ l hlt];exact this
theorem mA.setMap (S:mA C φ σ a w) {l r:Nat} {es es':List (AV×AV)} {xs xs':Array MapEntry} {cl cl':Nat} (hl:σ.heap[l]? =some (.map es)) (hφ:φ l= .map (some r))
 (hw:w.heap[r]? =some (.map xs cl)) (hr:qP (C.env φ σ.heap w) es' xs'.toList):mA C φ {σ with heap:=σ.heap.set l (.map es')} a (w.putObj r (.map xs' cl')):=by
 have hlt:l<σ.heap.length:=(az.1 hl).1
 have YF:=(aq.1 hw).1
 have mL: ∀ (j:Nat) (x:AObj),(σ.heap.set l (.map es'))[j]? =some x→(j=l∧x= .map es')∨(j≠l∧σ.heap[j]? =some x):=by
  intro j x hx
  by_cases e:j=l
  ·subst e;rw[au hlt] at hx;cases hx;exact .inl ⟨rfl,rfl⟩
  ·rw[ay (fun h=>e h.symm)] at hx;exact .inr ⟨e,hx⟩
 have hbb:(AObj.map es).block (φ l) r:=by rw[hφ];rfl
 have hmb: ∀o,(AObj.map es).muts (φ l) r o:=by intro o;rw[hφ];rfl
 have yx: ∀b,b≠r→(w.putObj r (.map xs' cl')).heap[b]? =w.heap[b]? :=fun b hb=>World.putObj_heap_other hb
 have hcell: ∀b o,(w.putObj r (.map xs' cl')).cell? ⟨b,o,none⟩=w.cell? ⟨b,o,none⟩:=by
  intro b o
  by_cases e:b=r
  ·subst e;simp only[World.cell?,hw,World.putObj_heap_same YF]
  ·simp only[World.cell?,yx b e]
 have DS: ∀b,(AObj.map es').block (φ l) b→(AObj.map es).block (φ l) b:=by intro b hb;rw[hφ] at hb ⊢;exact hb
 have hmts: ∀b o,(AObj.map es').muts (φ l) b o→(AObj.map es).muts (φ l) b o:=by intro b o hb;rw[hφ] at hb ⊢;exact hb
 have EE: ∀b o,ET φ (σ.heap.set l (.map es')) b o→ET φ σ.heap b o:=by
  rintro b o ⟨j,x,hx,hm⟩
  rcases mL j x hx with ⟨rfl,rfl⟩|⟨_,hx⟩
  ·exact ⟨j,_,hl,hmts b o hm⟩
  ·exact ⟨j,x,hx,hm⟩
 have hlen: ∀j:Nat,lN (σ.heap.set l (.map es'))[j]? =lN σ.heap[j]? :=by
  intro j
  by_cases e:j=l
  ·subst e;rw[au hlt,hl];rfl
  ·rw[ay (fun h=>e h.symm)]
 have le:(C.env φ σ.heap w).Le σ.heap.length (C.env φ (σ.heap.set l (.map es')) (w.putObj r (.map xs' cl'))):=
  Ctx.Bi (by simp) (fun j _=>⟨rfl,hlen j⟩) (fun b o u hm hc=>⟨fun h=>hm (h.imp (EE b o) id),by rw[hcell];exact hc⟩)
 have Ch:rB C φ (σ.heap.set l (.map es')) (w.putObj r (.map xs' cl')) σ.df a.defers:=by
  refine S.defers.step le (fun b _ hno=>yx b (fun e=>by subst e;exact hno l _ hl hbb)) (fun j x b hx hb=> ?_)
  rcases mL j x hx with ⟨rfl,rfl⟩|⟨_,hx⟩
  ·exact .inl ⟨j,_,hl,DS b hb⟩
  ·exact .inl ⟨j,x,hx,hb⟩
 refine {slots:=k6.mono le _ _ (k6.nb _ _ S.slots) S.slots,defers:=Ch,objs:= ?_,apart:= ?_,s6:= ?_,size:=by rw[World.putObj_size];exact S.size,old:=fun b o hb hm=>by rw[hcell];exact S.old b o hb hm,ni:= ?_,C5:= ?_,vT:= ?_,rest:=S.rest,low:=⟨S.low.1,by simpa using S.low.2⟩,names:= ?_}
 ·intro j x hx
  rcases mL j x hx with ⟨rfl,rfl⟩|⟨hne,hx⟩
  ·exact ⟨r,xs',cl',hφ,World.putObj_heap_same YF,qP.mono le (qP.nb hr) hr⟩
  ·exact nk.mono (S.objs j x hx) le (fun b hb=>yx b (fun e=>by subst e;exact hne (S.apart j l x _ b hx hl hb hbb)))
 ·intro j j' x x' b hx hx' hb hb'
  rcases mL j x hx with ⟨rfl,rfl⟩|⟨hne,hx1⟩<;>rcases mL j' x' hx' with ⟨e2,rfl⟩|⟨hne',Mg⟩
  ·exact e2.symm
  ·exact S.apart j j' _ x' b hl Mg (DS b hb) hb'
  ·rw[e2] at hb' ⊢;exact S.apart j l x _ b hx1 hl hb (DS b hb')
  ·exact S.apart j j' x x' b hx1 Mg hb hb'
 ·intro j x b o hx hb
  rcases mL j x hx with ⟨rfl,rfl⟩|⟨_,hx⟩
  ·exact S.s6 j _ b o hl (DS b hb)
  ·exact S.s6 j x b o hx hb
 ·intro b hb hm
  rw[yx b (fun e=>by subst e;exact hm 0 (S.C5 l _ b 0 hl (hmb 0) hb))]
  exact S.ni b hb hm
 ·intro j x b o hx hm hb
  rcases mL j x hx with ⟨rfl,rfl⟩|⟨_,hx⟩
  ·exact S.C5 j _ b o hl (hmts b o hm) hb
  ·exact S.C5 j x b o hx hm hb
 ·intro x hx
  rw[←S.vT x hx]
  by_cases e:x.block=r
  ·simp only[World.frozen?]
   rw[e,hw,World.putObj_heap_same YF]
  ·simp only[World.frozen?]
   rw[yx x.block e]
 ·intro j hj
  have:=S.names j hj
  rw[hlen j];exact this
theorem mA.setIter (S:mA C φ σ a w) {l r:Nat} {s s':ByteArray} {p p':Nat} (hl:σ.heap[l]? =some (.iter s p)) (hφ:φ l= .pointer (some ⟨r,0,none⟩))
 (hw:w.heap[r]? =some (.stringIter s p)):mA C φ {σ with heap:=σ.heap.set l (.iter s' p')} a (w.putObj r (.stringIter s' p')):=by
 have hlt:l<σ.heap.length:=(az.1 hl).1
 have YF:=(aq.1 hw).1
 have mL: ∀ (j:Nat) (x:AObj),(σ.heap.set l (.iter s' p'))[j]? =some x→(j=l∧x= .iter s' p')∨(j≠l∧σ.heap[j]? =some x):=by
  intro j x hx
  by_cases e:j=l
  ·subst e;rw[au hlt] at hx;cases hx;exact .inl ⟨rfl,rfl⟩
  ·rw[ay (fun h=>e h.symm)] at hx;exact .inr ⟨e,hx⟩
 have hbb:(AObj.iter s p).block (φ l) r:=by rw[hφ];rfl
 have hmb: ∀o,(AObj.iter s p).muts (φ l) r o:=by intro o;rw[hφ];rfl
 have yx: ∀b,b≠r→(w.putObj r (.stringIter s' p')).heap[b]? =w.heap[b]? :=fun b hb=>World.putObj_heap_other hb
 have hcell: ∀b o,(w.putObj r (.stringIter s' p')).cell? ⟨b,o,none⟩=w.cell? ⟨b,o,none⟩:=by
  intro b o
  by_cases e:b=r
  ·subst e;simp only[World.cell?,hw,World.putObj_heap_same YF]
  ·simp only[World.cell?,yx b e]
 have DS: ∀b,(AObj.iter s' p').block (φ l) b→(AObj.iter s p).block (φ l) b:=by intro b hb;rw[hφ] at hb ⊢;exact hb
 have hmts: ∀b o,(AObj.iter s' p').muts (φ l) b o→(AObj.iter s p).muts (φ l) b o:=by intro b o hb;rw[hφ] at hb ⊢;exact hb
 have EE: ∀b o,ET φ (σ.heap.set l (.iter s' p')) b o→ET φ σ.heap b o:=by
  rintro b o ⟨j,x,hx,hm⟩
  rcases mL j x hx with ⟨rfl,rfl⟩|⟨_,hx⟩
  ·exact ⟨j,_,hl,hmts b o hm⟩
  ·exact ⟨j,x,hx,hm⟩
 have hlen: ∀j:Nat,lN (σ.heap.set l (.iter s' p'))[j]? =lN σ.heap[j]? :=by
  intro j
  by_cases e:j=l
  ·subst e;rw[au hlt,hl];rfl
  ·rw[ay (fun h=>e h.symm)]
 have le:(C.env φ σ.heap w).Le σ.heap.length (C.env φ (σ.heap.set l (.iter s' p')) (w.putObj r (.stringIter s' p'))):=
  Ctx.Bi (by simp) (fun j _=>⟨rfl,hlen j⟩) (fun b o u hm hc=>⟨fun h=>hm (h.imp (EE b o) id),by rw[hcell];exact hc⟩)
 have Ch:rB C φ (σ.heap.set l (.iter s' p')) (w.putObj r (.stringIter s' p')) σ.df a.defers:=by
  refine S.defers.step le (fun b _ hno=>yx b (fun e=>by subst e;exact hno l _ hl hbb)) (fun j x b hx hb=> ?_)
  rcases mL j x hx with ⟨rfl,rfl⟩|⟨_,hx⟩
  ·exact .inl ⟨j,_,hl,DS b hb⟩
  ·exact .inl ⟨j,x,hx,hb⟩
 refine {slots:=k6.mono le _ _ (k6.nb _ _ S.slots) S.slots,defers:=Ch,objs:= ?_,apart:= ?_,s6:= ?_,size:=by rw[World.putObj_size];exact S.size,old:=fun b o hb hm=>by rw[hcell];exact S.old b o hb hm,ni:= ?_,C5:= ?_,vT:= ?_,rest:=S.rest,low:=⟨S.low.1,by simpa using S.low.2⟩,names:= ?_}
 ·intro j x hx
  rcases mL j x hx with ⟨rfl,rfl⟩|⟨hne,hx⟩
  ·exact ⟨r,hφ,World.putObj_heap_same YF⟩
  ·exact nk.mono (S.objs j x hx) le (fun b hb=>yx b (fun e=>by subst e;exact hne (S.apart j l x _ b hx hl hb hbb)))
 ·intro j j' x x' b hx hx' hb hb'
  rcases mL j x hx with ⟨rfl,rfl⟩|⟨hne,hx1⟩<;>rcases mL j' x' hx' with ⟨e2,rfl⟩|⟨hne',Mg⟩
  ·exact e2.symm
  ·exact S.apart j j' _ x' b hl Mg (DS b hb) hb'
  ·rw[e2] at hb' ⊢;exact S.apart j l x _ b hx1 hl hb (DS b hb')
  ·exact S.apart j j' x x' b hx1 Mg hb hb'
 ·intro j x b o hx hb
  rcases mL j x hx with ⟨rfl,rfl⟩|⟨_,hx⟩
  ·exact S.s6 j _ b o hl (DS b hb)
  ·exact S.s6 j x b o hx hb
 ·intro b hb hm
  rw[yx b (fun e=>by subst e;exact hm 0 (S.C5 l _ b 0 hl (hmb 0) hb))]
  exact S.ni b hb hm
 ·intro j x b o hx hm hb
  rcases mL j x hx with ⟨rfl,rfl⟩|⟨_,hx⟩
  ·exact S.C5 j _ b o hl (hmts b o hm) hb
  ·exact S.C5 j x b o hx hm hb
 ·intro x hx
  rw[←S.vT x hx]
  by_cases e:x.block=r
  ·simp only[World.frozen?]
   rw[e,hw,World.putObj_heap_same YF]
  ·simp only[World.frozen?]
   rw[yx x.block e]
 ·intro j hj
  have:=S.names j hj
  rw[hlen j];exact this
theorem next_sound (S:mA C φ σ a w) {l:Nat} {v:Value} {e:u7} {ty:TypeId} (h:Ut l σ.heap[l]? =some e) (hv:nO (C.env φ σ.heap w) (.ptr l 0) v):
 ∃u w',(cH v true ty).run C.P w= .ok u w'∧nO (C.env φ (l7 σ.heap e.up) w') e.val u∧mA C φ {σ with heap:=l7 σ.heap e.up} a w'∧e.nw=[]:=by
 unfold Ut at h
 split at h
 ·rename_i s p hl
  obtain ⟨b,hφ,hb⟩:=S.objs l _ hl
  have hb:w.heap[b]? =some (.stringIter s p):=hb
  obtain ⟨hlt,b',hφ',rfl⟩:=hv
  have hφ':φ l= .pointer (some ⟨b',0,none⟩):=hφ'
  have hbb:b'=b:=by rw[hφ] at hφ';simpa using hφ'.symm
  subst hbb
  split at h
  ·rename_i hp
   cases h
   have hb2:=(aq.1 hb).1
   refine ⟨.tuple #[.bool true,goInt p,.int .i32 (Utf8.decode s p).1],w.putObj b' (.stringIter s (p+(Utf8.decode s p).2)),?_,?_,S.setIter hl hφ hb,rfl⟩
   ·simp [cH,getObj,setObj,Sem.run,hb,hp,World.putObj,aR]
   ·exact ⟨_,rfl,_,_,rfl,rfl,_,_,rfl,rfl,_,_,rfl,rfl,rfl⟩
  ·rename_i hp
   cases h
   refine ⟨.tuple #[.bool false],w,?_,⟨_,rfl,_,_,rfl,rfl,rfl⟩,by simpa [l7] using S,rfl⟩
   simp [cH,getObj,Sem.run,hb,hp,aR]
 ·cases h
theorem tz1_run {P:Program} {t:TypeId} {z:AV} (h:tz1 P t=some z): ∃v,(zeroValue t).run P w= .ok v w∧ ∀E,nO E z v:=by
 unfold tz1 at h
 cases hi:P.info? t with
 |none=>simp [hi] at h
 |some i=>
  simp only[hi] at h
  split at h
  ·rename_i b hz;cases h;exact ⟨.bool b,by simp [zeroValue,typeInfo,hi,hz],fun E=>rfl⟩
  ·rename_i k n hz;cases h;exact ⟨.int k n,by simp [zeroValue,typeInfo,hi,hz],fun E=>rfl⟩
  ·rename_i s hz;cases h;exact ⟨.string s,by simp [zeroValue,typeInfo,hi,hz],fun E=>rfl⟩
  ·rename_i vs hz;cases h;exact ⟨.agg vs,by simp [zeroValue,typeInfo,hi,hz],fun E=>⟨vs,rfl,Qe E _⟩⟩
  ·cases h
theorem YG {P:Program} {t:TypeId} {z:AV} (h:R2 P t=some z): ∃k e,P.underlying t=some (.map k e)∧P.underlying k=some .string∧tz1 P e=some z:=by
 unfold R2 at h
 split at h
 ·rename_i k e hu
  split at h
  ·rename_i hk;exact ⟨k,e,hu,hk,h⟩
  ·cases h
 ·cases h
theorem Yi {E:Env} {s:ByteArray} {v:AV} {u:Value} (hv:nO E v u): ∀ (es:List (AV×AV)) (xs:List MapEntry) (i:Nat),K6 es=true→qP E es xs→
 (∃j x e,yw s es=some x∧bB .string (.string s) xs i=some (some (i+j,e.val))∧xs[j]? =some e∧e.key= .string s∧nO E x e.val∧qP E (JA s v es) (xs.modify j fun e=>{e with key:= .string s,val:=u}))∨
 (yw s es=none∧bB .string (.string s) xs i=some none∧ ∀b,qP E (JA s v es) (xs++[{key:= .string s,val:=u,born:=b}]))
 |[],_,i,_,rfl=> .inr ⟨rfl,rfl,fun b=>⟨_,[],rfl,rfl,hv,rfl⟩⟩
 |(k,x)::es,xs,i,hs,⟨e,r,hx,r1,r2,r3⟩=>by
  subst hx
  cases k with
  |str b=>
   have hs':K6 es=true:=hs
   have hk:e.key= .string b:=r1
   cases hb:s==b with
   |true=>
    have hsb:s=b:=(bytes_beq s b).1 hb
    subst hsb
    refine .inl ⟨0,x,e,?_,?_,rfl,hk,r2,?_⟩
    ·simp only[yw,hb,cond_true]
    ·simp only[bB,hk,cz,hb];rfl
    ·simp only[JA,hb,cond_true]
     exact ⟨_,r,rfl,rfl,hv,r3⟩
   |false=>
    rcases Yi hv es r (i+1) hs' r3 with ⟨j,x',e',h1,h2,h3,h4,h5,h6⟩|⟨h1,h2,h3⟩
    ·refine .inl ⟨j+1,x',e',?_,?_,by simpa using h3,h4,h5,?_⟩
     ·simp only[yw,hb,cond_false,h1]
     ·simp only[bB,hk,cz,hb,h2]
      have:i+1+j=i+(j+1):=by omega
      rw[this]
     ·simp only[JA,hb,cond_false,List.modify_succ_cons]
      exact ⟨e,_,rfl,r1,r2,h6⟩
    ·refine .inr ⟨?_,?_,fun q=> ?_⟩
     ·simp only[yw,hb,cond_false,h1]
     ·simp only[bB,hk,cz,hb,h2]
     ·simp only[JA,hb,cond_false,List.cons_append]
      exact ⟨e,_,rfl,r1,r2,h3 q⟩
  |_=>cases hs
theorem lookup_sound (S:mA C φ σ a w) {t:TypeId} {z:AV} {l:Nat} {s:ByteArray} {es:List (AV×AV)} {v:Value} (ht:R2 C.P t=some z) (hl:σ.heap[l]? =some (.map es)) (hs:K6 es=true)
 (hv:nO (C.env φ σ.heap w) (.map l) v): ∃u,(bl t v (.string s) false).run C.P w= .ok u w∧nO (C.env φ σ.heap w) ((yw s es).getD z) u:=by
 obtain ⟨kt,et,hu,hk,hz⟩:=YG ht
 obtain ⟨zv,hzr,hzE⟩:=tz1_run (w:=w) hz
 obtain ⟨r,xs,cl,hφ,hb,rR⟩:=S.objs l _ hl
 have hb:w.heap[r]? =some (.map xs cl):=hb
 obtain ⟨_,rfl,_⟩:=hv
 have hφ':(C.env φ σ.heap w).φ l= .map (some r):=hφ
 rw[hφ']
 have hck:=run_checkKey (P:=C.P) (w:=w) hk (d:= .string) (k:= .string s) trivial xs.isEmpty 9999
 rcases Yi (s:=s) (v:= .any) (u:=undef) (E:=C.env φ σ.heap w) trivial es xs.toList 0 hs rR with ⟨j,x,e,h1,h2,_,_,h5,_⟩|⟨h1,h2,_⟩
 ·refine ⟨e.val,?_,by rw[h1];exact h5⟩
  simp [bl,run_underlying hu,run_getObj_map hb,hck,run_findKey hk h2,aR]
 ·refine ⟨zv,?_,by rw[h1];exact hzE _⟩
  simp [bl,run_underlying hu,run_getObj_map hb,hck,run_findKey hk h2,hzr,aR]
theorem YH (S:mA C φ σ a w) {t:TypeId} {z:AV} {l:Nat} {s:ByteArray} {es:List (AV×AV)} {v:Value} (ht:R2 C.P t=some z) (hl:σ.heap[l]? =some (.map es)) (hs:K6 es=true)
 (hv:nO (C.env φ σ.heap w) (.map l) v): ∃u,∃_:Unit,(bl t v (.string s) true).run C.P w= .ok u w∧nO (C.env φ σ.heap w) (lookV z l (yw s es)).val u:=by
 obtain ⟨kt,et,hu,hk,hz⟩:=YG ht
 obtain ⟨zv,hzr,hzE⟩:=tz1_run (w:=w) hz
 obtain ⟨r,xs,cl,hφ,hb,rR⟩:=S.objs l _ hl
 have hb:w.heap[r]? =some (.map xs cl):=hb
 obtain ⟨_,rfl,_⟩:=hv
 have hφ':(C.env φ σ.heap w).φ l= .map (some r):=hφ
 rw[hφ']
 have hck:=run_checkKey (P:=C.P) (w:=w) hk (d:= .string) (k:= .string s) trivial xs.isEmpty 9999
 rcases Yi (s:=s) (v:= .any) (u:=undef) (E:=C.env φ σ.heap w) trivial es xs.toList 0 hs rR with ⟨j,x,e,h1,h2,_,_,h5,_⟩|⟨h1,h2,_⟩
 ·refine ⟨.tuple #[e.val,.bool true],(),?_,by rw[h1];exact ⟨_,rfl,_,_,rfl,h5,_,_,rfl,rfl,rfl⟩⟩
  simp [bl,run_underlying hu,run_getObj_map hb,hck,run_findKey hk h2,aR]
 ·refine ⟨.tuple #[zv,.bool false],(),?_,by rw[h1];exact ⟨_,rfl,_,_,rfl,hzE _,_,_,rfl,rfl,rfl⟩⟩
  simp [bl,run_underlying hu,run_getObj_map hb,hck,run_findKey hk h2,hzr,aR]
theorem Rj (S:mA C φ σ a w) {t:TypeId} {z:AV} {l:Nat} {s:ByteArray} {es:List (AV×AV)} {v u:Value} {y:AV} (ht:R2 C.P t=some z) (hl:σ.heap[l]? =some (.map es)) (hs:K6 es=true)
 (hv:nO (C.env φ σ.heap w) (.map l) v) (hy:nO (C.env φ σ.heap w) y u): ∃w',(b8 t v (.string s) u).run C.P w= .ok () w'∧mA C φ {σ with heap:=σ.heap.set l (.map (JA s y es))} a w':=by
 obtain ⟨kt,et,hu,hk,hz⟩:=YG ht
 obtain ⟨r,xs,cl,hφ,hb,rR⟩:=S.objs l _ hl
 have hb:w.heap[r]? =some (.map xs cl):=hb
 obtain ⟨_,rfl,_⟩:=hv
 have hφ':(C.env φ σ.heap w).φ l= .map (some r):=hφ
 rw[hφ']
 have hck:=run_checkKey (P:=C.P) (w:=w) hk (d:= .string) (k:= .string s) trivial false 9999
 rcases Yi (s:=s) (v:=y) (u:=u) (E:=C.env φ σ.heap w) hy es xs.toList 0 hs rR with ⟨j,x,e,h1,h2,h3,h4,_,h6⟩|⟨h1,h2,h3⟩
 ·have hj:xs[j]? =some e:=by simpa using h3
  have h2':bB .string (.string s) xs.toList 0=some (some (j,e.val)):=by simpa using h2
  refine ⟨w.putObj r (.map (xs.modify j fun e=>{e with key:= .string s,val:=u}) cl),?_,S.setMap hl hφ hb ?_⟩
  ·simp [b8,run_underlying hu,run_getObj_map hb,hck,run_findKey hk h2',hj,h4,run_keyThatStays (d:= .string) (k:= .string s) trivial,run_setObj_map _ hb,aR,World.putObj]
  ·rw[Array.toList_modify];exact h6
 ·refine ⟨w.putObj r (.map (xs.push {key:= .string s,val:=u,born:=cl}) (cl+1)),?_,S.setMap hl hφ hb ?_⟩
  ·simp [b8,run_underlying hu,run_getObj_map hb,hck,run_findKey hk h2,run_setObj_map _ hb,aR,World.putObj]
  ·rw[Array.toList_push];exact h3 cl
end
end Go.Abs
namespace Go.Abs
section sound
variable {C:Ctx} {φ:Nat→Value} {σ:AState} {a:Act} {w:World}
theorem load_ptr (S:mA C φ σ a w) {t:TypeId} {g:Bool} {n l off:Nat} {cs:List AV} {x:AV} {v:Value} (ht:oQ C.P t=some (g,n)) (hl:σ.heap[l]? =some (.cells cs)) (hx:mg g n (cs.drop off)=some x)
 (r:nO (C.env φ σ.heap w) (.ptr l off) v): ∃u,(bh t v).run C.P w= .ok u w∧nO (C.env φ σ.heap w) x u:=by
 obtain ⟨_,b,hφ,rfl⟩:=r
 obtain ⟨b2,c,t2,hφ2,hh,rl,_⟩:=S.objs l _ hl
 have e:b2=b:=by simp only[Ctx.env] at hφ;rw[hφ] at hφ2;simpa using hφ2.symm
 subst e
 have hi:=JB (C:=C) (w:=w) ht
 obtain ⟨u,hu,ru⟩:=Qd (P:=C.P) (t:=t) (Yz hh rl off) hi.1 hi.2 hx
 exact ⟨u,by simpa [bh,aI,Ctx.env] using hu,ru⟩
theorem JC (S:mA C φ σ a w): ∀ {cs ds:List AV} {ns:List Nat} {vs:List Value},Vv σ.heap cs=some (ds,ns)→k6 (C.env φ σ.heap w) cs vs→k6 (C.env φ σ.heap w) ds vs
 |[],_,_,_,h,r=>by simp only[Vv,ah,aU] at h;obtain ⟨rfl,_⟩:=h;exact r
 |c::cs,ds,ns,vs,h,⟨u,us,hv,r1,r2⟩=>by
  unfold Vv at h
  split at h
  ·cases ‹_::_=[]›
  ·rename_i l n cs' heq
   simp only[bI] at heq
   obtain ⟨rfl,rfl⟩:=heq
   split at h
   ·rename_i pY sz rows hl
    split at h
    ·rename_i hn
     split at h
     ·rename_i es ms he
      simp only[ah,aU] at h
      obtain ⟨rfl,_⟩:=h
      cases pY with
      |false=>exact ⟨u,us,hv,r1,JC S he r2⟩
      |true=>
       have hu:=JU S hl hn r1
       subst hu
       exact ⟨_,us,hv,R5 S hl,JC S he r2⟩
     ·cases h
    ·cases h
   ·cases h
  ·rename_i c' cs' _ heq
   simp only[bI] at heq
   obtain ⟨rfl,rfl⟩:=heq
   split at h
   ·rename_i es ms he
    simp only[ah,aU] at h
    obtain ⟨rfl,_⟩:=h
    exact ⟨u,us,hv,r1,JC S he r2⟩
   ·cases h
theorem ldV_sound (S:mA C φ σ a w) {l:Nat} {v:AV} {e:u7} {u:Value} (h:ldV σ.heap l v=some e) (r:nO (C.env φ σ.heap w) v u):e.up=[]∧e.nw=[]∧e.pre=True∧nO (C.env φ σ.heap w) e.val u:=by
 unfold ldV at h
 split at h
 ·split at h
  ·rename_i ds ns he
   cases h
   obtain ⟨vs,hv,rl⟩:=r
   exact ⟨rfl,rfl,rfl,vs,hv,JC S he rl⟩
  ·cases h
 ·cases h
  exact ⟨rfl,rfl,rfl,r⟩
theorem load_pp {t:TypeId} {g:Bool} {n:Nat} {cs:List AV} {x:AV} {v:Value} (ht:oQ C.P t=some (g,n)) (hx:mg g n cs=some x)
 (r:nO (C.env φ σ.heap w) (.pp cs) v): ∃u,(bh t v).run C.P w= .ok u w∧nO (C.env φ σ.heap w) x u:=by
 obtain ⟨b,off,rfl,rm⟩:=r
 have hi:=JB (C:=C) (w:=w) ht
 obtain ⟨u,hu,ru⟩:=Qd (P:=C.P) (t:=t) (K7 rm) hi.1 hi.2 hx
 exact ⟨u,by simpa [bh,aI,Ctx.env] using hu,ru⟩
theorem L0 {α β:Type} {P:Program} {m:Sem α} {f:α→Sem β} {w:World} {x:α} {r:Result β} (h1:m.run P w= .ok x w) (h2:(f x).run P w=r):(m>>=f).run P w=r:=by
 rw[aj,h1];exact h2
theorem J7 {P:Program} {t t':TypeId} {u:Value} {x y:Operand} {w:World} (ht:tany P t=true):
 ((∀op,(eqGuard op t x y (.iface t' u) .nilIface).run P w= .ok () w)∧ ∀op,(eqGuard op t x y .nilIface .nilIface).run P w= .ok () w)∧
 ((binOp .eql t (.iface t' u) .nilIface).run P w= .ok (.bool false) w∧(binOp .neq t (.iface t' u) .nilIface).run P w= .ok (.bool true) w)∧
 (binOp .eql t .nilIface .nilIface).run P w= .ok (.bool true) w∧(binOp .neq t .nilIface .nilIface).run P w= .ok (.bool false) w:=by
 unfold tany at ht
 split at ht
 ·rename_i ms hu
  obtain ⟨d,hd⟩: ∃d,Op.maxDepth=d+1:=⟨_,rfl⟩
  have e1:(Op.equal t (.iface t' u) .nilIface).run P w= .ok false w:=by
   unfold Op.equal;rw[hd];simp only[Op.equalIn]
   exact L0 (run_underlying hu w) rfl
  have e2:(Op.equal t .nilIface .nilIface).run P w= .ok true w:=by
   unfold Op.equal;rw[hd];simp only[Op.equalIn]
   exact L0 (run_underlying hu w) rfl
  have key:(Op.eqGuardIn Op.maxDepth t .nilIface .nilIface).run P w= .ok false w:=by
   rw[hd];simp only[Op.eqGuardIn]
   refine L0 (run_underlying hu w) ?_
   simp [ht]
  have g1: ∀op,(eqGuard op t x y (.iface t' u) .nilIface).run P w= .ok () w:=by
   intro op;unfold eqGuard;split<;>rfl
  have hg: ∀op,(eqGuard op t x y .nilIface .nilIface).run P w= .ok () w:=by
   intro op
   cases op<;>first
    |rfl
    |(simp only[eqGuard,Bool.not_true,aP,if_false]
      cases x<;>cases y<;>first
       |rfl
       |(rw[if_neg (by simp)];exact L0 key rfl))
  exact ⟨⟨g1,hg⟩,⟨L0 e1 rfl,L0 e1 rfl⟩,L0 e2 rfl,L0 e2 rfl⟩
 ·cases ht
theorem nil_run {P:Program} {E:Env} {op:BinOp} {t:TypeId} {x:AV} {y ox:Operand} {e:u7} {v:Value} {w:World} {a:Act} (h:Vu P op t x y=some e) (r:nO E x v):
 ∃b,a.eval y= .slice none 0 0∧(do eqGuard op t ox y v (.slice none 0 0);binOp op t v (.slice none 0 0):Sem Value).run P w= .ok (.bool b) w∧e={val:= .bool b}:=by
 have key: ∀ (base:Option Addr) (n c:Nat),(nU P t).isSome=true→(do eqGuard .eql t ox y (.slice base n c) (.slice none 0 0);binOp .eql t (.slice base n c) (.slice none 0 0):Sem Value).run P w= .ok (.bool base.isNone) w:=by
  intro base n c ht
  obtain ⟨e',he'⟩: ∃e',P.underlying t=some (.slice e'):=by
   unfold nU at ht
   split at ht
   ·rename_i e' hu;exact ⟨e',hu⟩
   ·cases ht
  exact L0 rfl (Lib.run_eql_slice_nil w t e' base n c 0 0 he')
 unfold Vu at h
 split at h
 ·rename_i base n c
  split at h
  ·rename_i ht
   cases h
   have r:v=_:=r
   subst r
   exact ⟨_,rfl,key base n c ht,rfl⟩
  ·cases h
 ·split at h
  ·rename_i ht
   cases h
   obtain ⟨base,cap,rfl,h2,_,h4,_⟩:=r
   refine ⟨_,rfl,key base _ cap ht.2,?_⟩
   cases base with
   |none=>
    have h5:=h4 rfl
    subst h5
    have h6:=af (Nat.le_zero.1 h2)
    rw[h6] at ht
    exact absurd ht.1 (by simp)
   |some a=>rfl
  ·cases h
 ·cases h
theorem mV.take {E:Env} {b:Nat}: ∀ {cs:List AV} {off:Nat} (k:Nat),mV E b off cs→mV E b off (cs.take k)
 |[],_,_,_=>by simp [mV]
 |_::_,_,0,_=>by simp [mV]
 |_::_,_,k+1,⟨h,r⟩=>by
  rw[List.take_succ_cons]
  exact ⟨h,mV.take k r⟩
theorem YI {E:Env} {b sz:Nat}: ∀ {n:Nat} {cs ds:List AV} {off:Nat},Yw sz n cs=some ds→mV E b off cs→mV E b (off+n*sz) ds
 |0,cs,ds,off,h,r=>by
  simp only[Yw] at h
  split at h
  ·cases h;simpa using mV.take sz r
  ·cases h
 |n+1,cs,ds,off,h,r=>by
  have:=YI (n:=n) h (r.drop sz)
  have e:off+sz+n*sz=off+(n+1)*sz:=by rw[Nat.succ_mul];omega
  rw[←e];exact this
theorem Nx (S:mA C φ σ a w) {o:Oper} {e:u7} (h:lA C.P σ o.op=some e) (hp:e.pre):wg C σ a w o.dst ((execOp a.eval o).run C.P w) e:=by
 cases ho:o.op with
 |move x=>
  rw[ho] at h
  cases h
  refine wg.of_eq ?_ (lC (rd:=[]) (p:=True) (m:=pure (a.eval x)) S ⟨_,rfl,S.ev x⟩)
  simp [execOp,ho]
 |assign x=>
  rw[ho] at h
  cases h
  refine wg.of_eq ?_ (lC (rd:=[]) (p:=True) (m:=pure (a.eval x)) S ⟨_,rfl,S.ev x⟩)
  simp [execOp,ho]
 |pick c x y=>
  rw[ho] at h
  have hc:=S.ev c
  simp only[lA] at h
  split at h
  ·rename_i b hb
   rw[hb] at hc
   simp only[nO] at hc
   cases h
   refine wg.of_eq ?_ (lC (rd:=[]) (p:=True) (m:=pure (bif b then a.eval x else a.eval y)) S ⟨_,rfl,?_⟩)
   ·cases b<;>simp [execOp,ho,hc,asBool]
   ·cases b
    ·exact S.ev y
    ·exact S.ev x
  ·cases h
 |alloc t=>
  rw[ho] at h
  simp only[lA] at h
  split at h
  ·rename_i z hz
   cases h
   obtain ⟨v,hv,hr,hone⟩:=Uu (w:=w) hz
   refine does_name (c:=v.cells) (t:=t) S ?_ (hr _) hone
   simp only[execOp,ho,Instr.alloc,aj,hv,aa,newVar,newRow,run_newObj,av]
   rfl
  ·cases h
 |box t x=>
  rw[ho] at h
  simp only[lA] at h
  split at h
  ·rename_i cs hc
   cases h
   refine does_name (c:=(a.eval x).cells) (t:=t) S ?_ (FI hc (S.ev x)).1 (FI hc (S.ev x)).2
   simp only[execOp,ho,Instr.box,aj,aa,newVar,newRow,run_newObj,av]
   rfl
  ·cases h
 |build t parts=>
  rw[ho] at h
  simp only[lA] at h
  split at h
  ·rename_i z hb hz
   split at h
   ·rename_i cs hf
    cases h
    refine wg.of_eq ?_ (lC (rd:=[]) (p:=True) S (build_sound S hb hz hf))
    simp [execOp,ho]
   ·cases h
  ·cases h
 |buildSlice t len parts=>
  rw[ho] at h
  simp only[lA] at h
  split at h
  ·rename_i et sz by' ht
   split at h
   ·rename_i z hz
    split at h
    ·rename_i hc
     split at h
     ·rename_i rows hr
      cases hlit:litF t (Yv (parts.toList.map (·.2))) with
      |true=>
       rw[hlit] at h
       cases h
       refine wg.of_eq ?_ (V1 S ht hz hc hr)
       simp [execOp,ho]
      |false=>
      rw[hlit] at h
      cases h
      obtain ⟨v,c,hrun,rR⟩:=WN S ht hz hc hr
      refine does_more S (o:= .cells c et) (by intro c' t' lo hi h;cases h;exact ⟨rfl,rfl⟩) (v:=v) ?_ rR
      simp [execOp,ho,hrun]
     ·cases h
    ·cases h
   ·cases h
  ·cases h
 |load t x=>
  rw[ho] at h
  have hx:=S.ev x
  simp only[lA] at h
  split at h
  ·rename_i g n l off ht hp'
   rw[hp'] at hx
   split at h
   ·rename_i cs hl
    split at h
    ·rename_i v hv
     obtain ⟨u,hu,ru⟩:=load_ptr S ht hl hv hx
     obtain ⟨h1,h2,h3,h4⟩:=ldV_sound S h ru
     obtain ⟨val,rd,up,nw,pre⟩:=e
     simp only at h1 h2 h3 h4
     subst h1 h2 h3
     refine wg.of_eq ?_ (lC (rd:=rd) (p:=True) S ⟨u,hu,h4⟩)
     simp [execOp,ho]
    ·cases h
   ·cases h
  ·rename_i g n cs ht hp'
   rw[hp'] at hx
   split at h
   ·rename_i v hv
    cases h
    refine wg.of_eq ?_ (lC (rd:=[]) (p:=True) S (load_pp ht hv hx))
    simp [execOp,ho]
   ·cases h
  ·rename_i g n l i m o' sz ht hp'
   rw[hp'] at hx
   split at h
   ·rename_i sz' rows hl
    split at h
    ·rename_i hc
     obtain ⟨rfl,hm⟩:=hc
     split at h
     ·rename_i r hr
      split at h
      ·rename_i v hv
       cases h
       refine wg.of_eq ?_ (lC (rd:=[l]) (p:=True) S (load_own S ht hl hm hr hv hx))
       simp [execOp,ho]
      ·cases h
     ·cases h
    ·cases h
   ·cases h
  ·rename_i n rv ht hp'
   rw[hp'] at hx
   simp only[nO] at hx
   unfold Yx at h
   split at h
   case h_2=>cases h
   rename_i b o'
   split at h
   ·rename_i k hk
    rw[Option.bind_eq_some_iff] at h
    obtain ⟨m,hm,h⟩:=h
    cases h
    obtain ⟨hd,hkv⟩:=ktab_ok hk hm
    obtain ⟨v,hc,hv,_⟩:=S.know b o' hd
    have:=hkv v hv
    subst this
    have hi:=JB (C:=C) (w:=w) ht
    refine wg.of_eq ?_ (lC (rd:=[]) (p:=True) (m:=bh t (a.eval x)) S ⟨.int k m,?_,rfl⟩)
    ·simp [execOp,ho]
    ·rw[hx]
     have hM:MemAt (C.env φ σ.heap w) b o' [.int k m]:=⟨[.int k m],⟨_,_,rfl,rfl,rfl⟩,fun j u hj=>by
      cases j with
      |zero=>simp at hj;subst hj;exact hc
      |succ j=>simp at hj⟩
     obtain ⟨u,hu,ru⟩:=Qd (P:=C.P) (t:=t) hM hi.1 hi.2 (x:= .int k m) rfl
     have ru:u= .int k m:=ru
     subst ru
     simpa [bh,aI,Ctx.env] using hu
   ·cases h
  ·cases h
 |store t x y=>
  rw[ho] at h
  have hx:=S.ev x
  simp only[lA] at h
  split at h
  ·rename_i g n l off ys ht hp' hc
   rw[hp'] at hx
   split at h
   ·rename_i cs hl
    split at h
    ·rename_i hcond
     cases h
     obtain ⟨hr,h1⟩:=FI hc (S.ev y)
     obtain ⟨w',hrun,hS⟩:=store_sound S ht hl hr h1 hcond.1 hcond.2 hx
     refine ⟨.skip,undef,w',φ,?_,.inr ⟨rfl,rfl⟩,?_⟩
     ·simp [execOp,ho,hrun]
     ·rw[YC];exact hS.put _ trivial
    ·cases h
   ·cases h
  ·rename_i g n l i m o' sz ys ht hp' hc
   rw[hp'] at hx
   split at h
   ·rename_i sz' rows hl
    split at h
    ·rename_i hcc
     obtain ⟨rfl,hm⟩:=hcc
     split at h
     ·rename_i r hr'
      split at h
      ·rename_i hcond
       cases h
       obtain ⟨hr,h1⟩:=FI hc (S.ev y)
       obtain ⟨w',hrun,hS⟩:=store_own S ht hl hm hr' hr h1 hcond.1 hcond.2 hx
       refine ⟨.skip,undef,w',φ,?_,.inr ⟨rfl,rfl⟩,?_⟩
       ·simp [execOp,ho,hrun]
       ·rw[YC];exact hS.put _ trivial
      ·cases h
     ·cases h
    ·cases h
   ·cases h
  ·cases h
 |nilCheck x=>
  rw[ho] at h
  have hx:=S.ev x
  simp only[lA] at h
  split at h
  ·rename_i l off hp'
   rw[hp'] at hx
   cases h
   obtain ⟨hl,b,hb,hv⟩:=hx
   refine wg.of_eq ?_ (lC (rd:=[]) (p:=True) (m:=pure (a.eval x)) S ⟨_,rfl,hl,b,hb,hv⟩)
   simp [execOp,ho,hv]
  ·rename_i cs hp'
   rw[hp'] at hx
   cases h
   obtain ⟨b,off,hv,hm⟩:=hx
   refine wg.of_eq ?_ (lC (rd:=[]) (p:=True) (m:=pure (a.eval x)) S ⟨_,rfl,b,off,hv,hm⟩)
   simp [execOp,ho,hv]
  ·rename_i f fs cs hp'
   rw[hp'] at hx
   cases h
   obtain ⟨f',c',hv,r1,r2⟩:=hx
   refine wg.of_eq ?_ (lC (rd:=[]) (p:=True) (m:=pure (a.eval x)) S ⟨_,rfl,f',c',hv,r1,r2⟩)
   simp [execOp,ho,hv]
  ·cases h
 |binOp op t x y ty=>
  rw[ho] at h
  simp only[lA] at h
  split at h
  ·rename_i v hv
   cases h
   refine wg.of_eq ?_ (lC (rd:=[]) (p:=True) S (binAV_sound (t:=t) (ox:=x) (oy:=y) (w:=w) hv (S.ev x) (S.ev y)))
   simp [execOp,ho]
  ·have hx:=S.ev x
   have hy:=S.ev y
   unfold eqEff at h
   split at h
   ·rename_i e' he
    have hq:=nil_run (a:=a) (w:=w) (ox:=x) he hx
    cases h
    obtain ⟨b,hb,hv,he2⟩:=hq
    subst he2
    refine wg.of_eq ?_ (lC (rd:=[]) (p:=True) (m:=(do eqGuard op t x y (a.eval x) (a.eval y);binOp op t (a.eval x) (a.eval y):Sem Value)) S ⟨.bool b,?_,rfl⟩)
    ·simp [execOp,ho]
    ·rw[hb];exact hv
   rename_i hnE
   clear hnE
   unfold WL at h
   split at h
   ·rename_i cs ds h1 h2 _
    cases h
    rw[h1] at hx
    rw[h2] at hy
    obtain ⟨vs,hvs,r1⟩:=hx
    obtain ⟨us,YA,r2⟩:=hy
    refine wg.of_eq ?_ (lC (rd:=[]) (p:=Yu C.P t cs ds) S ⟨.bool (eqB cs ds),(hp _ vs us w x y r1 r2).1,rfl⟩)
    simp [execOp,ho,hvs,YA]
   ·rename_i cs ds h1 h2 _
    cases h
    rw[h1] at hx
    rw[h2] at hy
    obtain ⟨vs,hvs,r1⟩:=hx
    obtain ⟨us,YA,r2⟩:=hy
    refine wg.of_eq ?_ (lC (rd:=[]) (p:=Yu C.P t cs ds) S ⟨.bool (!eqB cs ds),(hp _ vs us w x y r1 r2).2,rfl⟩)
    simp [execOp,ho,hvs,YA]
   ·rename_i p q h1 h2 _
    split at h
    ·rename_i ht
     cases h
     rw[h1] at hx
     rw[h2] at hy
     simp only[nO] at hx hy
     refine wg.of_eq ?_ (lC (rd:=[]) (p:=True) (m:=pure (.bool (p==q))) S ⟨_,rfl,rfl⟩)
     simp [execOp,ho,hx,hy,tbl_guard,tbl_eq ht]
    ·cases h
   ·rename_i p q h1 h2 _
    split at h
    ·rename_i ht
     cases h
     rw[h1] at hx
     rw[h2] at hy
     simp only[nO] at hx hy
     refine wg.of_eq ?_ (lC (rd:=[]) (p:=True) (m:=pure (.bool (!(p==q)))) S ⟨_,rfl,rfl⟩)
     simp [execOp,ho,hx,hy,tbl_guard,tbl_ne ht]
    ·cases h
   all_goals first
    |(cases h;done)
    |skip
   ·rename_i t' z h1 h2 _
    split at h
    ·rename_i ht
     cases h
     rw[h1] at hx
     rw[h2] at hy
     obtain ⟨u,hx,_⟩:=hx
     have hy:a.eval y= .nilIface:=hy
     refine wg.of_eq ?_ (lC (rd:=[]) (p:=True) (m:=pure (.bool false)) S ⟨_,rfl,rfl⟩)
     simp [execOp,ho,hx,hy,(J7 (w:=w) (t':=t') (u:=u) (x:=x) (y:=y) ht).1.1,(J7 (w:=w) (t':=t') (u:=u) (x:=x) (y:=y) ht).2.1.1]
    ·cases h
   ·rename_i t' z h1 h2 _
    split at h
    ·rename_i ht
     cases h
     rw[h1] at hx
     rw[h2] at hy
     obtain ⟨u,hx,_⟩:=hx
     have hy:a.eval y= .nilIface:=hy
     refine wg.of_eq ?_ (lC (rd:=[]) (p:=True) (m:=pure (.bool true)) S ⟨_,rfl,rfl⟩)
     simp [execOp,ho,hx,hy,(J7 (w:=w) (t':=t') (u:=u) (x:=x) (y:=y) ht).1.1,(J7 (w:=w) (t':=t') (u:=u) (x:=x) (y:=y) ht).2.1.2]
    ·cases h
   ·rename_i h1 h2 _
    split at h
    ·rename_i ht
     cases h
     rw[h1] at hx
     rw[h2] at hy
     have hx:a.eval x= .nilIface:=hx
     have hy:a.eval y= .nilIface:=hy
     refine wg.of_eq ?_ (lC (rd:=[]) (p:=True) (m:=pure (.bool true)) S ⟨_,rfl,rfl⟩)
     simp [execOp,ho,hx,hy,(J7 (w:=w) (t':=t) (u:=undef) (x:=x) (y:=y) ht).1.2,(J7 (w:=w) (t':=t) (u:=undef) (x:=x) (y:=y) ht).2.2.1]
    ·cases h
   ·rename_i h1 h2 _
    split at h
    ·rename_i ht
     cases h
     rw[h1] at hx
     rw[h2] at hy
     have hx:a.eval x= .nilIface:=hx
     have hy:a.eval y= .nilIface:=hy
     refine wg.of_eq ?_ (lC (rd:=[]) (p:=True) (m:=pure (.bool false)) S ⟨_,rfl,rfl⟩)
     simp [execOp,ho,hx,hy,(J7 (w:=w) (t':=t) (u:=undef) (x:=x) (y:=y) ht).1.2,(J7 (w:=w) (t':=t) (u:=undef) (x:=x) (y:=y) ht).2.2.2]
    ·cases h
 |unOp op t x=>
  rw[ho] at h
  have hx:=S.ev x
  simp only[lA] at h
  split at h
  ·rename_i b hb
   rw[hb] at hx
   simp only[nO] at hx
   cases h
   refine wg.of_eq ?_ (lC (rd:=[]) (p:=True) (m:=pure (.bool !b)) S ⟨_,rfl,rfl⟩)
   simp [execOp,ho,hx,Op.unary]
  ·rename_i k n hb
   rw[hb] at hx
   simp only[nO] at hx
   cases h
   refine wg.of_eq ?_ (lC (rd:=[]) (p:=True) (m:=pure (.int k (k.wrap (0-n)))) S ⟨_,rfl,rfl⟩)
   simp [execOp,ho,hx,Op.unary,Op.intArith]
  ·rename_i k n hb
   rw[hb] at hx
   simp only[nO] at hx
   cases h
   refine wg.of_eq ?_ (lC (rd:=[]) (p:=True) (m:=Op.intBits .xor k (if k.signed then-1 else k.max) n) S ⟨_,rfl,rfl⟩)
   simp [execOp,ho,hx,Op.unary]
  ·cases h
 |convert s d x=>
  rw[ho] at h
  have hx:=S.ev x
  simp only[lA] at h
  split at h
  ·rename_i v hv
   rw[hv] at hx
   simp only[nO] at hx
   split at h
   ·rename_i hc
    simp only[aY] at hc
    cases h
    refine wg.of_eq ?_ (lC (rd:=[]) (p:=True) (m:=pure (.string v)) S ⟨_,rfl,rfl⟩)
    simp [execOp,ho,hx,convert,run_underlying (Uv hc.1),run_underlying (Uv hc.2)]
   ·cases h
  ·rename_i k n hv
   rw[hv] at hx
   simp only[nO] at hx
   split at h
   ·rename_i k1 k2 h1 h2
    cases h
    refine wg.of_eq ?_ (lC (rd:=[]) (p:=True) (m:=pure (.int k2 (k2.wrap n))) S ⟨_,rfl,rfl⟩)
    simp [execOp,ho,hx,convert,run_underlying (tint_eq h1),run_underlying (tint_eq h2),Conv.intToInt]
   ·rename_i k1 h1 h2
    split at h
    ·rename_i hs
     cases h
     refine wg.of_eq ?_ (lC (rd:=[]) (p:=True) (m:=pure (.string (Utf8.encode n))) S ⟨_,rfl,rfl⟩)
     simp [execOp,ho,hx,convert,run_underlying (tint_eq h1),run_underlying (Uv hs),Conv.intToString]
    ·cases h
   ·cases h
  ·cases h
 |makeInterface t x=>
  rw[ho] at h
  simp only[lA] at h
  split at h
  ·rename_i hc
   cases h
   refine wg.of_eq ?_ (lC (rd:=[]) (p:=True) (m:=pure (.iface t (a.eval x))) S ⟨_,rfl,_,rfl,S.ev x⟩)
   unfold qU at hc
   cases hu:C.P.underlying t with
   |none=>simp [hu] at hc
   |some d=>
    simp only[hu] at hc
    cases d<;>simp_all [execOp,Instr.makeInterface,run_underlying hu]
  ·cases h
 |makeFunc fn f c=>
  rw[ho] at h
  cases h
  refine wg.of_eq ?_ (lC (rd:=[]) (p:=True) (m:=Instr.makeFunc fn (f.map a.eval) (c.map a.eval)) S ⟨_,rfl,_,_,rfl,?_,?_⟩)
  ·simp [execOp,ho,Instr.makeFunc]
  ·simpa using GA S f.toList
  ·simpa using GA S c.toList
 |makeSlice t x y=>
  rw[ho] at h
  have hx:=S.ev x
  have hy:=S.ev y
  simp only[lA] at h
  split at h
  ·rename_i et sz by' n m ht hx' hy'
   rw[hx'] at hx
   rw[hy'] at hy
   simp only[nO] at hx hy
   split at h
   ·rename_i z hz
    split at h
    ·rename_i hc
     obtain ⟨h1,h2,h3,rfl⟩:=hc
     cases h
     refine wg.of_eq ?_ (XP S ht hz ⟨h1,h2,h3⟩ hp)
     simp [execOp,ho,hx,hy]
    ·cases h
   ·cases h
  ·cases h
 |slice t x lo hi mx=>
  rw[ho] at h
  have hx:=S.ev x
  simp only[lA] at h
  have hex:(execOp a.eval o).run C.P w=(do pure (.value (←bA t (a.eval x) (lo.map a.eval) (hi.map a.eval) (mx.map a.eval))):Sem Next).run C.P w:=by
   simp [execOp,ho]
  refine wg.of_eq hex ?_
  split at h
  ·rename_i et sz by' ht
   split at h
   ·cases h
   ·rename_i hmx
    have hmx':(mx.isSome&&hi.isNone)=false:=(Bool.not_eq_true _).mp hmx
    unfold VY at h
    split at h
    ·rename_i tt sz' rows hv
     rw[hv] at hx
     split at h
     ·rename_i l hh m h1 h2 h3
      split at h
      ·rename_i hc
       cases h
       exact lC S (slice_lst S ht h1 h2 h3 hc.1 hc.2 hmx' hx)
      ·cases h
     ·cases h
    ·rename_i k n hv
     rw[hv] at hx
     split at h
     ·rename_i sz' rows hl
      split at h
      ·rename_i l hh m h1 h2 h3
       split at h
       ·rename_i hc
        obtain ⟨rfl,hn,hc⟩:=hc
        cases h
        have hvv:=JU S hl hn hx
        have:=slice_lst (tt:=false) S ht h1 h2 h3 (.inl rfl) hc hmx' (R5 S hl)
        rw[←hvv] at this
        exact lC S this
       ·cases h
      ·cases h
     ·cases h
    ·cases h
  ·split at h
   ·rename_i s ht hv
    rw[hv] at hx
    simp only[nO] at hx
    split at h
    ·rename_i l hh h1 h2
     split at h
     ·rename_i hc
      cases h
      exact lC S ⟨_,by rw[hx];exact slice_str S ht h1 h2 hc,rfl⟩
     ·cases h
    ·cases h
   ·cases h
 |fieldAddr t x i=>
  rw[ho] at h
  have hx:=S.ev x
  simp only[lA] at h
  have hex:(execOp a.eval o).run C.P w=(do pure (.value (←aV t (a.eval x) i)):Sem Next).run C.P w:=by
   simp [execOp,ho]
  refine wg.of_eq hex ?_
  split at h
  ·rename_i f u l off hf hv
   cases h
   exact lC S ((K8 S hf hx).1 l off hv)
  ·rename_i f u cs hf hv
   cases h
   exact lC S ((K8 S hf hx).2.1 cs hv)
  ·rename_i f u l j m o' sz hf hv
   cases h
   exact lC S ((K8 S hf hx).2.2 l j m o' sz hv)
  ·cases h
 |field t x i=>
  rw[ho] at h
  have hx:=S.ev x
  simp only[lA] at h
  split at h
  ·rename_i f u cs hf hv
   rw[hv] at hx
   split at h
   ·rename_i g n ht
    split at h
    ·rename_i v hl
     cases h
     obtain ⟨vs,hvs,rl⟩:=hx
     obtain ⟨fs,fd,j,hu,hfi,hj,_,rfl,rfl⟩:=foff_eq hf
     have hi:=JB (C:=C) (w:=w) ht
     refine wg.of_eq ?_ (lC (rd:=[]) (p:=True) S (part_sound hi.1 hi.2 rl hl))
     simp [execOp,ho,hvs,Instr.field,run_underlying hu,hfi,asAgg]
    ·cases h
   ·cases h
  ·cases h
 |indexAddr t x i=>
  rw[ho] at h
  have hx:=S.ev x
  have hi:=S.ev i
  simp only[lA] at h
  have hex:(execOp a.eval o).run C.P w=(do pure (.value (←aW t (a.eval x) (a.eval i))):Sem Next).run C.P w:=by
   simp [execOp,ho]
  refine wg.of_eq hex ?_
  split at h
  ·rename_i et sz by' ht
   split at h
   ·rename_i tt sz' rows k n hv hn
    rw[hv] at hx
    rw[hn] at hi
    simp only[nO] at hi
    split at h
    ·rename_i hc
     obtain ⟨rfl,hc⟩:=hc
     split at h
     ·rename_i r hr
      cases h
      have:=U4 (k:=k) ht hc hr hx
      rw[←hi] at this
      exact lC S this
     ·cases h
    ·cases h
   ·rename_i l m k n hv hn
    rw[hv] at hx
    rw[hn] at hi
    simp only[nO] at hi
    split at h
    ·rename_i sz' rows hl
     split at h
     ·rename_i hc
      obtain ⟨rfl,hc,hm⟩:=hc
      split at h
      ·rename_i r hr
       cases h
       have:=aac (k:=k) S ht hc hl hm hr hx
       rw[←hi] at this
       exact lC S this
      ·cases h
     ·cases h
    ·rename_i sz' rows hl
     split at h
     ·rename_i hc
      obtain ⟨rfl,hc,hm,hlt⟩:=hc
      cases h
      obtain ⟨hu,ti,hti,rfl,rfl⟩:=Mh ht
      have hv':=JU S hl hm hx
      obtain ⟨base,cap,hh,h2,h3,h4,h5⟩:=S.objs l _ hl
      have hsz:(sizeOf et).run C.P w= .ok ti.size w:=by simp [sizeOf,typeInfo,hti]
      cases base with
      |none=>have:=h3 rfl;omega
      |some b=>
       obtain ⟨hsp,_⟩:=h5 b rfl (by omega)
       have hb:b=⟨b.block,b.off,none⟩:=by cases b;simp_all
       refine lC S ⟨.pointer (some ⟨b.block,b.off+n.toNat*ti.size,none⟩),?_,hx.1,⟨_,rfl⟩,?_⟩
       ·rw[hi,hv',hh]
        have hlt':0≤n∧n<(rows.length:Int):=⟨hc,by omega⟩
        simp only[aW,asIntOf,aj,av,aa,run_underlying hu,hlt',and_self,if_true,hsz]
        rw[hb,add_plain]
       ·intro k' hk'
        simp only[Ctx.env,hl,lN,ah] at hk'
        refine ⟨by omega,fun _=>⟨b.block,b.off,rows.length,cap,?_,rfl⟩⟩
        simp only[Ctx.env]
        rw[hh,←hb]
     ·cases h
    ·cases h
   ·cases h
  ·split at h
   ·rename_i len sz ht
    split at h
    ·rename_i l off k n hv hn
     rw[hv] at hx
     rw[hn] at hi
     simp only[nO] at hi
     split at h
     ·rename_i hc
      cases h
      unfold tarr at ht
      split at ht
      ·rename_i n' e hu
       split at ht
       ·rename_i ti hti
        simp only[ah,aU] at ht
        obtain ⟨rfl,rfl⟩:=ht
        obtain ⟨hl,b,hb,hv'⟩:=hx
        have hsz:(sizeOf e).run C.P w= .ok ti.size w:=by simp [sizeOf,typeInfo,hti]
        refine lC S ⟨.pointer (some ⟨b,off+n.toNat*ti.size,none⟩),?_,hl,b,hb,rfl⟩
        rw[hi,hv']
        simp only[aW,asIntOf,aj,av,aa,run_underlying hu,aI,hc,and_self,if_true,hsz]
        rw[add_plain]
       ·cases ht
      ·cases ht
     ·cases h
    ·rename_i cs k n hv hn
     rw[hv] at hx
     rw[hn] at hi
     simp only[nO] at hi
     split at h
     ·rename_i hc
      rw[Option.bind_eq_some_iff] at h
      obtain ⟨ds,hd,he⟩:=h
      obtain rfl:=Option.some.inj he
      unfold tarr at ht
      split at ht
      ·rename_i n' e hu
       split at ht
       ·rename_i ti hti
        simp only[ah,aU] at ht
        obtain ⟨rfl,rfl⟩:=ht
        obtain ⟨b,off,hv',rm⟩:=hx
        have hsz:(sizeOf e).run C.P w= .ok ti.size w:=by simp [sizeOf,typeInfo,hti]
        refine lC S ⟨.pointer (some ⟨b,off+n.toNat*ti.size,none⟩),?_,b,_,rfl,YI hd rm⟩
        rw[hi,hv']
        simp only[aW,asIntOf,aj,av,aa,run_underlying hu,aI,hc,and_self,if_true,hsz]
        rw[add_plain]
       ·cases ht
      ·cases ht
     ·cases h
    ·rename_i b off k n hv hn
     rw[hv] at hx
     rw[hn] at hi
     simp only[nO] at hi hx
     split at h
     ·rename_i hc
      cases h
      unfold tarr at ht
      split at ht
      ·rename_i n' e hu
       split at ht
       ·rename_i ti hti
        simp only[ah,aU] at ht
        obtain ⟨rfl,rfl⟩:=ht
        have hsz:(sizeOf e).run C.P w= .ok ti.size w:=by simp [sizeOf,typeInfo,hti]
        refine lC S ⟨.pointer (some ⟨b,off+n.toNat*ti.size,none⟩),?_,rfl⟩
        rw[hi,hx]
        simp only[aW,asIntOf,aj,av,aa,run_underlying hu,aI,hc,and_self,if_true,hsz]
        rw[add_plain]
       ·cases ht
      ·cases ht
     ·cases h
    ·cases h
   ·cases h
 |index t x i=>
  rw[ho] at h
  have hx:=S.ev x
  have hi:=S.ev i
  simp only[lA] at h
  split at h
  ·rename_i s k n ht hv hn
   rw[hv] at hx
   rw[hn] at hi
   simp only[nO] at hi hx
   split at h
   ·rename_i hc
    split at h
    ·rename_i b hb
     cases h
     refine wg.of_eq ?_ (lC (rd:=[]) (p:=True) (m:=pure (.int .u8 b.toNat)) S ⟨_,rfl,rfl⟩)
     simp [execOp,ho,hx,hi,Instr.index,asIntOf,run_underlying (Uv ht),hc,hb]
    ·cases h
   ·cases h
  ·cases h
 |extract x i=>
  rw[ho] at h
  have hx:=S.ev x
  simp only[lA] at h
  split at h
  ·rename_i vs hv
   rw[hv] at hx
   split at h
   ·rename_i v hi
    cases h
    obtain ⟨us,hu,rl⟩:=hx
    obtain ⟨u,hu',ru⟩:=rl.get hi
    refine wg.of_eq ?_ (lC (rd:=[]) (p:=True) (m:=pure u) S ⟨_,rfl,ru⟩)
    have:us[i]? =some u:=by simpa using hu'
    simp [execOp,ho,hu,Instr.extract,this]
   ·cases h
  ·cases h
 |call c=>
  obtain ⟨cl,args,ts⟩:=c
  cases cl with
  |builtin b=>
   rw[ho] at h
   exact aad S ho h hp
  |value f=>rw[ho] at h;cases h
  |invoke r m=>rw[ho] at h;cases h
 |makeMap t r=>
  rw[ho] at h
  cases r with
  |some r=>cases h
  |none=>
   cases h
   have S':=S.nameMap
   refine ⟨.value (.map (some w.heap.size)),.map (some w.heap.size),World.more w (.map #[] 0),(fun l=>if l=σ.heap.length then .map (some w.heap.size) else φ l),?_,.inl rfl,?_⟩
   ·simp [execOp,ho,Instr.makeMap,newObj,Sem.run,World.more]
   ·rw[WO]
    refine S'.put _ ⟨by simp [Ctx.env],by simp [Ctx.env],w.heap.size,by simp [Ctx.env,hdl]⟩
 |typeAssert x u t ok=>
  rw[ho] at h
  cases ok with
  |false=>cases h
  |true=>
   have hx:=S.ev x
   simp only[lA] at h
   unfold tasEff at h
   split at h
   ·rename_i t' z hx'
    split at h
    ·rename_i hc
     obtain ⟨rfl,hc⟩:=hc
     cases h
     rw[hx'] at hx
     obtain ⟨q,hq,hr⟩:=hx
     refine wg.of_eq ?_ (lC (rd:=[]) (p:=True) (m:=pure (.tuple #[q,.bool true])) S ⟨_,rfl,_,rfl,_,_,rfl,hr,_,_,rfl,rfl,rfl⟩)
     unfold qU at hc
     cases hu:C.P.underlying t' with
     |none=>simp [hu] at hc
     |some d=>
      simp only[hu] at hc
      cases d<;>simp_all [execOp,Instr.typeAssert,run_underlying hu]
    ·cases h
   ·cases h
 |lookup t x k ok=>
  rw[ho] at h
  cases ok with
  |true=>
   have hx:=S.ev x
   have hk:=S.ev k
   simp only[lA] at h
   split at h
   ·rename_i z l s ht hx' hk'
    rw[hx'] at hx
    rw[hk'] at hk
    have hk:a.eval k= .string s:=hk
    unfold WM at h
    split at h
    ·rename_i es hl
     split at h
     ·rename_i hs
      cases h
      obtain ⟨u,b,hrun,rR⟩:=YH (s:=s) S ht hl hs hx
      have hv:lookV z l (yw s es)={val:=(lookV z l (yw s es)).val,rd:=[l]}:=by cases yw s es<;>rfl
      rw[hv]
      refine wg.of_eq ?_ (lC (p:=True) (m:=bl t (a.eval x) (a.eval k) true) S ⟨u,by rw[hk];exact hrun,rR⟩)
      simp [execOp,ho]
     ·cases h
    ·cases h
   ·cases h
  |false=>
   have hx:=S.ev x
   have hk:=S.ev k
   simp only[lA] at h
   split at h
   ·rename_i z l s ht hx' hk'
    rw[hx'] at hx
    rw[hk'] at hk
    have hk:a.eval k= .string s:=hk
    unfold Us at h
    split at h
    ·rename_i es hl
     split at h
     ·rename_i hs
      cases h
      obtain ⟨u,hrun,rR⟩:=lookup_sound (s:=s) S ht hl hs hx
      refine wg.of_eq ?_ (lC (p:=True) (m:=bl t (a.eval x) (a.eval k) false) S ⟨u,by rw[hk];exact hrun,rR⟩)
      simp [execOp,ho]
     ·cases h
    ·cases h
   ·cases h
 |range t x=>
  rw[ho] at h
  have hx:=S.ev x
  simp only[lA] at h
  split at h
  ·rename_i s ht hv
   rw[hv] at hx
   simp only[nO] at hx
   cases h
   have S':=S.nameIter s
   refine ⟨.value (.pointer (some ⟨w.heap.size,0,none⟩)),.pointer (some ⟨w.heap.size,0,none⟩),World.more w (.stringIter s 0),(fun l=>if l=σ.heap.length then .pointer (some ⟨w.heap.size,0,none⟩) else φ l),?_,.inl rfl,?_⟩
   ·simp [execOp,ho,hx,Instr.range,run_underlying (Uv ht),newObj,Sem.run,World.more,aR]
   ·rw[WO]
    refine S'.put _ ⟨by simp [Ctx.env],w.heap.size,by simp [Ctx.env],rfl⟩
  ·cases h
 |next x st=>
  rw[ho] at h
  cases st with
  |false=>cases h
  |true=>
   have hx:=S.ev x
   simp only[lA] at h
   split at h
   ·rename_i l hv
    rw[hv] at hx
    obtain ⟨u,w',hrun,rR,hS,hn⟩:=next_sound (ty:=o.type) S h hx
    refine ⟨.value u,u,w',φ,?_,.inl rfl,?_⟩
    ·simp [execOp,ho,hrun]
    ·have:=hS.put o.dst rR
     cases hd:o.dst<;>simpa [AState.app,AState.put,hn,hd] using this
   ·cases h
 |mapUpdate t x k y=>
  rw[ho] at h
  have hx:=S.ev x
  have hk:=S.ev k
  simp only[lA] at h
  split at h
  ·rename_i z l s ht hx' hk'
   rw[hx'] at hx
   rw[hk'] at hk
   have hk:a.eval k= .string s:=hk
   unfold mapUpEff at h
   split at h
   ·rename_i es hl
    split at h
    ·rename_i hs
     cases h
     obtain ⟨w',hrun,hS⟩:=Rj (s:=s) S ht hl hs hx (S.ev y)
     refine ⟨.skip,undef,w',φ,?_,.inr ⟨rfl,rfl⟩,?_⟩
     ·simp [execOp,ho,hk,hrun]
     ·rw[YC];exact hS.put _ trivial
    ·cases h
   ·cases h
  ·cases h
 |insert t x k y=>
  rw[ho] at h
  have hx:=S.ev x
  have hk:=S.ev k
  simp only[lA] at h
  split at h
  ·rename_i z l s ht hx' hk'
   rw[hx'] at hx
   rw[hk'] at hk
   have hk:a.eval k= .string s:=hk
   unfold mapUpEff at h
   split at h
   ·rename_i es hl
    split at h
    ·rename_i hs
     cases h
     obtain ⟨w',hrun,hS⟩:=Rj (s:=s) S ht hl hs hx (S.ev y)
     refine ⟨.skip,undef,w',φ,?_,.inr ⟨rfl,rfl⟩,?_⟩
     ·simp [execOp,ho,hk,hrun]
     ·rw[YC];exact hS.put _ trivial
    ·cases h
   ·cases h
  ·cases h
 |_=>rw[ho] at h;cases h
end sound
end Go.Abs
namespace Go.Abs
inductive mX where
 |normal
 |exit (id:Nat)
 |goto (l:Nat)
 |ret
 |panic (x:AV)
inductive ud where
 |ret (r:AV)
 |panic (x:AV)
def ud.rep (E:Env):ud→Ending→Prop
 | .ret r,.returned v=>nO E r v
 | .panic x,.panicked chain=> ∃v,chain=[{v,recovered:=false}]∧nO E x v
 |_,_=>False
def enters (P:Program) (f:FuncId):Bool:=
 match P.funcs[f]? with
 |some fn=>fn.body.isSome&&fn.name != "runtime.NumGoroutine"
 |none=>false
def yO (P:Program) (f:FuncId) (args:List AV) (σ:AState) (K:ud→List AObj→Prop):Prop:=
 enters P f=true∧ ∀ (C:Ctx) (φ:Nat→Value) (a:Act) (w:World),C.P=P→mA C φ σ a w→ ∀vs:Array Value,k6 (C.env φ σ.heap w) args vs.toList→
  Calls P f vs w fun e w'=> ∃o φ' H',K o H'∧mA C φ' {σ with heap:=H'} a w'∧o.rep (C.env φ' H' w') e
def Gk (σ σ':AState):Prop:= ∀ (C:Ctx) (φ:Nat→Value) (a:Act) (w:World),mA C φ σ a w→ ∃φ',mA C φ' σ' a w
theorem Gk.refl (σ:AState):Gk σ σ:=fun _ φ _ _ S=>⟨φ,S⟩
theorem Gk.trans {σ σ' σ'':AState} (h:Gk σ σ') (h':Gk σ' σ''):Gk σ σ'':=fun C φ a w S=>
 let ⟨φ',S'⟩:=h C φ a w S
 h' C φ' a w S'
def mN (σ:AState):Op→Option (FuncId×List AV)
 | .call {callee:= .value f,args,..}=>match σ.ev f with
   | .func (.func fid) first cap=>some (fid,first++args.toList.map σ.ev++cap)
   |_=>none
 |_=>none
def yieldOf (σ:AState):Op→Option (Nat×List AV)
 | .call {callee:= .value f,args,..}=>match σ.ev f with
   | .map l=>some (l,args.toList.map σ.ev)
   |_=>none
 |_=>none
def Ck (σ:AState):Op→Option (FuncId×List AV)
 | .defer {callee:= .value f,args,..}=>match σ.ev f with
   | .func (.func fid) first cap=>some (fid,first++args.toList.map σ.ev++cap)
   |_=>none
 |_=>none
def Lw (σ:AState):Op→Option AV
 | .panic x=>match σ.ev x with
   | .iface t y=>some (.iface t y)
   |_=>none
 |_=>none
def AState.dfr (σ:AState) (p:FuncId×List AV) (dst:Option Tmp):AState:={σ with df:=p::σ.df}.put dst (.raw undef)
def Hq (ro:Option Nat):Fence:={Fence.wide with round:=ro}
theorem J8 {ro:Option Nat} {n:Nat} {P:Program} {f:FuncId} {args:Array Value} {w:World} {R:Ending→World→Prop}:CallsIn (Hq ro) n P f args w R↔Calls P f args w R:=by
 rw[←callsIn_wide (n:=n)]
 exact Iff.rfl
theorem fence_round {ro:Option Nat} {n:Nat} {P:Program} {l:Nat} {f:FuncId} {tmps:Array Value} {as body:Code} {w:World} {R:Ending→World→Prop}:RoundIn (Hq ro) n P l f tmps as body w R↔RoundIn Fence.wide n P l f tmps as body w R:=Iff.rfl
def R8 (P:Program) (h:Value) (w:World) (vs:Array Value) (R:Ending→World→Prop):Prop:=
 ∀ (D:Nat) (rec:Loop),h= .func (.yield (D+1)) #[] #[]→w.heap[D+1]? =some (.loop rec)→
   RoundIn Fence.wide 0 P (D+1) rec.fn ((rec.params.zip vs).foldl (fun tmps (t,a)=>tmps.setIfInBounds t a) rec.tmps) rec.assign rec.body w R
def JD (P:Program) (l:Nat) (args:List AV) (σ:AState) (K:ud→List AObj→Prop):Prop:=
 (∃k slots st sk,σ.heap[l]? =some (.loop k slots st sk)∧args.length=k.ps.size)∧ ∀ (C:Ctx) (φ:Nat→Value) (a:Act) (w:World),C.P=P→mA C φ σ a w→ ∀vs:Array Value,k6 (C.env φ σ.heap w) args vs.toList→
   R8 P (φ l) w vs fun e w'=> ∃o φ' H',K o H'∧mA C φ' {σ with heap:=H'} a w'∧o.rep (C.env φ' H' w') e
def oR (ops:Array Oper) (o:Oper) (σ:AState):Option Bool:=
 match o.guard with
 |none=>some true
 |some (j,want)=>match (ops[j]?).bind (·.dst) with
  |some d=>match σ.slots[d]? with
   |some (.bool b)=>some (b==want)
   |some (.raw (.tuple _))=>some false
   |_=>none
  |none=>none
def N5 (P:Program) (ops:Array Oper):List Oper→(mX→AState→Prop)→AState→Prop
 |[],Q,σ=>Q .normal σ
 |o::rest,Q,σ=>match oR ops o σ with
  |none=>False
  |some b=>(b=true→match mN σ o.op with
    |some (f,args)=>yO P f args σ fun o' H'=>match o' with
     | .ret r=>N5 P ops rest Q (AState.put {σ with heap:=H'} o.dst r)
     | .panic x=>Q (.panic x) {σ with heap:=H'}
    |none=>match yieldOf σ o.op with
     |some (l,args)=>JD P l args σ fun o' H'=>match o' with
      | .ret r=>N5 P ops rest Q (AState.put {σ with heap:=H'} o.dst r)
      | .panic _=>False
     |none=>match lA P σ o.op with
      |some e=>e.pre∧N5 P ops rest Q (σ.app o.dst e)
      |none=>match Ck σ o.op with
       |some p=>N5 P ops rest Q (σ.dfr p o.dst)
       |none=>match Lw σ o.op with
        |some x=>Q (.panic x) σ
        |none=>False)∧
   (b=false→N5 P ops rest Q (σ.put o.dst (.raw undef)))
def QC (C:Ctx) (Q:mX→AState→Prop):Exit→Act→World→Prop
 | .normal,a,w=> ∃φ σ,mA C φ σ a w∧Q .normal σ
 | .exit id,a,w=> ∃φ σ,mA C φ σ a w∧Q (.exit id) σ
 | .goto l,a,w=> ∃φ σ,mA C φ σ a w∧Q (.goto l) σ
 | .ret,a,w=> ∃φ σ,mA C φ σ a w∧Q .ret σ
 | .panic chain,a,w=> ∃φ σ x v,mA C φ σ a w∧Q (.panic x) σ∧chain=[{v,recovered:=false}]∧nO (C.env φ σ.heap w) x v
 | .outgrown,_,_=>False
section sound
variable {C:Ctx} {φ:Nat→Value} {σ:AState} {a:Act} {w:World}
theorem Az (S:mA C φ σ a w) {ops:Array Oper} {o:Oper} {b:Bool} (h:oR ops o σ=some b):Region.wanted o (yielded ops a.tmps)=b:=by
 unfold oR at h
 unfold Region.wanted
 split at h
 ·rename_i hg;rw[hg];simpa using h
 ·rename_i j want hg
  rw[hg]
  split at h
  ·rename_i d hd
   have hy:yielded ops a.tmps j=match a.tmps[d]? with|some (.bool b)=>some b|_=>none:=by
    unfold yielded;rw[hd];rfl
   split at h
   ·rename_i b' hs
    obtain ⟨v,hv,r⟩:=S.slots.get hs
    simp only[nO] at r
    subst r
    have:a.tmps[d]? =some (.bool b'):=by simpa using hv
    simp only[hy,this]
    cases h
    cases b'<;>cases want<;>rfl
   ·rename_i vs hs
    obtain ⟨v,hv,r⟩:=S.slots.get hs
    simp only[nO] at r
    subst r
    have:a.tmps[d]? =some (.tuple vs):=by simpa using hv
    simp only[hy,this]
    cases h
    rfl
   ·cases h
  ·cases h
theorem L1 (S:mA C φ σ a w) {o:Oper} {f:FuncId} {args:List AV} (h:mN σ o.op=some (f,args)) (hf:enters C.P f=true):
 ∃vs:Array Value,(execOp a.eval o).run C.P w= .ok (.enter f vs) w∧k6 (C.env φ σ.heap w) args vs.toList:=by
 unfold mN at h
 split at h
 ·rename_i x xs ts ho
  split at h
  ·rename_i fid first cap hv
   cases h
   have hx:=S.ev x
   rw[hv] at hx
   obtain ⟨f',c',hx,r1,r2⟩:=hx
   refine ⟨f'++xs.map a.eval++c',?_,?_⟩
   ·unfold enters at hf
    split at hf
    ·rename_i fn hfn
     simp only[aY,bne_iff_ne,ne_eq] at hf
     have hnone:fn.body≠none:=by intro hb;simp [hb] at hf
     simp [execOp,ho,resolve,hx,Deferred.ofValue,invoke,callFunc,hfn,hf.2,hnone]
    ·cases hf
   ·simp only[cD,bW]
    exact (r1.append (GA S xs.toList)).append r2
  ·cases h
 ·cases h
theorem Ny {σ:AState} {o:Op} {q:FuncId×List AV} (h:mN σ o=some q): ∀c,o≠ .defer c:=by
 rintro c rfl;simp [mN] at h
theorem yieldOf_op {σ:AState} {o:Op} {q:Nat×List AV} (h:yieldOf σ o=some q): ∀c,o≠ .defer c:=by
 rintro c rfl;simp [yieldOf] at h
theorem opEff_op {P:Program} {σ:AState} {o:Op} {e:u7} (h:lA P σ o=some e): ∀c,o≠ .defer c:=by
 rintro c rfl;simp [lA] at h
theorem yieldOf_run (S:mA C φ σ a w) {o:Oper} {l D:Nat} {args:List AV} {rec:Loop} (h:yieldOf σ o.op=some (l,args)) (hφ:φ l= .func (.yield (D+1)) #[] #[]) (hw:w.heap[D+1]? =some (.loop rec)) (hn:args.length=rec.params.size):
 ∃vs:Array Value,(execOp a.eval o).run C.P w= .ok (.round (D+1) rec.fn ((rec.params.zip vs).foldl (fun tmps (t,a)=>tmps.setIfInBounds t a) rec.tmps) rec.assign rec.body) w∧k6 (C.env φ σ.heap w) args vs.toList:=by
 unfold yieldOf at h
 split at h
 ·rename_i x xs ts ho
  split at h
  ·rename_i l' hv
   cases h
   have hx:=S.ev x
   rw[hv] at hx
   obtain ⟨_,hx,_⟩:=hx
   have hx':a.eval x= .func (.yield (D+1)) #[] #[]:=hx.trans hφ
   refine ⟨xs.map a.eval,?_,?_⟩
   ·have hy:=run_yield (P:=C.P) (args:=xs.map a.eval) hw (by simpa using hn)
    simp [execOp,ho,resolve,hx',Deferred.ofValue,invoke,hy]
   ·simp only[bW]
    exact GA S xs.toList
  ·cases h
 ·cases h
theorem panOf_op {σ:AState} {o:Op} {q:AV} (h:Lw σ o=some q): ∀c,o≠ .defer c:=by
 rintro c rfl;simp [Lw] at h
def isDefer:Op→Bool
 | .defer _=>true
 |_=>false
theorem deferOf_run (S:mA C φ σ a w) {o:Oper} {p:FuncId×List AV} (h:Ck σ o.op=some p):
 ∃d:Deferred,(execOp a.eval o).run C.P w= .ok (.defer d) w∧VX d=false∧ ∃cap,d.target= .fn (.func p.1) cap∧k6 (C.env φ σ.heap w) p.2 (d.args++cap).toList:=by
 unfold Ck at h
 split at h
 ·rename_i x xs ts ho
  split at h
  ·rename_i fid first cap hv
   cases h
   have hx:=S.ev x
   rw[hv] at hx
   obtain ⟨f',c',hx,r1,r2⟩:=hx
   refine ⟨{target:= .fn (.func fid) c',args:=f'++xs.map a.eval},?_,rfl,c',rfl,?_⟩
   ·simp [execOp,ho,resolve,hx,Deferred.ofValue]
   ·simp only[cD,bW]
    exact (r1.append (GA S xs.toList)).append r2
  ·cases h
 ·cases h
theorem panOf_run (S:mA C φ σ a w) {o:Oper} {x:AV} (h:Lw σ o.op=some x): ∃v,(execOp a.eval o).run C.P w= .halt (.panic v) w∧nO (C.env φ σ.heap w) x v:=by
 unfold Lw at h
 split at h
 ·rename_i y ho
  split at h
  ·rename_i t z hv
   cases h
   have hx:=S.ev y
   rw[hv] at hx
   obtain ⟨u,hu,r⟩:=hx
   refine ⟨.iface t u,?_,u,rfl,r⟩
   simp [execOp,ho,hu,Instr.panic]
  ·cases h
 ·cases h
theorem mA.dfr (S:mA C φ σ a w) {p:FuncId×List AV} {d:Deferred} {cap:Array Value} {dst:Option Tmp} (hm:VX d=false) (hd:d.target= .fn (.func p.1) cap) (hr:k6 (C.env φ σ.heap w) p.2 (d.args++cap).toList):
 mA C φ (σ.dfr p dst) ({a with defers:=d::a.defers}.put dst undef) w:=by
 have S1:mA C φ {σ with df:=p::σ.df} {a with defers:=d::a.defers} w:=by
  refine {S with slots:=S.slots,defers:=⟨?_,?_,?_⟩}
  ·simp only[List.filter_cons,hm,aP,if_false];exact S.defers.1
  ·intro d' hd' hm'
   rcases bz.1 hd' with rfl|hd'
   ·rw[hm] at hm';cases hm'
   ·exact S.defers.2.1 d' hd' hm'
  ·simp only[List.filter_cons,hm,cj,if_true]
   exact ⟨d,_,cap,rfl,hd,hr,S.defers.2.2⟩
 exact S1.put dst rfl
theorem V2 {ro:Option Nat} {P:Program} (hP:C.P=P) {ops:Array Oper} {Q:mX→AState→Prop}: ∀ (rest:List Oper) (k:Nat),(ro=none∨rest.all (fun o=> !isDefer o.op)=true)→ops.toList.drop k=rest→ ∀ (φ:Nat→Value) (σ:AState) (a:Act) (w:World),
 N5 P ops rest Q σ→mA C φ σ a w→wpOpsIn (Hq ro) 0 P ops (QC C Q) (List.range' k rest.length) a w
 |[],k,_,_,φ,σ,a,w,h,S=>⟨φ,σ,S,h⟩
 |o::rest,k,hro,hk,φ,σ,a,w,h,S=>by
  have ho:ops[k]? =some o:=by
   have:=congrArg (fun l:List Oper=>l[0]?) hk
   simpa using this
  have wR:ops.toList.drop (k+1)=rest:=by
   have:=congrArg bY hk
   simpa [cg] using this
  have ih:=V2 (ro:=ro) hP (Q:=Q) rest (k+1) (hro.imp id fun h=>by rw[cv,aY] at h;exact h.2) wR
  simp only[aN,List.range'_succ,wpOpsIn,ho]
  simp only[N5] at h
  split at h
  ·exact h.elim
  ·rename_i b hb
   rw[Az S hb]
   cases b with
   |false=>
    simp only[aP,if_false]
    exact ⟨fun _ _=>trivial,ih φ _ _ w (h.2 rfl) (S.put o.dst rfl)⟩
   |true=>
    simp only[if_true]
    have h:=h.1 rfl
    split at h
    ·rename_i f args hc
     obtain ⟨he,ya⟩:=h
     subst hP
     obtain ⟨vs,hrun,hr⟩:=L1 S hc he
     refine ⟨fun _ _=>trivial,?_⟩
     rw[Oper.semAt_eq _ _ _ (Ny hc),hrun,Oper.uponIn_enter]
     refine ⟨fun h=>by simp [Hq,Fence.wide] at h,J8.2 ?_⟩
     refine (ya C φ a w rfl S vs hr).mono fun e w' ⟨o',φ',H',hK,S',rR⟩=> ?_
     cases o' with
     |ret r=>
      cases e with
      |returned v=>exact ih φ' _ _ w' hK (S'.put o.dst rR)
      |panicked chain=>exact rR.elim
      |outgrown=>exact rR.elim
     |panic x=>
      cases e with
      |returned v=>exact rR.elim
      |panicked chain=>
       obtain ⟨v,hc,hr⟩:=rR
       exact ⟨φ',_,x,v,S',hK,hc,hr⟩
      |outgrown=>exact rR.elim
    ·split at h
     ·rename_i l args hy
      obtain ⟨⟨k,slots,st,sk,hl,hn⟩,ya⟩:=h
      subst hP
      obtain ⟨D,rec,hφ,hw1,hw2,N6,rl⟩:=S.objs l _ hl
      obtain ⟨vs,hrun,hr⟩:=yieldOf_run S hy hφ hw1 (by rw[N6.1];exact hn)
      refine ⟨fun _ _=>trivial,?_⟩
      rw[Oper.semAt_eq _ _ _ (yieldOf_op hy),hrun,Oper.uponIn_round]
      refine ⟨fun h=>by simp [Hq,Fence.wide] at h,fence_round.2 ?_⟩
      refine (ya C φ a w rfl S vs hr D rec hφ hw1).mono fun e w' ⟨o',φ',H',hK,S',rR⟩=> ?_
      cases o' with
      |ret r=>
       cases e with
       |returned v=>exact ih φ' _ _ w' hK (S'.put o.dst rR)
       |panicked chain=>exact rR.elim
       |outgrown=>exact rR.elim
      |panic x=>exact hK.elim
     ·split at h
      ·rename_i e he
       obtain ⟨n,v,w',φ',hr,hn,S'⟩:=Nx S (hP ▸ he) h.1
       refine ⟨fun _ _=>trivial,?_⟩
       rw[←hP,Oper.semAt_eq _ _ _ (opEff_op he),hr]
       rcases hn with rfl|⟨rfl,rfl⟩
       ·rw[Oper.uponIn_value,hP];exact ih φ' _ _ w' h.2 S'
       ·rw[Oper.uponIn_skip,hP];exact ih φ' _ _ w' h.2 S'
      ·split at h
       ·rename_i p hd
        obtain ⟨d,hrun,hm,cap,htar,hr⟩:=deferOf_run S hd
        have hro':ro=none:=by
         rcases hro with hro|hro
         ·exact hro
         ·rw[cv,aY] at hro
          unfold Ck at hd
          split at hd
          ·rename_i ho'
           rw[ho'] at hro
           cases hro.1
          ·cases hd
        subst hro'
        refine ⟨fun _ _=>trivial,?_⟩
        have hsem:Oper.semAt (Hq none).round a.eval o=execOp a.eval o:=Oper.semAt_none _ _
        rw[hsem,←hP,hrun,Oper.uponIn_defer,hP]
        exact ih φ _ _ w h (S.dfr hm htar hr)
       ·split at h
        ·rename_i x hx
         obtain ⟨v,hrun,hr⟩:=panOf_run S hx
         refine ⟨fun _ _=>trivial,?_⟩
         rw[←hP,Oper.semAt_eq _ _ _ (panOf_op hx),hrun,Oper.uponIn_panic]
         exact ⟨φ,σ,x,v,S,h,rfl,hr⟩
        ·exact h.elim
end sound
end Go.Abs
