/- A part of the proof: abstract states and the rules for them. -/
import Derived.KernelRfl
import Derived.Calls
import Derived.Orders
import Derived.Laws.Sem
import Derived.Laws.CopyRow
import Derived.Laws.Cells
import Derived.Laws.Small
import Derived.RangeFuncRecord
import Derived.MapKept
import Derived.Lib.SliceRun
import Derived.Scope
import Derived.Deep.LoopGhost
import Derived.OrdersIn
set_option linter.all false
open Go.Op renaming operands → aa,bytesLess → bW
open Nat renaming lt_of_lt_of_le → ae,mul_le_mul_right → ar,le_refl → au,add_mul → ax,le_trans → bz,not_lt_zero → bF,add_assoc → bQ,sub_self → bY,one_mul → bZ
open Go.Result renaming andThen_ok → af,andThen → aA
open List renaming eq_nil_of_length_eq_zero → ah,getElem?_eq_some_iff → ak,replicate → am,getElem?_append_left → aw,flatten_cons → aC,mem_append → aF,mem_cons → aG,map_congr_left → aK,getElem?_cons_zero → aL,getElem?_set_self → aP,append_assoc → aQ,drop_drop → aR,getD_eq_getElem?_getD → aW,drop_take → aY,length_cons → a8,take_left' → bb,drop_left' → bc,drop_append_of_le_length → bi,flatten_append → bl,tail_drop → bn,map_cons → bq,getElem?_append_right → br,all_eq_true → bw,length_take → bA,getElem?_eq_getElem → bD,getElem?_cons_succ → bE,drop_of_length_le → bH,take_take → bI,getElem?_toArray → bJ,length_replicate → bM,mem_cons_of_mem → bN,mem_of_getElem? → bO,range → bP,take_add → bS,replicate_succ → bU
open Go.Sem renaming run_bind → ai,run_pure → aq
open Option.some renaming injEq → aj
open Go.Builtin renaming firstCells → an,append_ → ap,nextslicecap → be,zeroCells → bt,len_ → bB,growBy → bL,lenOf → bR
open Go.Instr renaming sureAddr → av,sliceBound → ay,sliceBounds → aD,indexAt → aH,buildSlice → aI,loadAt → aJ,fieldAt → aN,sliceAt → aT,findNow → aV,lookup → aX,makeSlice → bf,storeAt → bp,mapUpdate → bG,sameNow → bT
open Bool renaming false_eq_true → az,and_eq_true → aS,or_eq_true → bh,not_false → bK
open List.cons renaming injEq → aB
open Prod.mk renaming injEq → aE
open Option renaming bind_eq_some_iff → aM,isSome_none → bX
open Go.Oper renaming semAt_eq → aO,uponIn_enter → bu
open Array renaming getElem?_eq_some_iff → aU,length_toList → bj,range → bo,toList_map → bC,toList_append → bV
open Go.Fence renaming wide → aZ
namespace Go.Abs
variable {a:Act}{parts:Array (Nat×Operand)}{c us:Array Value}{g tt:Bool}{s:ByteArray}{R:Ending->World->Prop}{f:FuncId}{k:IntKind}{ds:List Deferred}{rd:List Nat}{b i j l n off:Nat}{φ φ':Nat->Value}{o or':Oper}{ox:Operand}{base:Option Addr}{ro:Option Nat}{hi lo:Option Operand}{dst:Option Tmp}{P:Program}{p:Prop}{α β:Type}{d:TypeDesc}{t ty:TypeId}{h h' u v:Value}{w w':World}
theorem jM {α:Sort _} (a b:α):cond true a b=a:=rfl
theorem jN {α:Sort _} (a b:α):cond false a b=b:=rfl
theorem jO [Decidable p] (h:p):decide p=true:=decide_eq_true h
theorem jP [Decidable p] (h:¬p):decide p=false:=decide_eq_false h
def jQ [Decidable p] (h:decide p=true):p:=of_decide_eq_true h
theorem jR [Decidable p]:(decide p=true)=p:=decide_eq_true_eq
theorem jS {α:Type _} [BEq α] [LawfulBEq α] {a b:α}:(a==b)=true↔a=b:=beq_iff_eq
theorem jT {α:Type _} [BEq α] [LawfulBEq α] {a b:α}:(a==b)=false↔a≠b:=beq_eq_false_iff_ne
def jU {α:Sort _} {_:Decidable True} (t e:α):(if True then t else e)=t:=if_true t e
def jV {α:Sort _} {a b:α} (h:a=b:=by kernel_rfl):a=b:=h
def adI(o:Nat):Int:=if o=32\/(9<=o/\o<=13) then 1 else 0
def arF(o:Nat):Option Int:=if o<256 then some (adI o) else none
def auZ(b o:Nat):Prop:=(b=1/\o=0)\/(b=0/\o<256)
def au0(b o:Nat)(v:Value):Prop:=(b=1-> ∃m,v= .int .i64 m)/\(b=0->v= .int .u8 (adI o))
def ayd(t k:Nat):Bool:=bif t==26 then(bif k==5 then false else true) else bif t==27 then(bif k==5 then false else true) else bif t==78 then(bif k==98 then false else bif k==24 then false else bif k==11 then false else bif k==34 then false else bif k==25 then false else true) else true
def au1(t k:Nat):Bool:=bif t==78 then(bif k==24 then true else bif k==11 then true else bif k==34 then true else bif k==25 then true else false) else bif t==27 then(bif k==46 then true else bif k==9 then true else false) else bif t==25 then(bif k==100 then true else false) else false
def au2(b:Nat):Option IntKind:=if b=0 then some .u8 else none
def aoG(b o:Nat):Option Int:=if b=0 then arF o else none
def au3 {o:Nat}{n:Int}(h:au2 b=some k)(h2:aoG b o=some n):auZ b o/\ ∀v,au0 b o v->v= .int k n:=by
 unfold au2 at h;split at h
 ·rename_i hb;cases h;unfold aoG at h2;rw[if_pos hb] at h2;unfold arF at h2;split at h2
  ·rename_i ho;cases h2;exact⟨.inr ⟨hb,ho⟩,fun v hv=>hv.2 hb⟩
  ·cases h2
 ·cases h
def ajl(w:World)(M:Nat->Nat->Prop):Prop:= ∀b o,auZ b o-> ∃v,w.cell? ⟨b,o,none⟩=some v/\au0 b o v/\ ¬ M b o
inductive AV where
 |any
 |bool (b:Bool)
 |int (k:IntKind) (n:Int)
 |str (s:ByteArray)
 |raw (v:Value)
 |agg (cs:List AV)
 |FI (cs:List AV)
 |mb (tight:Bool) (sz:Nat) (rows:List (List AV))
 |acc (l n:Nat)
 |own (l off len cap sz:Nat)
 |ptr (l off:Nat)
 |map (l:Nat)
 |pp (cs:List AV)
 |func (fn:Fn) (first captured:List AV)
 |iface (t:TypeId) (x:AV)
variable {x y:AV}{es:List (AV×AV)}{df:List (FuncId×List AV)}{rows ys:List (List AV)}{args cs r z:List AV}
instance:Inhabited AV:=⟨.any⟩
structure Env where
 w:World
 mu:Nat->Nat->Prop
 φ:Nat->Value
 ln:Nat->Option Nat
 n:Nat
variable {E E':Env}
def hdl:Value->Option Nat
 | .map r=>r
 | .func (.yield r) _ _=>some r
 |_=>none
mutual
def n8(E:Env):AV->Value->Prop
 | .any,_=>True
 | .bool b,v=>v= .bool b
 | .int k n,v=>v= .int k n
 | .str s,v=>v= .string s
 | .raw u,v=>v=u
 | .agg cs,v=> ∃vs:Array Value,v= .agg vs/\kC E cs vs.toList
 | .FI cs,v=> ∃vs:Array Value,v= .tuple vs/\kC E cs vs.toList
 | .mb t sz rows,v=> ∃base cap,v= .slice base rows.length cap/\rows.length<=cap/\(t=true->cap=rows.length)/\(base=none->cap=0)/\
     (∀a,base=some a->(rows≠[]->a.spot=none))/\(∀a,base=some a->mU E sz a.block a.off rows)
 | .acc l n,v=>l<E.n/\(∃b m c,v= .slice b m c)/\ ∀k,E.ln l=some k->n<=k/\(n=k->v=E.φ l)
 | .own l i n o sz,v=>l<E.n/\(∃a,v= .pointer (some a))/\ ∀k,E.ln l=some k->n<=k/\(n=k-> ∃b off m c,E.φ l= .slice (some ⟨b,off,none⟩) m c/\v= .pointer (some ⟨b,off+i*sz+o,none⟩))
 | .ptr l off,v=>l<E.n/\ ∃b,E.φ l= .pointer (some ⟨b,0,none⟩)/\v= .pointer (some ⟨b,off,none⟩)
 | .map l,v=>l<E.n/\v=E.φ l/\ ∃r,hdl (E.φ l)=some r
 | .pp cs,v=> ∃b off,v= .pointer (some ⟨b,off,none⟩)/\ni E b off cs
 | .func fn f c,v=> ∃f' c':Array Value,v= .func fn f' c'/\kC E f f'.toList/\kC E c c'.toList
 | .iface t x,v=> ∃u,v= .iface t u/\n8 E x u
def kC(E:Env):List AV->List Value->Prop
 |[],vs=>vs=[]
 |c::cs,vs=> ∃u us,vs=u::us/\n8 E c u/\kC E cs us
def ni(E:Env)(b off:Nat):List AV->Prop
 |[]=>True
 |c::cs=>(¬ E.mu b off/\ ∃u,E.w.cell? ⟨b,off,none⟩=some u/\u.oneCell'=true/\n8 E c u)/\ni E b (off+1) cs
def mU(E:Env)(sz b off:Nat):List (List AV)->Prop
 |[]=>True
 |r::rs=>r.length=sz/\ni E b off r/\mU E sz b (off+sz) rs
end
structure Env.Le(N:Nat)(E E':Env):Prop where
 n:N<=E'.n
 names: ∀l,l<N->(E'.φ l=E.φ l/\(E'.ln l=E.ln l\/E'.ln l=none))\/
  ((∃k,E.ln l=some k/\ ∀k',E'.ln l=some k'->k<k')/\(∀a,E.φ l≠ .pointer a)/\hdl (E.φ l)=none)
 mem: ∀b o u,¬ E.mu b o->E.w.cell? ⟨b,o,none⟩=some u-> ¬ E'.mu b o/\E'.w.cell? ⟨b,o,none⟩=some u
mutual
def AV.nb(N:Nat):AV->Prop
 | .agg cs| .FI cs| .pp cs=>vK N cs
 | .mb _ _ rows=>MU N rows
 | .acc l _| .own l _ _ _ _| .ptr l _| .map l=>l<N
 | .func _ f c=>vK N f/\vK N c
 | .iface _ x=>x.nb N
 | .any| .bool _| .int _ _| .str _| .raw _=>True
def vK(N:Nat):List AV->Prop
 |[]=>True
 |c::cs=>c.nb N/\vK N cs
def MU(N:Nat):List (List AV)->Prop
 |[]=>True
 |r::rs=>vK N r/\MU N rs
end
section
variable {N:Nat}
mutual
def n8.mono(h:E.Le N E'): ∀(x:AV)(v:Value),x.nb N->n8 E x v->n8 E' x v
 | .any,_,_,_=>trivial
 | .bool _,_,_,r=>r
 | .int _ _,_,_,r=>r
 | .str _,_,_,r=>r
 | .raw _,_,_,r=>r
 | .agg cs,_,hb,⟨vs,hv,hr⟩=>⟨vs,hv,kC.mono h cs _ hb hr⟩
 | .FI cs,_,hb,⟨vs,hv,hr⟩=>⟨vs,hv,kC.mono h cs _ hb hr⟩
 | .mb _ _ rows,_,hb,⟨base,cap,h1,h2,h3,h4,h5,h6⟩=>⟨base,cap,h1,h2,h3,h4,h5,fun a ha=>mU.mono h rows _ hb (h6 a ha)⟩
 | .acc l n,v,hb,⟨_,ZH,r⟩=>by
   refine⟨ae hb h.n,ZH,fun k' hk'=> ?_⟩;rcases h.names l hb with⟨hφ,hl|hl⟩|⟨⟨k,hk,hlt⟩,_⟩
   ·rw[hl] at hk';rw[hφ];exact r k' hk'
   ·rw[hl] at hk';cases hk'
   ·have:=hlt k' hk';have:=r k hk;exact⟨by omega,fun e=>by omega⟩
 | .own l i n o sz,v,hb,⟨_,ZH,r⟩=>by
   refine⟨ae hb h.n,ZH,fun k' hk'=> ?_⟩;rcases h.names l hb with⟨hφ,hl|hl⟩|⟨⟨k,hk,hlt⟩,_⟩
   ·rw[hl] at hk';rw[hφ];exact r k' hk'
   ·rw[hl] at hk';cases hk'
   ·have:=hlt k' hk';have:=r k hk;exact⟨by omega,fun e=>by omega⟩
 | .ptr l off,v,hb,⟨_,b,hφ,hv⟩=>by
   refine⟨ae hb h.n,b,?_,hv⟩;rcases h.names l hb with⟨h1,_⟩|⟨_,h2,_⟩
   ·rw[h1];exact hφ
   ·exact absurd hφ (h2 _)
 | .map l,v,hb,⟨_,hv,r,hφ⟩=>by
   refine⟨ae hb h.n,?_,r,?_⟩
   all_goals rcases h.names l hb with⟨h1,_⟩|⟨_,_,h2⟩
   ·rw[h1];exact hv
   ·rw[h2] at hφ;cases hφ
   ·rw[h1];exact hφ
   ·rw[h2] at hφ;cases hφ
 | .pp cs,_,hb,⟨b,off,hv,r⟩=>⟨b,off,hv,ni.mono h cs _ hb r⟩
 | .func _ f c,_,hb,⟨f',c',hv,r1,r2⟩=>⟨f',c',hv,kC.mono h f _ hb.1 r1,kC.mono h c _ hb.2 r2⟩
 | .iface _ x,_,hb,⟨u,hv,r⟩=>⟨u,hv,n8.mono h x _ hb r⟩
def kC.mono(h:E.Le N E'): ∀(cs:List AV)(vs:List Value),vK N cs->kC E cs vs->kC E' cs vs
 |[],_,_,r=>r
 |c::cs,_,hb,⟨u,us,hv,r1,r2⟩=>⟨u,us,hv,n8.mono h c _ hb.1 r1,kC.mono h cs _ hb.2 r2⟩
def ni.mono(h:E.Le N E'){b:Nat}: ∀(cs:List AV)(off:Nat),vK N cs->ni E b off cs->ni E' b off cs
 |[],_,_,_=>trivial
 |c::cs,off,hb,⟨⟨hm,u,hu,h1,r1⟩,r2⟩=>
  let ⟨m,c'⟩:=h.mem b off u hm hu
  ⟨⟨m,u,c',h1,n8.mono h c _ hb.1 r1⟩,ni.mono h cs _ hb.2 r2⟩
def mU.mono(h:E.Le N E'){sz b:Nat}: ∀(rs:List (List AV))(off:Nat),MU N rs->mU E sz b off rs->mU E' sz b off rs
 |[],_,_,_=>trivial
 |r::rs,off,hb,⟨hl,r1,r2⟩=>⟨hl,ni.mono h r _ hb.1 r1,mU.mono h rs _ hb.2 r2⟩
end
mutual
theorem n8.nb: ∀(x:AV)(v:Value),n8 E x v->x.nb E.n
 | .any,_,_| .bool _,_,_| .int _ _,_,_| .str _,_,_| .raw _,_,_=>trivial
 | .agg cs,_,⟨_,_,hr⟩=>kC.nb cs _ hr
 | .FI cs,_,⟨_,_,hr⟩=>kC.nb cs _ hr
 | .mb _ _ rows,_,⟨base,cap,h1,h2,h3,h4,h5,h6⟩=>by
   cases base with
   |none=>
    have:rows.length=0:=by have:=h4 rfl;omega
    have:rows=[]:=ah this;subst this;trivial
   |some a=>exact mU.nb rows _ (h6 a rfl)
 | .acc _ _,_,⟨h,_⟩=>h
 | .own _ _ _ _ _,_,⟨h,_⟩=>h
 | .ptr _ _,_,⟨h,_⟩=>h
 | .map _,_,⟨h,_⟩=>h
 | .pp cs,_,⟨_,_,_,r⟩=>ni.nb cs _ r
 | .func _ f c,_,⟨_,_,_,r1,r2⟩=>⟨kC.nb f _ r1,kC.nb c _ r2⟩
 | .iface _ x,_,⟨_,_,r⟩=>n8.nb x _ r
theorem kC.nb: ∀(cs:List AV)(vs:List Value),kC E cs vs->vK E.n cs
 |[],_,_=>trivial
 |c::cs,_,⟨_,_,_,r1,r2⟩=>⟨n8.nb c _ r1,kC.nb cs _ r2⟩
theorem ni.nb{b:Nat}: ∀(cs:List AV)(off:Nat),ni E b off cs->vK E.n cs
 |[],_,_=>trivial
 |c::cs,_,⟨⟨_,_,_,_,r1⟩,r2⟩=>⟨n8.nb c _ r1,ni.nb cs _ r2⟩
theorem mU.nb{sz b:Nat}: ∀(rs:List (List AV))(off:Nat),mU E sz b off rs->MU E.n rs
 |[],_,_=>trivial
 |r::rs,_,⟨_,r1,r2⟩=>⟨ni.nb r _ r1,mU.nb rs _ r2⟩
end
mutual
def AV.ab4{M:Nat}(h:N<=M): ∀x:AV,x.nb N->x.nb M
 | .any,_| .bool _,_| .int _ _,_| .str _,_| .raw _,_=>trivial
 | .agg cs,r=>rn h cs r
 | .FI cs,r=>rn h cs r
 | .pp cs,r=>rn h cs r
 | .mb _ _ rows,r=>ahO h rows r
 | .acc _ _,r=>ae r h
 | .own _ _ _ _ _,r=>ae r h
 | .ptr _ _,r=>ae r h
 | .map _,r=>ae r h
 | .func _ f c,r=>⟨rn h f r.1,rn h c r.2⟩
 | .iface _ x,r=>AV.ab4 h x r
def rn{M:Nat}(h:N<=M): ∀cs:List AV,vK N cs->vK M cs
 |[],_=>trivial
 |c::cs,r=>⟨AV.ab4 h c r.1,rn h cs r.2⟩
def ahO{M:Nat}(h:N<=M): ∀rs:List (List AV),MU N rs->MU M rs
 |[],_=>trivial
 |r::rs,q=>⟨rn h r q.1,ahO h rs q.2⟩
end
end
section lists

theorem kC.length: ∀{cs:List AV}{vs:List Value},kC E cs vs->vs.length=cs.length
 |[],_,rfl=>rfl
 |_::_,_,⟨_,_,rfl,_,r2⟩=>by simp [kC.length r2]
def kC.get: ∀{cs:List AV}{vs:List Value}{i:Nat}{c:AV},kC E cs vs->cs[i]? =some c-> ∃v,vs[i]? =some v/\n8 E c v
 |c::cs,_,0,_,⟨u,us,rfl,r1,r2⟩,h=>by
  simp at h;subst h;exact⟨u,by simp,r1⟩
 |c::cs,_,i+1,_,⟨u,us,rfl,r1,r2⟩,h=>by
  simp at h;obtain⟨v,hv,r⟩:=kC.get r2 h;exact⟨v,by simpa using hv,r⟩
theorem kC.set: ∀{cs:List AV}{vs:List Value}{i:Nat}{c:AV}{v:Value},kC E cs vs->n8 E c v->kC E (cs.set i c) (vs.set i v)
 |[],_,_,_,_,rfl,_=>rfl
 |_::_,_,0,_,v,⟨_,us,rfl,_,r2⟩,r=>⟨v,us,rfl,r,r2⟩
 |_::_,_,i+1,_,v,⟨u,us,rfl,r1,r2⟩,r=>⟨u,us.set i v,rfl,r1,kC.set r2 r⟩
theorem kC.append: ∀{cs ds:List AV}{vs us:List Value},kC E cs vs->kC E ds us->kC E (cs++ds) (vs++us)
 |[],_,_,_,rfl,r=>r
 |_::_,_,_,_,⟨u,us,rfl,r1,r2⟩,r=>⟨u,us++_,rfl,r1,kC.append r2 r⟩
theorem kC.take: ∀{cs:List AV}{vs:List Value}(k:Nat),kC E cs vs->kC E (cs.take k) (vs.take k)
 |[],_,_,rfl=>by simp [kC]
 |_::_,_,0,_=>by simp [kC]
 |_::_,_,k+1,⟨u,us,rfl,r1,r2⟩=>⟨u,us.take k,by simp,r1,kC.take k r2⟩
theorem kC.drop: ∀{cs:List AV}{vs:List Value}(k:Nat),kC E cs vs->kC E (cs.drop k) (vs.drop k)
 |[],_,_,rfl=>by simp [kC]
 |_::_,_,0,h=>by simpa using h
 |_::_,_,k+1,⟨u,us,rfl,r1,r2⟩=>by simpa using kC.drop k r2
def kC.B4: ∀(vs:List Value),kC E (am vs.length .any) vs
 |[]=>rfl
 |v::vs=>⟨v,vs,rfl,trivial,kC.B4 vs⟩
theorem ni.drop: ∀{cs:List AV}{off:Nat}(k:Nat),ni E b off cs->ni E b (off+k) (cs.drop k)
 |[],_,_,_=>by simp [ni]
 |_::_,_,0,h=>by simpa using h
 |_::_,off,k+1,⟨_,r⟩=>by
  have:=ni.drop k r
  grind
def mU.get {sz:Nat}: ∀{rs:List (List AV)}{off i:Nat}{r:List AV},mU E sz b off rs->rs[i]? =some r->
 r.length=sz/\ni E b (off+i*sz) r
 |_::_,off,0,_,⟨hl,m,_⟩,h=>by grind
 |_::_,off,i+1,_,⟨_,_,r⟩,h=>by
  simp at h;obtain⟨h1,h2⟩:=mU.get r h
  grind
theorem mU.drop {sz:Nat}: ∀{rs:List (List AV)}{off:Nat}(k:Nat),k<=rs.length->mU E sz b off rs->mU E sz b (off+k*sz) (rs.drop k)
 |[],_,_,_,_=>by simp [mU]
 |_::_,_,0,_,h=>by simpa using h
 |_::_,off,k+1,hk,⟨_,_,r⟩=>by
  have:=mU.drop k (by simpa using hk) r
  grind
theorem mU.take {sz:Nat}: ∀{rs:List (List AV)}{off:Nat}(k:Nat),mU E sz b off rs->mU E sz b off (rs.take k)
 |[],_,_,_=>by simp [mU]
 |_::_,_,0,_=>by simp [mU]
 |_::_,_,k+1,⟨h1,h2,r⟩=>⟨h1,h2,mU.take k r⟩
theorem ni.append: ∀{cs ds:List AV}{off:Nat},ni E b off cs->ni E b (off+cs.length) ds->ni E b off (cs++ds)
 |[],_,_,_,h=>by simpa using h
 |c::cs,_,off,⟨h1,h3⟩,h=>by
  refine⟨h1,ni.append h3 ?_⟩
  grind
end lists
structure wy where
 ps:Array Tmp
 assign:Code
 body:Code
 js:List (Int×Code)
def aoH:List (Int×Code)->Int->Option Code
 |[],_=>none
 |(k,c)::cs,j=>match cs with
  |[]=>some c
  |_::_=>bif j==k then some c else aoH cs j
def pG(js:List (Int×Code))(j:Int):Option Code:=bif j==0 then none else aoH js j
inductive kq where
 |cells (cs:List AV)
 |acc (rT:Bool) (sz:Nat) (rows:List (List AV))
 |map (es:List (AV×AV))
 |loop (k:wy) (slots:List AV) (st:LoopState) (rQ:Int)
 |iter (s:ByteArray) (pos:Nat)
 |dead
variable {H H':List kq}
structure jZ where
 slots:List AV
 heap:List kq
 low:Nat:=0
 df:List (FuncId×List AV):=[]
variable {σ σ':jZ}
def QW:Value->AV
 | .int k n=> .int k n
 | .bool b=> .bool b
 | .string s=> .str s
 | .slice none 0 0=> .mb true 0 []
 |v=> .raw v
def jZ.ev(σ:jZ):Operand->AV
 | .tmp t=>σ.slots.getD t .any
 | .const v=>QW v
 | .global g=> .raw (.pointer (some ⟨g,0,none⟩))
 | .func f=> .func (.func f) [] []
def jZ.put(σ:jZ)(dst:Option Tmp)(x:AV):jZ:=
 match dst with
 |some d=>{σ with slots:=σ.slots.set d x}
 |none=>σ
def kq.yy:kq->Value->Nat->Nat->Prop
 | .cells _,.pointer (some a),b,_=>b=a.block
 | .acc rT sz _,.slice (some a) n cap,b,o=>(b=a.block/\cap≠0)/\(rT=true->a.off+n*sz<=o)
 | .map _,.map (some r),b,_=>b=r
 | .loop _ _ _ _,.func (.yield r) _ _,b,_=>b=r\/b+1=r
 | .iter _ _,.pointer (some a),b,_=>b=a.block
 |_,_,_,_=>False
def kq.block:kq->Value->Nat->Prop
 | .cells _,.pointer (some a),b=>b=a.block
 | .acc _ _ _,.slice (some a) _ cap,b=>b=a.block/\cap≠0
 | .map _,.map (some r),b=>b=r
 | .loop _ _ _ _,.func (.yield r) _ _,b=>b=r\/b+1=r
 | .iter _ _,.pointer (some a),b=>b=a.block
 |_,_,_=>False
theorem kq.nC{x:kq}{o:Nat}(m:x.yy h b o):x.block h b:=by
 unfold kq.yy at m;grind [kq.block]
def Eh(φ:Nat->Value)(H:List kq)(b o:Nat):Prop:= ∃(l:Nat)(x:kq),H[l]? =some x/\x.yy (φ l) b o
def lT:Option kq->Option Nat
 |some (.acc _ _ rows)=>some rows.length
 |_=>none
structure pX where
 P:Program
 w0:World
 M0:Nat->Nat->Prop
 A:Nat->Nat->Prop
 hA: ∀b o,A b o->b<w0.heap.size
 hk:ajl w0 M0
 N0:Nat:=0
 φ0:Nat->Value:=fun _=> .tuple #[]
 ln0:Nat->Option Nat:=fun _=>none
variable {C:pX}
def pX.env(C:pX)(φ:Nat->Value)(H:List kq)(w:World):Env:=
 {w,mu:=fun b o=>Eh φ H b o\/C.A b o,φ,ln:=fun l=>lT H[l]?,n:=H.length}
def qC(E:Env):List (AV×AV)->List MapEntry->Prop
 |[],es=>es=[]
 |(k,v)::r,es=> ∃e s,es=e::s/\n8 E k e.key/\n8 E v e.val/\qC E r s
def nG(E:Env):kq->Value->Prop
 | .cells cs,h=> ∃b c t,h= .pointer (some ⟨b,0,none⟩)/\E.w.heap[b]? =some (.cells c t (0,0))/\kC E cs c.toList/\ ∀u∈c.toList,u.oneCell'=true
 | .acc _ sz rows,h=> ∃base cap,h= .slice base rows.length cap/\rows.length<=cap/\(base=none->cap=0)/\(∀r∈rows,r.length=sz)/\
     ∀a,base=some a->cap≠0->a.spot=none/\ ∃c t,E.w.heap[a.block]? =some (.cells c t (0,0))/\a.off+cap*sz<=c.size/\
      kC E rows.flatten ((c.toList.drop a.off).take (rows.length*sz))/\ ∀u∈(c.toList.drop a.off).take (rows.length*sz),u.oneCell'=true
 | .map es,h=> ∃r entries clock,h= .map (some r)/\E.w.heap[r]? =some (.map entries clock)/\qC E es entries.toList
 | .loop k slots st rQ,h=> ∃D rec,h= .func (.yield (D+1)) #[] #[]/\E.w.heap[D+1]? =some (.loop rec)/\E.w.heap[D]? =some (.deferred (some []))/\
     (rec.params=k.ps/\rec.assign=k.assign/\rec.body=k.body/\rec.state=st/\rec.pending=pG k.js rQ/\rec.defers=D)/\kC E slots rec.tmps.toList
 | .iter s p,h=> ∃b,h= .pointer (some ⟨b,0,none⟩)/\E.w.heap[b]? =some (.stringIter s p)
 | .dead,_=>True
def au4(C:pX)(φ:Nat->Value)(H:List kq):Prop:= ∀l,l<C.N0->(φ l=C.φ0 l/\(lT H[l]? =C.ln0 l\/lT H[l]? =none))\/
 ((∃k,C.ln0 l=some k/\ ∀k',lT H[l]? =some k'->k<k')/\(∀a,C.φ0 l≠ .pointer a)/\hdl (C.φ0 l)=none)
def ZI(d:Deferred):Bool:=match d.target with
 | .collected _=>true
 |_=>false
def Js(E:Env):List (FuncId×List AV)->List Deferred->Prop
 |[],ds=>ds=[]
 |(f,xs)::r,ds=> ∃d s cap,ds=d::s/\d.target= .fn (.func f) cap/\kC E xs (d.args++cap).toList/\Js E r s
def Js.imp(h: ∀(xs:List AV)(vs:List Value),kC E xs vs->kC E' xs vs): ∀{df:List (FuncId×List AV)}{ds:List Deferred},Js E df ds->Js E' df ds
 |[],_,r=>r
 |_::_,_,⟨d,s,cap,h1,h2,h3,h4⟩=>⟨d,s,cap,h1,h2,h _ _ h3,Js.imp h h4⟩
def Js.mono(h:E.Le E.n E')(r:Js E df ds):Js E' df ds:=
 r.imp fun _ _ r=>kC.mono h _ _ (kC.nb _ _ r) r
theorem Js.nb: ∀{df:List (FuncId×List AV)}{ds:List Deferred},Js E df ds-> ∀p∈df,vK E.n p.2
 |[],_,_,_,h=>by cases h
 |q::r,_,⟨_,_,_,_,_,h3,h4⟩,p,hp=>by
  rcases aG.1 hp with rfl|hp
  ·exact kC.nb _ _ h3
  ·exact Js.nb h4 p hp
def qT(C:pX)(φ:Nat->Value)(H:List kq)(w:World)(df:List (FuncId×List AV))(ds:List Deferred):Prop:=
 (ds.filter ZI).Nodup/\(∀d∈ds,ZI d=true-> ∃D,d=⟨.collected D,#[]⟩/\w.heap[D]? =some (.deferred (some []))/\C.w0.heap.size<=D/\ ∀(l:Nat)(x:kq),H[l]? =some x-> ¬ x.block (φ l) D)/\
   Js (C.env φ H w) df (ds.filter fun d=> !ZI d)
theorem qT.nil:qT C φ H w [] []:=⟨List.nodup_nil,fun _ h _=>(by cases h),rfl⟩
def qT.ajm(h:qT C φ H w df ds)
 (hr: ∀(xs:List AV)(vs:List Value),(∃f,(f,xs)∈df)->kC (C.env φ H w) xs vs->kC (C.env φ' H' w') xs vs)
 (Nl: ∀b,b<w.heap.size->(∀(l:Nat)(x:kq),H[l]? =some x-> ¬ x.block (φ l) b)->w'.heap[b]? =w.heap[b]?)
 (IM: ∀(l:Nat)(x:kq)(b:Nat),H'[l]? =some x->x.block (φ' l) b->(∃(k:Nat)(y:kq),H[k]? =some y/\y.block (φ k) b)\/w.heap.size<=b):qT C φ' H' w' df ds:=by
 refine⟨h.1,fun d hd hm=> ?_,?_⟩
 ·obtain⟨D,h1,h2,h3,h4⟩:=h.2.1 d hd hm
  grind
 ·have key: ∀(df':List (FuncId×List AV))(ds':List Deferred),(∀p∈df',p∈df)->Js (C.env φ H w) df' ds'->Js (C.env φ' H' w') df' ds':=by
   intro df';induction df' with
   |nil=>intro _ _ r;exact r
   |cons p r ih=>
    intro ds' hp ⟨d,s,cap,h1,h2,h3,h4⟩;exact⟨d,s,cap,h1,h2,hr _ _ ⟨p.1,hp p (List.mem_cons_self ..)⟩ h3,ih _ (fun q hq=>hp q (bN _ hq)) h4⟩
  exact key df _ (fun _ h=>h) h.2.2
theorem qT.step(h:qT C φ H w df ds)(le:(C.env φ H w).Le H.length (C.env φ' H' w'))
 (Nl: ∀b,b<w.heap.size->(∀(l:Nat)(x:kq),H[l]? =some x-> ¬ x.block (φ l) b)->w'.heap[b]? =w.heap[b]?)
 (IM: ∀(l:Nat)(x:kq)(b:Nat),H'[l]? =some x->x.block (φ' l) b->(∃(k:Nat)(y:kq),H[k]? =some y/\y.block (φ k) b)\/w.heap.size<=b):qT C φ' H' w' df ds:=
 h.ajm (fun xs vs _ r=>kC.mono le _ _ (kC.nb _ _ r) r) Nl IM
def qT.same(h:qT C φ H w df ds)(le:(C.env φ H w).Le H.length (C.env φ H w'))(Nl: ∀b,b<w.heap.size->w'.heap[b]? =w.heap[b]?):qT C φ H w' df ds:=
 h.step le (fun b hb _=>Nl b hb) (fun l x b hx hb=> .inl ⟨l,x,hx,hb⟩)
structure mo(C:pX)(φ:Nat->Value)(σ:jZ)(a:Act)(w:World):Prop where
 slots:kC (C.env φ σ.heap w) σ.slots a.tmps.toList
 defers:qT C φ σ.heap w σ.df a.defers
 nN: ∀(l:Nat)(x:kq),σ.heap[l]? =some x->nG (C.env φ σ.heap w) x (φ l)
 apart: ∀(l l':Nat)(x x':kq)(b:Nat),σ.heap[l]? =some x->σ.heap[l']? =some x'->x.block (φ l) b->x'.block (φ l') b->l=l'
 sE: ∀(l:Nat)(x:kq)(b o:Nat),σ.heap[l]? =some x->x.block (φ l) b-> ¬ C.A b o
 size:C.w0.heap.size<=w.heap.size
 old: ∀b o,b<C.w0.heap.size-> ¬ C.M0 b o->w.cell? ⟨b,o,none⟩=C.w0.cell? ⟨b,o,none⟩
 nj: ∀b,b<C.w0.heap.size->(∀o,¬ C.M0 b o)->w.heap[b]? =C.w0.heap[b]?
 B8: ∀(l:Nat)(x:kq)(b o:Nat),σ.heap[l]? =some x->x.yy (φ l) b o->b<C.w0.heap.size->C.M0 b o
 u1: ∀a,a.block<C.w0.heap.size->w.frozen? a=C.w0.frozen? a
 rest:w.output=C.w0.output/\w.os=C.w0.os
 low:C.N0=σ.low/\σ.low<=σ.heap.length
 names:au4 C φ σ.heap
section basics

def agG(E:Env)(v:Value):n8 E (QW v) v:=by
 unfold QW;split
 ·rfl
 ·rfl
 ·rfl
 ·exact⟨none,0,rfl,au _,fun _=>rfl,fun _=>rfl,(by intro a h;cases h),(by intro a h;cases h)⟩
 ·rfl
theorem mo.ev(S:mo C φ σ a w)(x:Operand):n8 (C.env φ σ.heap w) (σ.ev x) (a.eval x):=by
 cases x with
 |tmp t=>
  simp only[jZ.ev,Act.eval,List.getD];cases h:σ.slots[t]? with
  |none=>exact trivial
  |some c=>
   obtain⟨v,hv,r⟩:=S.slots.get h
   simp_all
 |const v=>exact agG _ v
 |global g=>rfl
 |func f=>exact⟨#[],#[],rfl,rfl,rfl⟩
theorem mo.put(S:mo C φ σ a w)(dst:Option Tmp)(r:n8 (C.env φ σ.heap w) x v):mo C φ (σ.put dst x) (a.put dst v) w:=by
 cases dst with
 |none=>exact S
 |some d=>
  refine {S with slots:= ?_,defers:=S.defers};have:=S.slots.set (i:=d) r
  grind [jZ.put,Act.put]
def pX.A1(hn:H.length<=H'.length)
 (hφ: ∀l,l<H.length->φ' l=φ l/\lT H'[l]? =lT H[l]?)
 (aCg: ∀b o u,¬ (Eh φ H b o\/C.A b o)->w.cell? ⟨b,o,none⟩=some u-> ¬ (Eh φ' H' b o\/C.A b o)/\w'.cell? ⟨b,o,none⟩=some u):
 (C.env φ H w).Le H.length (C.env φ' H' w'):=
 ⟨hn,fun l hl=> .inl ⟨(hφ l hl).1,.inl (hφ l hl).2⟩,aCg⟩
theorem E9 {o:Nat}(h:w.cell? ⟨b,o,none⟩=some u):b<w.heap.size:=by
 grind [World.cell?]
def mo.know(S:mo C φ σ a w):ajl w (Eh φ σ.heap):=fun b o h=>by
 obtain⟨v,hc,hv,hm⟩:=C.hk b o h;have hb:=E9 hc;refine⟨v,by rw[S.old b o hb hm];exact hc,hv,?_⟩;rintro⟨l,x,hx,YT⟩;exact hm (S.B8 l x b o hx YT hb)
def World.more(w:World)(o:Obj):World:={w with heap:=w.heap.push o}
@[simp] theorem Lz(w:World)(o:Obj):(World.more w o).heap.size=w.heap.size+1:=by simp [World.more]
theorem xo(w:World)(o:Obj)(h:b<w.heap.size):(World.more w o).heap[b]? =w.heap[b]? :=by
 grind [World.more]
theorem GC(w:World)(o:Obj):(World.more w o).heap[w.heap.size]? =some o:=by
 show(w.heap.push o)[w.heap.size]? =some o;simp
theorem B5(w:World)(o:Obj)(h:b<w.heap.size):(World.more w o).cell? ⟨b,i,none⟩=w.cell? ⟨b,i,none⟩:=by
 grind [World.cell?,xo]
theorem afG(w:World)(c:Array Value)(t:TypeId)(i:Nat):(World.more w (.cells c t)).cell? ⟨w.heap.size,i,none⟩=c[i]? :=by
 grind [World.cell?,GC]
theorem uu(w:World)(o:Obj)(ho: ∀c t lo hi,o= .cells c t (lo,hi)->lo=0/\hi=0)(a:Addr):(World.more w o).frozen? a=w.frozen? a:=by
 grind [World.frozen?,World.more]
def nG.p4{x:kq}(r:nG E x h)(hb:x.block h b):b<E.w.heap.size:=by
 cases x with
 |cells cs=>
  obtain⟨b',c,t,rfl,hh,_⟩:=r
  grind [kq.block]
 |acc rT sz rows=>
  obtain⟨base,cap,rfl,_,_,_,hh⟩:=r;cases base with
  |none=>simp [kq.block] at hb
  |some a0=>
   grind [kq.block]
 |map es=>
  obtain⟨r',en,cl,rfl,hh,_⟩:=r
  grind [kq.block]
 |loop k slots st rQ=>
  obtain⟨D,rec,rfl,h1,h2,_⟩:=r
  grind [kq.block]
 |iter s p=>
  obtain⟨b',rfl,hh⟩:=r
  grind [kq.block]
 |dead=>simp [kq.block] at hb
def qC.mono{N:Nat}(h:E.Le N E'): ∀{es:List (AV×AV)}{xs:List MapEntry},(∀p∈es,p.1.nb N/\p.2.nb N)->qC E es xs->qC E' es xs
 |[],_,_,r=>r
 |(k,v)::_,_,hb,⟨e,s,he,r1,r2,r3⟩=>
  ⟨e,s,he,n8.mono h k _ (hb (k,v) (by simp)).1 r1,n8.mono h v _ (hb (k,v) (by simp)).2 r2,qC.mono h (fun p hp=>hb p (by simp [hp])) r3⟩
theorem qC.nb: ∀{es:List (AV×AV)}{xs:List MapEntry},qC E es xs-> ∀p∈es,p.1.nb E.n/\p.2.nb E.n
 |[],_,_=>by simp
 |(k,v)::_,_,⟨e,s,he,r1,r2,r3⟩=>by
  intro p hp;simp only[aG] at hp;rcases hp with rfl|hp
  ·exact⟨n8.nb _ _ r1,n8.nb _ _ r2⟩
  ·exact qC.nb r3 p hp
def nG.mono{x:kq}{hd:Value}(r:nG E x hd)(h:E.Le E.n E')(hs: ∀b,x.block hd b->E'.w.heap[b]? =E.w.heap[b]?):nG E' x hd:=by
 cases x with
 |cells cs=>
  obtain⟨b,c,t,rfl,hh,rl,h1⟩:=r;exact⟨b,c,t,rfl,by rw[hs b rfl,hh],kC.mono h _ _ (kC.nb _ _ rl) rl,h1⟩
 |acc rT sz rows=>
  obtain⟨base,cap,rfl,h1,h2,h3,hh⟩:=r;refine⟨base,cap,rfl,h1,h2,h3,fun a0 ha hc=> ?_⟩;obtain⟨h4,c,t,h5,h6,rl,h1⟩:=hh a0 ha hc;subst ha;exact⟨h4,c,t,by rw[hs _ ⟨rfl,hc⟩,h5],h6,kC.mono h _ _ (kC.nb _ _ rl) rl,h1⟩
 |map es=>
  obtain⟨r',en,cl,rfl,hh,rp⟩:=r;exact⟨r',en,cl,rfl,by rw[hs r' rfl,hh],qC.mono h (qC.nb rp) rp⟩
 |loop k slots st rQ=>
  obtain⟨D,rec,rfl,h1,h2,h3,rl⟩:=r;exact⟨D,rec,rfl,by rw[hs (D+1) (.inl rfl),h1],by rw[hs D (.inr rfl),h2],h3,kC.mono h _ _ (kC.nb _ _ rl) rl⟩
 |iter s p=>
  obtain⟨b,rfl,hh⟩:=r;exact⟨b,rfl,by rw[hs b rfl,hh]⟩
 |dead=>trivial
theorem mo.more(S:mo C φ σ a w)(o:Obj)(ho: ∀c t lo hi,o= .cells c t (lo,hi)->lo=0/\hi=0):mo C φ σ a (World.more w o):=by
 have le:(C.env φ σ.heap w).Le σ.heap.length (C.env φ σ.heap (World.more w o)):=
  pX.A1 (au _) (fun _ _=>⟨rfl,rfl⟩) (fun b i u hm hc=>⟨hm,by grind [B5,E9]⟩)
 refine {slots:=kC.mono le _ _ (kC.nb _ _ S.slots) S.slots,defers:=S.defers.same le (fun b hb=>xo w o hb),nN:= ?_,apart:=S.apart,sE:=S.sE,size:= ?_,old:= ?_,nj:= ?_,B8:=S.B8,u1:= ?_,rest:=S.rest,low:=S.low,names:=S.names}
 ·intro l x hx;have r:=S.nN l x hx;exact nG.mono r le (fun b hb=>xo w o (r.p4 hb))
 ·have:=S.size;simp;omega
 ·intro b i hb hm;rw[B5 w o (ae hb S.size)];exact S.old b i hb hm
 ·intro b hb hm;rw[xo w o (ae hb S.size)];exact S.nj b hb hm
 ·intro x hx;rw[uu w o ho];exact S.u1 x hx
def mo.drew(S:mo C φ σ a w)(n:Nat):mo C φ σ a {w with drawn:=n}:=by
 have le:(C.env φ σ.heap w).Le σ.heap.length (C.env φ σ.heap {w with drawn:=n}):=
  pX.A1 (au _) (fun _ _=>⟨rfl,rfl⟩) (fun b i u hm hc=>⟨hm,hc⟩)
 exact {slots:=kC.mono le _ _ (kC.nb _ _ S.slots) S.slots,defers:=S.defers.same le (fun _ _=>rfl),nN:=fun l x hx=>nG.mono (S.nN l x hx) le (fun _ _=>rfl),apart:=S.apart,sE:=S.sE,size:=S.size,old:=S.old,nj:=S.nj,B8:=S.B8,u1:=S.u1,rest:=S.rest,low:=S.low,names:=S.names}
def mo.au5(_S:mo C φ σ a w)(o:Obj):(C.env φ σ.heap w).Le σ.heap.length (C.env φ σ.heap (World.more w o)):=
 pX.A1 (au _) (fun _ _=>⟨rfl,rfl⟩) (fun b i u hm hc=>⟨hm,by grind [B5,E9]⟩)
def ajn(S:mo C φ σ a w)(hb:w.heap.size<=b)(o:Nat): ¬ (Eh φ σ.heap b o\/C.A b o):=by
 rintro(⟨l,x,hx,hm⟩|hA)
 ·have:=(S.nN l x hx).p4 (kq.nC hm);simp only[pX.env] at this;omega
 ·have:=C.hA _ _ hA;have:=S.size;omega
def adJ(S:mo C φ σ a w)(c:Array Value)(t:TypeId)(h1: ∀u∈c.toList,u.oneCell'=true): ∀(cs:List AV)(off:Nat),kC (C.env φ σ.heap w) cs ((c.toList.drop off).take cs.length)->
 ni (C.env φ σ.heap (World.more w (.cells c t))) w.heap.size off cs
 |[],_,_=>trivial
 |x::cs,off,r=>by
  obtain⟨u,us,hu,r1,r2⟩:=r
  have hc:c[off]? =some u:=by
   have:(c.toList.drop off)[0]? =some u:=by
    have:=congrArg (fun l:List Value=>l[0]?) hu;simpa using this
   simpa using this
  have htl:us=(c.toList.drop (off+1)).take cs.length:=by
   have h1:=congrArg List.tail hu;simp only[List.tail_cons] at h1;rw[<-h1];cases hd:c.toList.drop off with
   |nil=>rw[hd] at hu;simp at hu
   |cons y ys=>
    grind [bn]
  refine⟨⟨ajn S (au _) _,u,by grind [pX.env,afG],h1 u (bO (by simpa using hc)),n8.mono (S.au5 _) _ _ (n8.nb _ _ r1) r1⟩,adJ S c t h1 cs (off+1) (by rw[<-htl];exact r2)⟩
theorem ab5(S:mo C φ σ a w)(c:Array Value)(t:TypeId)(h1: ∀u∈c.toList,u.oneCell'=true)(sz:Nat): ∀(rs:List (List AV))(off:Nat),(∀r∈rs,r.length=sz)->kC (C.env φ σ.heap w) rs.flatten ((c.toList.drop off).take (rs.length*sz))->
 mU (C.env φ σ.heap (World.more w (.cells c t))) sz w.heap.size off rs
 |[],_,_,_=>trivial
 |r::rs,off,hl,h=>by
  have hr:r.length=sz:=hl r (by simp);simp only[aC] at h;have h3:=kC.take r.length h;have h2:=kC.drop r.length h;simp only[bb,bc,bI,aY,aR] at h3 h2;refine⟨hr,adJ S c t h1 r off ?_,ab5 S c t h1 sz rs (off+sz) (fun q hq=>hl q (by simp [hq])) ?_⟩
  all_goals grind [ax]
theorem mo.name(S:mo C φ σ a w)(c:Array Value)(t:TypeId)(r:kC (C.env φ σ.heap w) cs c.toList)(h1: ∀u∈c.toList,u.oneCell'=true):
 mo C (fun l=>if l=σ.heap.length then .pointer (some ⟨w.heap.size,0,none⟩) else φ l) {σ with heap:=σ.heap++[.cells cs]} a (World.more w (.cells c t))/\
 (C.env φ σ.heap w).Le σ.heap.length (C.env (fun l=>if l=σ.heap.length then .pointer (some ⟨w.heap.size,0,none⟩) else φ l) (σ.heap++[.cells cs]) (World.more w (.cells c t))):=by
 let φ':Nat->Value:=fun l=>if l=σ.heap.length then .pointer (some ⟨w.heap.size,0,none⟩) else φ l
 have hφ: ∀l,l<σ.heap.length->φ' l=φ l:=fun l hl=>by grind
 have nr: ∀(l:Nat)(x:kq),(σ.heap++[.cells cs])[l]? =some x->(l<σ.heap.length/\σ.heap[l]? =some x)\/(l=σ.heap.length/\x= .cells cs):=by
  grind
 have Km: ∀b o,Eh φ' (σ.heap++[.cells cs]) b o->b=w.heap.size\/Eh φ σ.heap b o:=by
  rintro b o ⟨l,x,hx,hm⟩;rcases nr l x hx with⟨hl,hx⟩|⟨rfl,rfl⟩
  ·rw[hφ l hl] at hm;exact .inr ⟨l,x,hx,hm⟩
  grind [kq.yy]
 have le:(C.env φ σ.heap w).Le σ.heap.length (C.env φ' (σ.heap++[.cells cs]) (World.more w (.cells c t))):=by
  refine pX.A1 (by simp) (fun l hl=>⟨hφ l hl,by rw[aw hl]⟩) (fun b i u hm hc=> ?_)
  grind [E9,B5]
 have A2:qT C φ' (σ.heap++[.cells cs]) (World.more w (.cells c t)) σ.df a.defers:=by
  refine S.defers.step le (fun b hb _=>xo w _ hb) (fun l x b hx hb=> ?_)
  grind [kq.block]
 refine⟨{slots:=kC.mono le _ _ (kC.nb _ _ S.slots) S.slots,defers:=A2,nN:= ?_,apart:= ?_,sE:= ?_,size:= ?_,old:= ?_,nj:= ?_,B8:= ?_,u1:= ?_,rest:=S.rest,low:=⟨S.low.1,by have:=S.low.2;simp;omega⟩,names:= ?_},le⟩
 ·intro l x hx;rcases nr l x hx with⟨hl,hx⟩|⟨rfl,rfl⟩
  ·have r0:=S.nN l x hx;have:nG (C.env φ' (σ.heap++[.cells cs]) (World.more w (.cells c t))) x (φ l):=nG.mono r0 le (fun b hb=>xo w _ (r0.p4 hb))
   grind
  ·exact⟨w.heap.size,c,t,by simp,GC w _,kC.mono le _ _ (kC.nb _ _ r) r,h1⟩
 ·intro l l' x x' b hx hx' hb hb';rcases nr l x hx with⟨hl,hx⟩|⟨rfl,rfl⟩<;>rcases nr l' x' hx' with⟨QT,hx'⟩|⟨rfl,rfl⟩
  ·rw[show(if l=σ.heap.length then _ else φ l)=φ l from hφ l hl] at hb;rw[show(if l'=σ.heap.length then _ else φ l')=φ l' from hφ l' QT] at hb';exact S.apart l l' x x' b hx hx' hb hb'
  ·rw[show(if l=σ.heap.length then _ else φ l)=φ l from hφ l hl] at hb;have:=(S.nN l x hx).p4 hb
   grind [kq.block,pX.env]
  ·rw[show(if l'=σ.heap.length then _ else φ l')=φ l' from hφ l' QT] at hb';have:=(S.nN l' x' hx').p4 hb'
   grind [kq.block,pX.env]
  ·rfl
 ·intro l x b o hx hb;rcases nr l x hx with⟨hl,hx⟩|⟨rfl,rfl⟩
  ·rw[show(if l=σ.heap.length then _ else φ l)=φ l from hφ l hl] at hb;exact S.sE l x b o hx hb
  ·simp only[jU,kq.block] at hb;intro hA;have:=C.hA _ _ hA;have:=S.size;omega
 ·have:=S.size;simp;omega
 ·intro b i hb hm;rw[B5 w _ (ae hb S.size)];exact S.old b i hb hm
 ·intro b hb hm;rw[xo w _ (ae hb S.size)];exact S.nj b hb hm
 ·intro l x b o hx hm hb;rcases nr l x hx with⟨hl,hx⟩|⟨rfl,rfl⟩
  ·rw[show(if l=σ.heap.length then _ else φ l)=φ l from hφ l hl] at hm;exact S.B8 l x b o hx hm hb
  ·simp only[jU,kq.yy] at hm;have:=S.size;omega
 ·intro x hx;rw[uu w _ (by grind)];exact S.u1 x hx
 ·intro l hl;have hlt:l<σ.heap.length:=by have:=S.low;omega
  have:=S.names l hl
  grind
end basics
structure ux where
 val:AV
 rd:List Nat:=[]
 up:List (Nat×kq):=[]
 nw:List kq:=[]
 pre:Prop:=True
 whole:Bool:=false
variable {ef:ux}
def lU:List kq->List (Nat×kq)->List kq
 |H,[]=>H
 |H,(l,x)::r=>lU (H.set l x) r
def jZ.app(σ:jZ)(dst:Option Tmp)(e:ux):jZ:=
 {σ.put dst e.val with heap:=lU σ.heap e.up++e.nw}
def pd(P:Program)(t:TypeId):Option (Bool×Nat):=
 match P.info? t with
 |none=>none
 |some i=>match P.underlying t with
  |some (.struct _)=>some (true,i.size)
  |some (.array _ _)=>some (true,i.size)
  |some _=>some (false,i.size)
  |none=>none
def ou(P:Program)(t:TypeId):Option (List AV):=
 match P.info? t with
 |none=>none
 |some i=>match i.zero with
  |some v=>if v.cells.toList.all Value.oneCell' then some (v.cells.toList.map QW) else none
  |none=>none
def tL(P:Program)(t:TypeId)(i:Nat):Option (Nat×TypeId):=
 match P.underlying t with
 |some (.struct fs)=>match fs[i]? with
  |some f=>match P.info? f.type with
   |some j=>if j.size=0 then none else some (f.offset,f.type)
   |none=>none
  |none=>none
 |_=>none
def nF(P:Program)(t:TypeId):Option (TypeId×Nat×Nat):=
 match P.underlying t with
 |some (.slice e)=>match P.info? e with
  |some i=>some (e,i.size,i.bytes)
  |none=>none
 |_=>none
def ajo(P:Program)(t:TypeId):Option (Nat×Nat):=
 match P.underlying t with
 |some (.array n e)=>match P.info? e with
  |some i=>some (n,i.size)
  |none=>none
 |_=>none
def tB(P:Program)(t:TypeId):Bool:=
 match P.underlying t with
 |some .string=>true
 |_=>false
def ahP(P:Program)(t:TypeId):Option IntKind:=
 match P.underlying t with
 |some (.int k)=>some k
 |_=>none
def n6(P:Program)(t:TypeId):Bool:=
 match P.underlying t with
 |some (.int _)=>false
 |some _=>true
 |none=>false
def qj(P:Program)(t:TypeId):Bool:=
 match P.underlying t with
 |some (.interface _)=>false
 |some _=>true
 |none=>false
def AV.scalar:AV->Bool
 | .any| .agg _| .FI _=>false
 | .raw v=>v.oneCell'
 |_=>true
def cellsOf:AV->Option (List AV)
 | .agg cs=>if cs.all AV.scalar then some cs else none
 |x=>if x.scalar then some [x] else none
def l9(g:Bool)(n:Nat)(cs:List AV):Option AV:=
 match g with
 |true=>if n<=cs.length then some (.agg (cs.take n)) else none
 |false=>match cs with
  |c::_=>some c
  |[]=>none
def uP(cs:List AV)(off:Nat)(xs:List AV):List AV:=cs.take off++xs++cs.drop (off+xs.length)
def QX(place:Nat->Option (Nat×Nat))(cs:List AV):List (Nat×AV)->Option (List AV)
 |[]=>some cs
 |(i,x)::rest=>match place i,cellsOf x with
  |some (off,size),some xs=>if xs.length=size/\off+size<=cs.length then QX place (uP cs off xs) rest else none
  |_,_=>none
def Nn(P:Program)(t:TypeId):Option (Nat->Option (Nat×Nat)):=
 match P.underlying t with
 |some (.array _ e)=>match P.info? e with
  |some ie=>some fun i=>some (i*ie.size,ie.size)
  |none=>none
 |some (.struct fields)=>match fields.toList.mapM (fun f=>(P.info? f.type).map fun i=>(f.offset,i.size)) with
  |some places=>some fun i=>places.toArray[i]?
  |none=>none
 |_=>none
def zb(P:Program)(t:TypeId):Bool:=(Nn P t).isSome
def mi(P:Program)(t:TypeId)(i:Nat):Option (Nat×Nat):=
 match Nn P t with
 |some f=>f i
 |none=>none
def rowsOf(sz:Nat)(rows:List (List AV)):List (Nat×AV)->Option (List (List AV))
 |[]=>some rows
 |(i,x)::rest=>match cellsOf x with
  |some xs=>if i<rows.length/\xs.length=sz then rowsOf sz (rows.set i xs) rest else none
  |none=>none
def arG(k:IntKind)(f:BitVec k.bits->BitVec k.bits->BitVec k.bits)(a b:Int):Int:=k.wrap (f (BitVec.ofInt k.bits a) (BitVec.ofInt k.bits b)).toNat
def agH(op:BinOp)(x y:AV):Option AV:=
 match x,y with
 | .int k a,.int k' b=>
   if k≠k' then none else
   match op with
   | .add=>some (.int k (k.wrap (a+b)))
   | .sub=>some (.int k (k.wrap (a-b)))
   | .mul=>some (.int k (k.wrap (a*b)))
   | .eql=>some (.bool (a==b))
   | .neq=>some (.bool (a !=b))
   | .lss=>some (.bool (decide (a<b)))
   | .leq=>some (.bool (decide (a<=b)))
   | .gtr=>some (.bool (decide (b<a)))
   | .geq=>some (.bool (decide (b<=a)))
   | .quo=>if b=0 then none else some (.int k (k.wrap (a.tdiv b)))
   | .rem=>if b=0 then none else some (.int k (a.tmod b))
   | .and=>some (.int k (arG k (· &&& ·) a b))
   | .or=>some (.int k (arG k (· ||| ·) a b))
   | .xor=>some (.int k (arG k (· ^^^ ·) a b))
   | .andNot=>some (.int k (arG k (fun x y=>x&&& ~~~y) a b))
   |_=>none
 | .str a,.str b=>
   match op with
   | .eql=>some (.bool (a.toList==b.toList))
   | .neq=>some (.bool (!(a.toList==b.toList)))
   | .add=>if a.size+b.size<=9223372036854775807 then some (.str (a++b)) else none
   | .lss=>some (.bool (bW a.toList b.toList))
   | .leq=>some (.bool (bW a.toList b.toList||a.toList==b.toList))
   | .gtr=>some (.bool (!(bW a.toList b.toList||a.toList==b.toList)))
   | .geq=>some (.bool (!bW a.toList b.toList))
   |_=>none
 |_,_=>none
def eq1:AV->AV->Bool
 | .int _ a,.int _ b=>a==b
 | .str a,.str b=>a.toList==b.toList
 | .bool a,.bool b=>a==b
 |_,_=>false
def eqB:List AV->List AV->Bool
 |[],[]=>true
 |x::xs,y::ys=>eq1 x y&&eqB xs ys
 |_,_=>false
def agI(P:Program)(t:TypeId)(cs ds:List AV):Prop:=
 ∀ (E:Env) (vs us:Array Value) (w:World) (x y:Operand),kC E cs vs.toList->kC E ds us.toList->
   (do eqGuard .eql t x y (.agg vs) (.agg us);binOp .eql t (.agg vs) (.agg us):Sem Value).run P w= .ok (.bool (eqB cs ds)) w/\
   (do eqGuard .neq t x y (.agg vs) (.agg us);binOp .neq t (.agg vs) (.agg us):Sem Value).run P w= .ok (.bool (!eqB cs ds)) w
def tbl(P:Program)(t:TypeId):Bool:=
 match P.underlying t with
 |some .bool=>true
 |_=>false
def amq(P:Program)(t:TypeId):Bool:=
 match P.underlying t with
 |some (.interface ms)=>ms.isEmpty
 |_=>false
def aa6(P:Program)(op:BinOp)(t:TypeId)(x y:AV):Option ux:=
 match op,x,y with
 | .eql,.agg cs,.agg ds=>some {val:= .bool (eqB cs ds),pre:=agI P t cs ds}
 | .neq,.agg cs,.agg ds=>some {val:= .bool (!eqB cs ds),pre:=agI P t cs ds}
 | .eql,.bool a,.bool b=>if tbl P t then some {val:= .bool (a==b)} else none
 | .neq,.bool a,.bool b=>if tbl P t then some {val:= .bool (!(a==b))} else none
 | .eql,.iface _ _,.raw .nilIface=>if amq P t then some {val:= .bool false} else none
 | .neq,.iface _ _,.raw .nilIface=>if amq P t then some {val:= .bool true} else none
 | .eql,.raw .nilIface,.raw .nilIface=>if amq P t then some {val:= .bool true} else none
 | .neq,.raw .nilIface,.raw .nilIface=>if amq P t then some {val:= .bool false} else none
 |_,_,_=>none
def YU(P:Program)(op:BinOp)(t:TypeId)(x:AV)(y:Operand):Option ux:=
 match op,x,y with
 | .eql,.raw (.slice a _ _),.const (.slice none 0 0)=>if (nF P t).isSome then some {val:= .bool a.isNone} else none
 | .eql,.mb _ _ rows,.const (.slice none 0 0)=>if rows.isEmpty=false/\(nF P t).isSome then some {val:= .bool false} else none
 |_,_,_=>none
def agJ(P:Program)(op:BinOp)(t:TypeId)(y:Operand)(a b:AV):Option ux:=
 match YU P op t a y with
 |some e=>some e
 |none=>aa6 P op t a b
def bound(σ:jZ)(d:Nat):Option Operand->Option Int
 |none=>some d
 |some x=>match σ.ev x with
  | .int _ n=>some n
  |_=>none
def W5(mx:Option Operand)(t:Bool)(h n m:Int):Bool:=
 match mx with
 |none=>t&&decide (h=n)
 |some _=>decide (h=m)
def ZJ (σ:jZ) (sz:Nat) (x:AV) (lo hi mx:Option Operand):Option ux:=
 match x with
 | .mb t KI rows=>
   match bound σ 0 lo,bound σ rows.length hi,bound σ rows.length mx with
   |some l,some h,some m=>if (KI=sz\/rows.length=0)/\0<=l/\l<=h/\h<=m/\m<=rows.length then
     some {val:= .mb (W5 mx t h rows.length m) sz ((rows.take h.toNat).drop l.toNat)} else none
   |_,_,_=>none
 | .acc k n=>match σ.heap[k]? with
   |some (.acc true KI rows)=>
    match bound σ 0 lo,bound σ rows.length hi,bound σ rows.length mx with
    |some l,some h,some m=>if KI=sz/\rows.length=n/\0<=l/\l<=h/\h<=m/\m<=rows.length then
      some {val:= .mb (W5 mx false h rows.length m) sz ((rows.take h.toNat).drop l.toNat),rd:=[k]} else none
    |_,_,_=>none
   |_=>none
 |_=>none
def QY(σ:jZ)(sz:Nat):AV->Option (List Nat×List (List AV))
 | .mb _ KI rows=>if KI=sz\/rows.length=0 then some ([],rows) else none
 | .acc l n=>match σ.heap[l]? with
   |some (.acc true KI rows)=>if KI=sz/\rows.length=n then some ([l],rows) else none
   |_=>none
 | .raw (.slice _ 0 _)=>some ([],[])
 |_=>none
def room(n bytes:Nat):Prop:=n*bytes<=2 ^ 44
def Po (im:Bool) (σ:jZ) (sz bytes:Nat) (x y:AV):Option ux:=
 match QY σ sz y with
 |none=>none
 |some (rd,ys)=>match x with
  | .acc l n=>match σ.heap[l]? with
    |some (.acc rT KI rows)=>if KI=sz/\rows.length=n then
      some {val:= .acc l (rows++ys).length,rd:=l::rd,up:=[(l,.acc rT sz (rows++ys))],pre:=room (rows.length+ys.length) bytes} else none
    |_=>none
  | .mb true KI rows=>if KI=sz\/rows.length=0 then
      (if rows.length=0\/0<ys.length then some {val:= .acc σ.heap.length (rows++ys).length,rd:=rd,nw:=[.acc im sz (rows++ys)],pre:=room (rows.length+ys.length) bytes}
        else some {val:= .mb true KI rows,rd:=rd}) else none
  |_=>none
def agK(P:Program)(σ:jZ)(t:TypeId):AV->Option ux
 | .str s=>if tB P t then some {val:= .int .i64 s.size} else none
 | .mb _ _ rows=>if (nF P t).isSome then some {val:= .int .i64 rows.length} else none
 | .acc l n=>if (nF P t).isSome then match σ.heap[l]? with
   |some (.acc _ _ rows)=>if rows.length=n then some {val:= .int .i64 n,rd:=[l]} else none
   |_=>none else none
 |_=>none
def agL:List Operand->Nat
 | .tmp t::_=>t
 |_=>0
def IN (P:Program) (σ:jZ) (b:Builtin) (ops:List Operand) (ts:List TypeId) (xs:List AV):Option ux:=
 match b,ts,xs with
 | .len,[t],[x]=>agK P σ t x
 | .append,[t,u],[x,y]=>match nF P t,n6 P u with
   |some (e,sz,bytes),true=>match ou P e with
    |some z=>if z.length=sz/\0<sz/\0<bytes then Po (ayd t (agL ops)) σ sz bytes x y else none
    |none=>none
   |_,_=>none
 | .max,[_,_],[.int k m,.int _ n]=>some {val:= .int k (if n>m then n else m)}
 | .min,[_,_],[.int k m,.int _ n]=>some {val:= .int k (if n<m then n else m)}
 |_,_,_=>none
def vwL (H:List kq):List AV->Option (List AV×List Nat)
 |[]=>some ([],[])
 | .acc l n::cs=>match H[l]? with
   |some (.acc rT sz rows)=>if rows.length=n then match vwL H cs with
    |some (ds,ns)=>some ((bif rT then .mb false sz rows else .acc l n)::ds,l::ns)
    |none=>none else none
   |_=>none
 |c::cs=>match vwL H cs with
  |some (ds,ns)=>some (c::ds,ns)
  |none=>none
def ldV(H:List kq)(l:Nat):AV->Option ux
 | .agg cs=>match vwL H cs with
   |some (ds,ns)=>some {val:= .agg ds,rd:=l::ns}
   |none=>none
 |v=>some {val:=v,rd:=[l]}
def adK(sz:Nat):Nat->List AV->Option (List AV)
 |0,cs=>if sz<=cs.length then some (cs.take sz) else none
 |n+1,cs=>adK sz n (cs.drop sz)
def tz1(P:Program)(t:TypeId):Option AV:=
 match P.info? t with
 |some i=>match i.zero with
  |some (.bool b)=>some (.bool b)
  |some (.int k n)=>some (.int k n)
  |some (.string s)=>some (.str s)
  |some (.agg vs)=>some (.agg (vs.toList.map QW))
  |_=>none
 |none=>none
def UW(P:Program)(t:TypeId):Option AV:=
 match P.underlying t with
 |some (.map k e)=>match P.underlying k with
  |some .string=>tz1 P e
  |_=>none
 |_=>none
def Ko:List (AV×AV)->Bool
 |[]=>true
 |(.str _,_)::es=>Ko es
 |_=>false
def wL(s:ByteArray):List (AV×AV)->Option AV
 |(.str k,v)::es=>bif s==k then some v else wL s es
 |_=>none
def IO(s:ByteArray)(v:AV):List (AV×AV)->List (AV×AV)
 |(.str k,u)::es=>bif s==k then(.str k,v)::es else(.str k,u)::IO s v es
 |_=>[(.str s,v)]
def W6(z:AV)(l:Nat)(s:ByteArray):Option kq->Option ux
 |some (.map es)=>if Ko es=true then some {val:=(wL s es).getD z,rd:=[l]} else none
 |_=>none
def agM(z:AV)(l:Nat):Option AV->ux
 |some v=>{val:= .FI [v,.bool true],rd:=[l]}
 |none=>{val:= .FI [z,.bool false],rd:=[l]}
def aa7(z:AV)(l:Nat)(s:ByteArray):Option kq->Option ux
 |some (.map es)=>if Ko es=true then some (agM z l (wL s es)) else none
 |_=>none
def ahQ(P:Program)(t:TypeId):AV->Option ux
 | .iface t' x=>if t'=t/\qj P t=true then some {val:= .FI [x,.bool true]} else none
 |_=>none
def Ad(l:Nat)(s:ByteArray)(v:AV):Option kq->Option ux
 |some (.map es)=>if Ko es=true then some {val:= .any,rd:=[l],up:=[(l,.map (IO s v es))]} else none
 |_=>none
def adL:Value->Option ux
 | .pointer (some ⟨b,o,none⟩)=>match au2 b with
   |some k=>(aoG b o).bind fun m=>some {val:= .int k m}
   |none=>none
 |_=>none
def W7(l:Nat):Option kq->Option ux
 |some (.iter s p)=>if p<s.size then some {val:= .FI [.bool true,.int .i64 p,.int .i32 (Utf8.decode s p).1],rd:=[l],up:=[(l,.iter s (p+(Utf8.decode s p).2))]}
   else some {val:= .FI [.bool false],rd:=[l]}
 |_=>none
def k7 (P:Program) (σ:jZ):Op->Option ux
 | .move x=>some {val:=σ.ev x}
 | .assign x=>some {val:=σ.ev x}
 | .pick c x y=>match σ.ev c with
   | .bool b=>some {val:=bif b then σ.ev x else σ.ev y}
   |_=>none
 | .alloc t=>match ou P t with
   |some z=>some {val:= .ptr σ.heap.length 0,nw:=[.cells z]}
   |none=>none
 | .box _ x=>match cellsOf (σ.ev x) with
   |some cs=>some {val:= .ptr σ.heap.length 0,nw:=[.cells cs]}
   |none=>none
 | .build t parts=>match zb P t,ou P t with
   |true,some z=>match QX (mi P t) z (parts.toList.map fun p=>(p.1,σ.ev p.2)) with
    |some cs=>some {val:= .agg cs}
    |none=>none
   |_,_=>none
 | .buildSlice t len parts=>match nF P t with
   |some (e,sz,_)=>match ou P e with
    |some z=>if z.length=sz/\len*sz<=16777216 then
      match rowsOf sz (am len z) (parts.toList.map fun p=>(p.1,σ.ev p.2)) with
      |some rows=>bif au1 t (agL (parts.toList.map (·.2))) then some {val:= .acc σ.heap.length rows.length,nw:=[.acc (ayd t (agL (parts.toList.map (·.2)))) sz rows]} else some {val:= .mb true sz rows}
      |none=>none
     else none
    |none=>none
   |none=>none
 | .load t x=>match pd P t,σ.ev x with
   |some (g,n),.ptr l off=>match σ.heap[l]? with
    |some (.cells cs)=>match l9 g n (cs.drop off) with
     |some v=>ldV σ.heap l v
     |none=>none
    |_=>none
   |some (g,n),.pp cs=>match l9 g n cs with
    |some v=>some {val:=v}
    |none=>none
   |some (g,n),.own l i m o sz=>match σ.heap[l]? with
    |some (.acc false KI rows)=>if KI=sz/\rows.length=m then match rows[i]? with
     |some r=>match l9 g n (r.drop o) with
      |some v=>some {val:=v,rd:=[l]}
      |none=>none
     |none=>none else none
    |_=>none
   |some (false,_),.raw v=>adL v
   |_,_=>none
 | .store t x y=>match pd P t,σ.ev x,cellsOf (σ.ev y) with
   |some (_,n),.ptr l off,some ys=>match σ.heap[l]? with
    |some (.cells cs)=>if ys.length=n/\off+n<=cs.length then some {val:= .any,rd:=[l],up:=[(l,.cells (uP cs off ys))]} else none
    |_=>none
   |some (_,n),.own l i m o sz,some ys=>match σ.heap[l]? with
    |some (.acc false KI rows)=>if KI=sz/\rows.length=m then match rows[i]? with
     |some r=>if ys.length=n/\o+n<=sz then some {val:= .any,rd:=[l],up:=[(l,.acc false sz (rows.set i (uP r o ys)))]} else none
     |none=>none else none
    |_=>none
   |_,_,_=>none
 | .binOp op t x y _=>match agH op (σ.ev x) (σ.ev y) with
   |some v=>some {val:=v}
   |none=>agJ P op t y (σ.ev x) (σ.ev y)
 | .unOp op _ x=>match op,σ.ev x with
   | .not,.bool b=>some {val:= .bool (!b)}
   | .neg,.int k n=>some {val:= .int k (k.wrap (0-n))}
   | .xor,.int k n=>some {val:= .int k (arG k (· ^^^ ·) (if k.signed then-1 else k.max) n)}
   |_,_=>none
 | .fieldAddr t x i=>match tL P t i,σ.ev x with
   |some (o,_),.ptr l off=>some {val:= .ptr l (off+o)}
   |some (o,_),.pp cs=>some {val:= .pp (cs.drop o)}
   |some (o,_),.own l i m o' sz=>some {val:= .own l i m (o'+o) sz}
   |_,_=>none
 | .field t x i=>match tL P t i,σ.ev x with
   |some (o,u),.agg cs=>match pd P u with
    |some (g,n)=>match l9 g n (cs.drop o) with
     |some v=>some {val:=v}
     |none=>none
    |none=>none
   |_,_=>none
 | .indexAddr t x i=>match nF P t with
   |some (_,sz,_)=>match σ.ev x,σ.ev i with
    | .mb _ KI rows,.int _ n=>if KI=sz/\0<=n then match rows[n.toNat]? with
      |some r=>some {val:= .pp r}
      |none=>none else none
    | .acc l m,.int _ n=>match σ.heap[l]? with
      |some (.acc true KI rows)=>if KI=sz/\0<=n/\rows.length=m then match rows[n.toNat]? with
       |some r=>some {val:= .pp r,rd:=[l]}
       |none=>none else none
      |some (.acc false KI rows)=>if KI=sz/\0<=n/\rows.length=m/\n<m then some {val:= .own l n.toNat m 0 sz,rd:=[l]} else none
      |_=>none
    |_,_=>none
   |none=>match ajo P t with
    |some (len,sz)=>match σ.ev x,σ.ev i with
     | .ptr l off,.int _ n=>if 0<=n/\n<len then some {val:= .ptr l (off+n.toNat*sz)} else none
     | .pp cs,.int _ n=>if 0<=n/\n<len then(adK sz n.toNat cs).bind fun ds=>some {val:= .pp ds} else none
     | .raw (.pointer (some ⟨b,o,none⟩)),.int _ n=>if 0<=n/\n<len then some {val:= .raw (.pointer (some ⟨b,o+n.toNat*sz,none⟩))} else none
     |_,_=>none
    |none=>none
 | .index t x i=>match tB P t,σ.ev x,σ.ev i with
   |true,.str s,.int _ n=>if 0<=n then match s[n.toNat]? with
    |some b=>some {val:= .int .u8 b.toNat}
    |none=>none else none
   |_,_,_=>none
 | .slice t x lo hi mx=>match nF P t with
   |some (_,sz,_)=>if mx.isSome&&hi.isNone then none else ZJ σ sz (σ.ev x) lo hi mx
   |none=>match tB P t,σ.ev x,mx with
    |true,.str s,none=>match bound σ 0 lo,bound σ s.size hi with
     |some l,some h=>if 0<=l/\l<=h/\h<=s.size then some {val:= .str (s.extract l.toNat h.toNat)} else none
     |_,_=>none
    |_,_,_=>none
 | .nilCheck x=>match σ.ev x with
   | .ptr l off=>some {val:= .ptr l off}
   | .pp cs=>some {val:= .pp cs}
   | .func (.func f) fs cs=>some {val:= .func (.func f) fs cs}
   |_=>none
 | .convert s d x=>match σ.ev x with
   | .str v=>if tB P s&&tB P d then some {val:= .str v} else none
   | .int _ n=>match ahP P s,ahP P d with
     |some _,some k=>some {val:= .int k (k.wrap n)}
     |some _,none=>if tB P d then some {val:= .str (Utf8.encode n)} else none
     |_,_=>none
   |_=>none
 | .makeInterface t x=>if qj P t then some {val:= .iface t (σ.ev x)} else none
 | .makeSlice t x y=>match nF P t,σ.ev x,σ.ev y with
   |some (e,sz,bytes),.int .i64 n,.int .i64 m=>match ou P e with
    |some z=>if z.length=sz/\0<sz/\0<=n/\n=m then
      some {val:= .acc σ.heap.length n.toNat,nw:=[.acc false sz (am n.toNat z)],pre:=room n.toNat bytes/\n<2 ^ 62} else none
    |none=>none
   |_,_,_=>none
 | .call {callee:= .builtin b,args,argTypes}=>IN P σ b args.toList argTypes.toList (args.toList.map σ.ev)
 | .extract x i=>match σ.ev x with
   | .FI vs=>match vs[i]? with
     |some v=>some {val:=v}
     |none=>none
   |_=>none
 | .makeFunc fn f c=>some {val:= .func fn (f.toList.map σ.ev) (c.toList.map σ.ev)}
 | .range t x=>match tB P t,σ.ev x with
   |true,.str s=>some {val:= .ptr σ.heap.length 0,nw:=[.iter s 0]}
   |_,_=>none
 | .next x true=>match σ.ev x with
   | .ptr l 0=>W7 l σ.heap[l]?
   |_=>none
 | .makeMap _ none=>some {val:= .map σ.heap.length,nw:=[.map []]}
 | .lookup t x k false=>match UW P t,σ.ev x,σ.ev k with
   |some z,.map l,.str s=>W6 z l s σ.heap[l]?
   |_,_,_=>none
 | .lookup t x k true=>match UW P t,σ.ev x,σ.ev k with
   |some z,.map l,.str s=>aa7 z l s σ.heap[l]?
   |_,_,_=>none
 | .typeAssert x _ t true=>ahQ P t (σ.ev x)
 | .mapUpdate t x k y=>match UW P t,σ.ev x,σ.ev k with
   |some _,.map l,.str s=>Ad l s (σ.ev y) σ.heap[l]?
   |_,_,_=>none
 | .insert t x k y=>match UW P t,σ.ev x,σ.ev k with
   |some _,.map l,.str s=>Ad l s (σ.ev y) σ.heap[l]?
   |_,_,_=>none
 |_=>none
section sound

def yf(C:pX)(σ:jZ)(a:Act)(w:World)(dst:Option Tmp)(r:Result Next)(e:ux):Prop:=
 ∃n v w' φ',r= .ok n w'/\(n= .value v\/(n= .skip/\v=undef))/\mo C φ' (σ.app dst e) (a.put dst v) w'
def IP(h:pd C.P t=some (g,n)):(isAgg t).run C.P w= .ok g w/\(sizeOf t).run C.P w= .ok n w:=by
 unfold pd at h;cases hi:C.P.info? t with
 |none=>simp [hi] at h
 |some i=>
  simp only[hi] at h;cases hu:C.P.underlying t with
  |none=>simp [hu] at h
  |some d=>
   simp only[hu] at h;constructor
   ·cases d<;>simp_all [isAgg,run_underlying hu]
   ·simp only[sizeOf,typeInfo];cases d<;>simp_all
def adM{c:AV}(h:c.scalar=true)(r:n8 E c v):v.oneCell'=true:=by
 cases c with
 |any|agg _|FI _=>simp [AV.scalar] at h
 |bool b|int k n|str s=>simp only[n8] at r;subst r;rfl
 |raw u=>simp only[n8] at r;subst r;exact h
 |mb t sz rows=>obtain⟨_,_,rfl,_⟩:=r;rfl
 |acc l n=>obtain⟨_,⟨_,_,_,rfl⟩,_⟩:=r;rfl
 |own l i n o sz=>obtain⟨_,⟨_,rfl⟩,_⟩:=r;rfl
 |ptr l off=>obtain⟨_,_,_,rfl⟩:=r;rfl
 |map l=>
  obtain⟨_,rfl,_,h2⟩:=r;revert h2;generalize E.φ l=h;intro h2;unfold hdl at h2;split at h2<;>first|rfl|cases h2
 |pp cs=>obtain⟨_,_,rfl,_⟩:=r;rfl
 |func fn f c=>obtain⟨_,_,rfl,_⟩:=r;rfl
 |iface t x=>obtain⟨_,rfl,_⟩:=r;rfl
def ab6{E:Env}: ∀{cs:List AV}{vs:List Value},cs.all AV.scalar=true->kC E cs vs-> ∀v∈vs,v.oneCell'=true
 |[],_,_,rfl=>by simp
 |c::cs,_,h,⟨u,us,rfl,r1,r2⟩=>by
  simp only[List.all_cons,aS] at h;intro v hv;simp only[aG] at hv;rcases hv with rfl|hv
  ·exact adM h.1 r1
  ·exact ab6 h.2 r2 v hv
end sound
section sound

def ajp(E:Env)(b off:Nat)(cs:List AV):Prop:= ∃us:List Value,kC E cs us/\ ∀j u,us[j]? =some u->E.w.cell? ⟨b,off+j,none⟩=some u
def Kp{E:Env}{b:Nat}: ∀{cs:List AV}{off:Nat},ni E b off cs->ajp E b off cs
 |[],_,_=>⟨[],rfl,by simp⟩
 |c::cs,off,⟨⟨_,u,hu,_,r⟩,r2⟩=>by
  obtain⟨us,rl,h⟩:=Kp r2;refine⟨u::us,⟨u,us,rfl,r,rl⟩,fun j v hj=> ?_⟩
  grind
def adN{fr:Nat×Nat}(hh:E.w.heap[b]? =some (.cells c t fr))(r:kC E cs c.toList)(off:Nat):
 ajp E b off (cs.drop off):=
 ⟨c.toList.drop off,r.drop off,fun j u hj=>by
   grind [World.cell?]⟩
theorem add_plain(b off j:Nat):(⟨b,off,none⟩:Addr).add j=⟨b,off+j,none⟩:=by
 unfold Addr.add;split<;>simp_all
theorem afH{a:Addr}{m:Mode}(h:w.cell? a=some u):(load a m).run P w= .ok u w:=by rw[run_load,h]
def QZ(hm:ajp E b off cs)(ha:(isAgg t).run P E.w= .ok g E.w)(hs:(sizeOf t).run P E.w= .ok n E.w)(hl:l9 g n cs=some x):
 ∃v,(loadVar t ⟨b,off,none⟩).run P E.w= .ok v E.w/\n8 E x v:=by
 obtain⟨us,rl,h⟩:=hm;unfold l9 at hl;cases g with
 |true=>
  simp only at hl;split at hl
  ·rename_i hn;cases hl;have hlen:=rl.length;refine⟨.agg (us.take n).toArray,?_,(us.take n).toArray,rfl,by simpa using rl.take n⟩
   have:=run_loadCells_list (P:=P) E.w ⟨b,off,none⟩ (us.take n) (fun j v hj=>by
    grind [add_plain])
   simp_all [loadVar]
  ·cases hl
 |false=>
  simp only at hl;split at hl
  ·rename_i c cs;cases hl;obtain⟨u,us',rfl,r1,_⟩:=rl;have:=h 0 u (by simp)
   grind [loadVar,ai,af,afH]
  ·cases hl
def Ey{xs:List AV}(h:cellsOf x=some xs)(r:n8 E x v):kC E xs v.cells.toList/\ ∀u∈v.cells.toList,u.oneCell'=true:=by
 unfold cellsOf at h;split at h
 ·rename_i cs;split at h
  ·rename_i hs;cases h;obtain⟨vs,rfl,rl⟩:=r;exact⟨rl,ab6 hs rl⟩
  ·cases h
 ·split at h
  ·rename_i hs;cases h;have h1:=adM hs r;have:v.cells= #[v]:=by cases v<;>first|rfl|(simp [Value.oneCell'] at h1)
   rw[this];exact⟨⟨v,[],rfl,r,rfl⟩,by simpa using h1⟩
  ·cases h
def Q0(E:Env): ∀vs:List Value,kC E (vs.map QW) vs
 |[]=>rfl
 |v::vs=>⟨v,vs,rfl,agG E v,Q0 E vs⟩
def W8(h:ou P t=some z): ∃v,(zeroValue t).run P w= .ok v w/\(∀E,kC E z v.cells.toList)/\ ∀u∈v.cells.toList,u.oneCell'=true:=by
 unfold ou at h;cases hi:P.info? t with
 |none=>simp [hi] at h
 |some i=>
  simp only[hi] at h;cases hz:i.zero with
  |none=>simp [hz] at h
  |some v=>
   simp only[hz] at h;split at h
   ·rename_i h1;cases h;exact⟨v,by simp [zeroValue,typeInfo,hi,hz],fun E=>Q0 E _,bw.1 h1⟩
   ·cases h
def mo.write(S:mo C φ σ a w){cs':List AV}{c':Array Value}(hl:σ.heap[l]? =some (.cells cs))(hφ:φ l= .pointer (some ⟨b,0,none⟩))
 (hh:w.heap[b]? =some (.cells c t (0,0))) (hr:kC (C.env φ σ.heap w) cs' c'.toList) (h1: ∀u∈c'.toList,u.oneCell'=true):mo C φ {σ with heap:=σ.heap.set l (.cells cs')} a (w.setRow b c'):=by
 have hlt:l<σ.heap.length:=(ak.1 hl).1
 have nr: ∀(k:Nat)(x:kq),(σ.heap.set l (.cells cs'))[k]? =some x->(k=l/\x= .cells cs')\/(k≠l/\σ.heap[k]? =some x):=by
  grind
 have Km: ∀b' o,Eh φ (σ.heap.set l (.cells cs')) b' o->Eh φ σ.heap b' o:=by
  rintro b' o ⟨k,x,hx,hm⟩;rcases nr k x hx with⟨rfl,rfl⟩|⟨_,hx⟩
  ·exact⟨k,_,hl,by rw[hφ] at hm ⊢;exact hm⟩
  ·exact⟨k,x,hx,hm⟩
 have hmb: ∀o,Eh φ σ.heap b o:=fun o=>⟨l,_,hl,by rw[hφ];rfl⟩
 have le:(C.env φ σ.heap w).Le σ.heap.length (C.env φ (σ.heap.set l (.cells cs')) (w.setRow b c')):=by
  refine pX.A1 (by simp) (fun k hk=>⟨rfl,?_⟩) (fun b' o u hm hc=> ?_)
  ·by_cases e:k=l
   ·subst e;rw[aP hlt,hl];rfl
   grind
  grind [cell_setRow_other]
 have A2:qT C φ (σ.heap.set l (.cells cs')) (w.setRow b c') σ.df a.defers:=by
  refine S.defers.step le (fun b' _ hno=> ?_) (fun k x b' hx hb=> ?_)
  ·refine setRow_other w b b' c' (fun e=> ?_);subst e;exact hno l _ hl (by rw[hφ];rfl)
  ·rcases nr k x hx with⟨rfl,rfl⟩|⟨hne,hx⟩
   ·exact .inl ⟨k,_,hl,by rw[hφ] at hb ⊢;exact hb⟩
   ·exact .inl ⟨k,x,hx,hb⟩
 refine {slots:=kC.mono le _ _ (kC.nb _ _ S.slots) S.slots,defers:=A2,nN:= ?_,apart:= ?_,sE:= ?_,size:=by simpa using S.size,old:= ?_,nj:= ?_,B8:= ?_,u1:= ?_,rest:=S.rest,low:=⟨S.low.1,by simpa using S.low.2⟩,names:= ?_}
 ·intro k x hx;rcases nr k x hx with⟨rfl,rfl⟩|⟨hne,hx⟩
  ·exact⟨b,c',t,hφ,setRow_heap w b c c' t _ hh,kC.mono le _ _ (kC.nb _ _ hr) hr,h1⟩
  ·refine nG.mono (S.nN k x hx) le (fun b' hb'=> ?_);refine setRow_other w b b' c' (fun e=> ?_);subst e;exact hne (S.apart k l x _ b' hx hl hb' (by rw[hφ];rfl))
 ·intro k k' x x' b' hx hx' hb hb';rcases nr k x hx with⟨rfl,rfl⟩|⟨hne,hx1⟩<;>rcases nr k' x' hx' with⟨rfl,rfl⟩|⟨amr,Pm⟩
  ·rfl
  ·exact S.apart k k' _ x' b' hl Pm (by rw[hφ] at hb ⊢;exact hb) hb'
  ·exact S.apart k k' x _ b' hx1 hl hb (by rw[hφ] at hb' ⊢;exact hb')
  ·exact S.apart k k' x x' b' hx1 Pm hb hb'
 ·intro k x b' o hx hb;rcases nr k x hx with⟨rfl,rfl⟩|⟨hne,hx⟩
  ·exact S.sE k _ b' o hl (by rw[hφ] at hb ⊢;exact hb)
  ·exact S.sE k x b' o hx hb
 ·intro b' o hb' hm;by_cases e:b'=b
  ·subst e;exact absurd (S.B8 l _ b' o hl (by rw[hφ];rfl) hb') hm
  ·rw[cell_setRow_other w b c' _ e];exact S.old b' o hb' hm
 ·intro b' hb' hm;by_cases e:b'=b
  ·subst e;exact absurd (S.B8 l _ b' 0 hl (by rw[hφ];rfl) hb') (hm 0)
  ·rw[setRow_other w b b' c' e];exact S.nj b' hb' hm
 ·intro k x b' o hx hm hb';rcases nr k x hx with⟨rfl,rfl⟩|⟨hne,hx⟩
  ·exact S.B8 k _ b' o hl (by rw[hφ] at hm ⊢;exact hm) hb'
  ·exact S.B8 k x b' o hx hm hb'
 ·intro x hx;rw[<-S.u1 x hx];by_cases e:x.block=b
  ·simp only[World.frozen?];rw[e,setRow_heap w b c c' t _ hh,hh]
  grind [World.frozen?,setRow_other]
 ·intro k hk;have:=S.names k hk;by_cases e:k=l
  ·subst e;rw[aP hlt];rw[hl] at this;exact this
  grind
def ajq(S:mo C φ σ a w){ys:List AV}(ht:pd C.P t=some (g,n))(hl:σ.heap[l]? =some (.cells cs))
 (hr:kC (C.env φ σ.heap w) ys v.cells.toList) (h1: ∀u∈v.cells.toList,u.oneCell'=true) (hn:ys.length=n) (hoff:off+n<=cs.length) {p:Value}
 (hp:n8 (C.env φ σ.heap w) (.ptr l off) p):
 ∃w',(bp t p v).run C.P w= .ok () w'/\mo C φ {σ with heap:=σ.heap.set l (.cells (uP cs off ys))} a w':=by
 obtain⟨_,b,hφ,rfl⟩:=hp;simp only[pX.env] at hφ;obtain⟨b2,c,t2,hφ2,hh,rl,hone⟩:=S.nN l _ hl;have e:b2=b:=by grind
 subst e;simp only[pX.env] at hh;have hcl:c.size=cs.length:=by have:=rl.length;simpa using this
 have hvl:v.cells.size=n:=by have:=hr.length;simp at this;omega
 have hst:=run_storeCells_at C.P b2 off t2 v.cells.toList 0 c w hh (by simp;omega) h1;refine⟨_,?_,S.write hl hφ hh (c':=(c.toList.take off++v.cells.toList++c.toList.drop (off+v.cells.toList.length)).toArray) ?_ ?_⟩
 ·have hs:=(IP (C:=C) (w:=w) ht).2
  grind [bp,av,storeVar,ai,af]
 ·have e1:v.cells.toList.length=ys.length:=hr.length;rw[e1];exact((rl.take off).append hr).append (rl.drop _)
 grind
theorem ZK(off:Nat): ∀(xs:List Value)(k:Nat)(cs:Array Value),off+k+xs.length<=cs.size->
 (((xs.zipIdx k).foldl (fun cs p=>cs.setIfInBounds (off+p.2) p.1) cs).toList=cs.toList.take (off+k)++xs++cs.toList.drop (off+k+xs.length))
 |[],k,cs,_=>by simp
 |x::xs,k,cs,h=>by
  simp only[List.zipIdx_cons,List.foldl_cons];rw[ZK off xs (k+1) _ (by simp at h ⊢;omega)];have e:=list_seg_step cs.toList (off+k) x xs (by simp at h ⊢;omega)
  simp_all [bQ]
def YV{E:Env}(place:Nat->Option (Nat×Nat)): ∀(ps:List (Nat×AV))(qs:List (Nat×Value))(cs:List AV)(vs:Array Value)(out:List AV),
 kC E cs vs.toList->(∀u∈vs.toList,u.oneCell'=true)->qs.map (·.1)=ps.map (·.1)->kC E (ps.map (·.2)) (qs.map (·.2))->QX place cs ps=some out->
 ∃us,Instr.fill place vs qs=some us/\kC E out us.toList/\ ∀u∈us.toList,u.oneCell'=true
 |[],[],cs,vs,out,r,h1,_,_,h=>by
  simp only[QX] at h;cases h;exact⟨vs,rfl,r,h1⟩
 |[],_::_,_,_,_,_,_,h,_,_=>by simp at h
 |_::_,[],_,_,_,_,_,h,_,_=>by simp at h
 |(i,x)::ps,(j,v)::qs,cs,vs,out,r,h1,hi,hr,h=>by
  simp only[bq,aB] at hi;obtain⟨rfl,hi⟩:=hi;obtain⟨u,us,hus,r1,r2⟩:=hr;simp only[bq,aB] at hus;obtain⟨rfl,rfl⟩:=hus;simp only[QX] at h;split at h
  ·rename_i off size xs hp hx;split at h
   ·rename_i hc;obtain⟨hrl,hone⟩:=Ey hx r1;have hlen:=hrl.length;have hcl:=r.length;have hsz:v.cells.size=size:=by simp at hlen;omega
    have hsp:off+v.cells.size<=vs.size:=by simp at hcl;omega
    have hf:=ZK off v.cells.toList 0 vs (by simpa using hsp);simp only[Nat.add_zero] at hf
    have aye:(v.cells.zipIdx.foldl (fun cs (c,j)=>cs.setIfInBounds (off+j) c) vs).toList=vs.toList.take off++v.cells.toList++vs.toList.drop (off+v.cells.toList.length):=by
     rw[<-hf,<-Array.foldl_toList];simp
    obtain⟨us',arH,hr',ho'⟩:=YV place ps qs (uP cs off xs) (v.cells.zipIdx.foldl (fun cs (c,j)=>cs.setIfInBounds (off+j) c) vs) out (by
     rw[aye,hlen];exact((r.take off).append hrl).append (r.drop _)) (by
     grind) hi r2 h
    grind [Instr.fill]
   ·cases h
  ·cases h
theorem ajr(S:mo C φ σ a w)(hb:zb C.P t=true)(hz:ou C.P t=some z)
 (hf:QX (mi C.P t) z (parts.toList.map fun p=>(p.1,σ.ev p.2))=some cs):
 ∃v,(Instr.build t (parts.map fun(i,x)=>(i,a.eval x))).run C.P w= .ok v w/\n8 (C.env φ σ.heap w) (.agg cs) v:=by
 have Q1: ∀ps:List (Nat×Operand),kC (C.env φ σ.heap w) ((ps.map fun p=>(p.1,σ.ev p.2)).map (·.2)) ((ps.map fun p=>(p.1,a.eval p.2)).map (·.2)):=by
  intro ps;induction ps with
  |nil=>rfl
  |cons p ps ih=>exact⟨_,_,rfl,S.ev p.2,ih⟩
 unfold ou at hz;cases hi:C.P.info? t with
 |none=>simp [hi] at hz
 |some it=>
  simp only[hi] at hz;cases hz0:it.zero with
  |none=>simp [hz0] at hz
  |some zv=>
   simp only[hz0] at hz;split at hz
   case isFalse=>cases hz
   rename_i hone;cases hz;obtain⟨us,hus,hr,_⟩:=YV (mi C.P t) _ (parts.toList.map fun p=>(p.1,a.eval p.2)) _ zv.cells cs (Q0 (C.env φ σ.heap w) zv.cells.toList) (bw.1 hone) (by simp) (Q1 _) hf;refine⟨.agg us,run_build w t _ us ?_,us,rfl,hr⟩;have au6:(parts.map fun(i,x)=>(i,a.eval x)).toList=parts.toList.map fun p=>(p.1,a.eval p.2):=by simp
   rw[au6];unfold zb at hb;unfold Program.built;cases hu:C.P.underlying t with
   |none=>simp [Nn,hu] at hb
   |some d=>
    cases d<;>try (simp [Nn,hu] at hb;done)
    case array n e=>
     cases he:C.P.info? e with
     |none=>simp [Nn,hu,he] at hb
     |some ie=>
      have:mi C.P t=fun i=>some (i*ie.size,ie.size):=by grind [mi,Nn]
      grind
    case struct fs=>
     cases hp:fs.toList.mapM (fun f=>(C.P.info? f.type).map fun i=>(f.offset,i.size)) with
     |none=>simp [Nn,hu,hp] at hb
     |some pl=>
      have:mi C.P t=fun i=>pl.toArray[i]? :=by grind [mi,Nn]
      grind
end sound
section sound

def LH {e:TypeId}{sz bytes:Nat}(h:nF P t=some (e,sz,bytes)):P.underlying t=some (.slice e)/\ ∃i,P.info? e=some i/\i.size=sz/\i.bytes=bytes:=by
 grind [nF]
theorem X7(z:List Value): ∀n,(bP (n*z.length)).map (fun i=>z.toArray[i % z.length]!)=(am n z).flatten
 |0=>by simp
 |n+1=>by
  rw[ax,bZ,Nat.add_comm,List.range_add,List.map_append,List.map_map,bU,aC,<-X7 z n];congr 1
  ·apply List.ext_getElem?
   grind [Nat.mod_eq_of_lt]
  simp_all
theorem Ae{α:Type}{sz:Nat}: ∀{rows:List (List α)},(∀r∈rows,r.length=sz)->rows.flatten.length=rows.length*sz
 |[],_=>by simp
 |r::rows,h=>by
  simp only[aC,List.length_append,a8,ax,bZ];rw[Ae (fun q hq=>h q (by simp [hq])),h r (by simp)];omega
theorem ab7{sz:Nat}: ∀{rows:List (List AV)}{i:Nat}{xs:List AV},(∀r∈rows,r.length=sz)->i<rows.length->xs.length=sz->
 (rows.set i xs).flatten=uP rows.flatten (i*sz) xs
 |[],_,_,_,h,_=>by simp at h
 |r::rows,0,xs,hl,_,hx=>by
  grind [uP]
 |r::rows,i+1,xs,hl,hi,hx=>by
  have hr:=hl r (by simp);have ih:=ab7 (rows:=rows) (i:=i) (xs:=xs) (fun q hq=>hl q (bN _ hq)) (by simpa using hi) hx;simp only[List.set_cons_succ,aC,ih,uP];have e1:(i+1)*sz=r.length+i*sz:=by rw[ax,hr];omega
  have e2:(i+1)*sz+xs.length=r.length+(i*sz+xs.length):=by omega
  rw[e2,e1,List.take_length_add_append,List.drop_length_add_append];simp
def ab8{sz:Nat}: ∀{ps:List (Nat×AV)}{rows out:List (List AV)},(∀r∈rows,r.length=sz)->rowsOf sz rows ps=some out->
 QX (fun i=>some (i*sz,sz)) rows.flatten ps=some out.flatten/\out.length=rows.length/\ ∀r∈out,r.length=sz
 |[],rows,out,hl,h=>by
  simp only[rowsOf] at h;cases h;exact⟨rfl,rfl,hl⟩
 |(i,x)::ps,rows,out,hl,h=>by
  simp only[rowsOf] at h;split at h
  ·rename_i xs hx;split at h
   ·rename_i hc
    have QT: ∀r∈rows.set i xs,r.length=sz:=by
     grind
    obtain⟨h1,h2,h3⟩:=ab8 QT h;refine⟨?_,by simpa using h2,h3⟩;simp only[QX,hx];have hfl:=Ae hl
    have:i*sz+sz<=rows.length*sz:=by
     have:(i+1)*sz<=rows.length*sz:=ar _ hc.1;rw[ax] at this;omega
    grind [ab7]
   ·cases h
  ·cases h
theorem A3{E:Env}{z:List AV}{vs:List Value}(r:kC E z vs): ∀n,kC E (am n z).flatten (am n vs).flatten
 |0=>by simp [kC]
 |n+1=>by
  simp only[bU,aC];exact r.append (A3 r n)
theorem ZL(zv:Value)(n sz:Nat)(hz:zv.cells.size=sz):
 ((bo (n*sz)).map (fun i=>(if n*sz=0 then(#[]:Array Value) else zv.cells)[i % (if n*sz=0 then(#[]:Array Value) else zv.cells).size]!)).toList=(am n zv.cells.toList).flatten:=by
 have:=X7 zv.cells.toList n;simp only[bj,hz] at this;rw[<-this];by_cases h:n*sz=0
 ·simp [h]
 ·simp [h,hz]
def UX(S:mo C φ σ a w){e:TypeId}{len sz bytes:Nat}(ht:nF C.P t=some (e,sz,bytes))
 (hz:ou C.P e=some z) (hl:z.length=sz/\len*sz<=16777216) (hf:rowsOf sz (am len z) (parts.toList.map fun p=>(p.1,σ.ev p.2))=some rows):
 ∃us:Array Value,(aI t len (parts.map fun(i,x)=>(i,a.eval x))).run C.P w= .ok (.slice (some ⟨w.heap.size,0,none⟩) len len) (World.more w (.cells us e))/\
  kC (C.env φ σ.heap w) rows.flatten us.toList/\(∀u∈us.toList,u.oneCell'=true)/\rows.length=len/\(∀r∈rows,r.length=sz)/\us.toList.length=len*sz:=by
 obtain⟨hu,i,hi,rfl,rfl⟩:=LH ht
 have Q1: ∀ps:List (Nat×Operand),kC (C.env φ σ.heap w) ((ps.map fun p=>(p.1,σ.ev p.2)).map (·.2)) ((ps.map fun p=>(p.1,a.eval p.2)).map (·.2)):=by
  intro ps;induction ps with
  |nil=>rfl
  |cons p ps ih=>exact⟨_,_,rfl,S.ev p.2,ih⟩
 obtain⟨zv,hzr,arI,az7⟩:=W8 (w:=w) hz;have hzl:zv.cells.size=i.size:=by have:=(arI (C.env φ σ.heap w)).length;simp at this;omega
 have hrl: ∀r∈am len z,r.length=i.size:=by
  grind
 obtain⟨h1,h2,h3⟩:=ab8 hrl hf
 have hbase:kC (C.env φ σ.heap w) (am len z).flatten ((bo (len*i.size)).map (fun j=>(if len*i.size=0 then(#[]:Array Value) else zv.cells)[j % (if len*i.size=0 then(#[]:Array Value) else zv.cells).size]!)).toList:=by
  grind [ZL,A3]
 obtain⟨us,hus,hr,hone⟩:=YV (fun j=>some (j*i.size,i.size)) _ (parts.toList.map fun p=>(p.1,a.eval p.2)) _ _ rows.flatten hbase (by
  grind [ZL,List.mem_flatten]) (by simp) (Q1 _) h1
 have hlen:rows.length=len:=by simpa using h2
 have arH:us.toList.length=len*i.size:=by
  rw[hr.length,Ae h3,hlen]
 refine⟨us,?_,hr,hone,hlen,h3,arH⟩;have au6:(parts.map fun(i,x)=>(i,a.eval x)).toList=parts.toList.map fun p=>(p.1,a.eval p.2):=by simp
 have hsz:(sizeOf e).run C.P w= .ok i.size w:=by simp [sizeOf,typeInfo,hi]
 by_cases h0:len*i.size=0
 ·simp only[h0,jU] at hus;simp only[aI,ai,run_underlying hu,af,hsz,h0,jU,au6];simp only[bF,if_false,gt_iff_lt];simp only[hus,newRow,ai,run_newObj,af,aq];rfl
 ·simp only[h0,if_false] at hus;have hle: ¬ (len*i.size>2 ^ 24):=by omega
  simp only[aI,ai,run_underlying hu,af,hsz,h0,if_false,aq,au6,hle,hzr];simp only[hus,newRow,ai,run_newObj,af,aq];rfl
def aa8(S:mo C φ σ a w){e:TypeId}{len sz bytes:Nat}(ht:nF C.P t=some (e,sz,bytes))
 (hz:ou C.P e=some z) (hl:z.length=sz/\len*sz<=16777216) (hf:rowsOf sz (am len z) (parts.toList.map fun p=>(p.1,σ.ev p.2))=some rows):
 ∃v c,(aI t len (parts.map fun(i,x)=>(i,a.eval x))).run C.P w= .ok v (World.more w (.cells c e))/\
  n8 (C.env φ σ.heap (World.more w (.cells c e))) (.mb true sz rows) v:=by
 obtain⟨us,hrun,hr,hone,hlen,h3,arH⟩:=UX S ht hz hl hf;refine⟨.slice (some ⟨w.heap.size,0,none⟩) len len,us,hrun,some ⟨w.heap.size,0,none⟩,len,by rw[hlen],by omega,fun _=>hlen.symm,by simp,by simp,?_⟩
 grind [ab5]
end sound
section sound

def run_append_fits {u e:TypeId}{i:TypeInfo}{sLen sCap:Nat}{x:Value}(hu:P.underlying t=some (.slice e))(hi:P.info? e=some i)
 (hd:P.underlying u=some d) (hni: ∀k,d≠ .int k) (hlen:(bR x).run P w= .ok n w) (hsrc:(an i.size n x).run P w= .ok us w) (hfit:sLen+n<=sCap):
 (ap #[t,u] ty #[.slice base sLen sCap,x]).run P w=
   (match base with|some a=>(storeCells (a.add (sLen*i.size)) us.toList).run P w|none=> .ok () w).andThen fun _ w'=> .ok (.slice base (sLen+n) sCap) w':=by
 have hsz:(sizeOf e).run P w= .ok i.size w:=by simp [sizeOf,typeInfo,hi]
 cases d<;>try (exact absurd rfl (hni _))
 all_goals
  simp only[ap,bJ,aL,bE,ai,run_underlying hu,run_underlying hd,af,hsz,hlen,hfit,jU,aq,az,if_false,bK,hsrc];cases base with
  |none=>rfl
  |some b=>simp only[ai,aq]
theorem agN(newLen:Nat): ∀(r c:Nat),256<=c->bL newLen r c<=2 ^ r*c
 |0,c,_=>by simp [bL]
 |r+1,c,h=>by
  unfold bL;split
  ·have:1<=2 ^ (r+1):=Nat.one_le_two_pow
   calc c=1*c:=by omega
    _<=_:=ar _ this
  ·have h1:=agN newLen r (c+(c+768) / 4) (by omega);have h2:c+(c+768) / 4<=2*c:=by omega
   calc _<=2 ^ r*(c+(c+768) / 4):=h1
    _<=2 ^ r*(2*c):=Nat.mul_le_mul_left _ h2
    _=2 ^ (r+1)*c:=by grind
def ams{need cap:Nat}(h:cap<need):be need cap<=16*need:=by
 grind [be,agN]
def Pp {u e:TypeId}{i:TypeInfo}{sLen sCap:Nat}{x zv:Value}{old:Array Value}(hu:P.underlying t=some (.slice e))(hi:P.info? e=some i)
 (hd:P.underlying u=some d) (hni: ∀k,d≠ .int k) (hlen:(bR x).run P w= .ok n w) (hsrc: ∀k,(an i.size n x).run P {w with drawn:=k}= .ok us {w with drawn:=k})
 (hold: ∀k,(an i.size sLen (.slice base sLen sCap)).run P {w with drawn:=k}= .ok old {w with drawn:=k}) (hz:i.zero=some zv)
 (aCh:sCap<sLen+n) (hroom:(sLen+n)*i.bytes<=2 ^ 44) (hb:0<i.bytes):
 ∃cap,sLen+n<=cap/\(ap #[t,u] ty #[.slice base sLen sCap,x]).run P w=
  .ok (.slice (some ⟨w.heap.size,0,none⟩) (sLen+n) cap) (World.more {w with drawn:=w.drawn+1} (.cells (old++us++bt zv.cells (cap-(sLen+n))) e)):=by
 have hsz: ∀w:World,(sizeOf e).run P w= .ok i.size w:=fun w=>by simp [sizeOf,typeInfo,hi]
 have hti: ∀w:World,(typeInfo e).run P w= .ok i w:=fun w=>by simp [typeInfo,hi]
 have hzv: ∀w:World,(zeroValue e).run P w= .ok zv w:=fun w=>by simp [zeroValue,typeInfo,hi,hz]
 have aDm:sLen+n<=2 ^ 44:=bz (Nat.le_mul_of_pos_right _ hb) hroom
 have hcap: ¬ (be (sLen+n) sCap*i.bytes>2 ^ 48):=by
  have h1:=ar i.bytes (ams aCh);rw[Nat.mul_assoc] at h1;omega
 have hb0:i.bytes≠0:=by omega
 have hfit: ¬ (sLen+n<=sCap):=by omega
 refine⟨(sLen+n)+w.tape w.drawn (.appendCap (sLen+n) sCap e) % (2 ^ 63-(sLen+n)),by omega,?_⟩;cases d<;>try (exact absurd rfl (hni _))
 all_goals
  simp only[ap,bJ,aL,bE,ai,run_underlying hu,run_underlying hd,af,hsz,hlen,hfit,if_false,aq,hti,az,hb0,or_self,and_false,hcap,run_choose,Question.forced,Question.cut,run_askRoom,hold,hsrc,hzv,bK,jU,newRow,run_newObj];rfl
def mo.amt(S:mo C φ σ a w){sz:Nat}{rT:Bool}(hl:σ.heap[l]? =some (.acc rT sz rows))(hys:0<ys.length\/h'=φ l)
 (hsize:w.heap.size<=w'.heap.size)
 (hcell: ∀b o,b<w.heap.size-> ¬ (kq.acc rT sz rows).yy (φ l) b o->w'.cell? ⟨b,o,none⟩=w.cell? ⟨b,o,none⟩)
 (Nl: ∀b,b<w.heap.size-> ¬ (kq.acc rT sz rows).block (φ l) b->w'.heap[b]? =w.heap[b]?)
 (arJ: ∀x,w'.frozen? x=w.frozen? x) (rE:w'.output=w.output/\w'.os=w.os)
 (LI: ∀b,(kq.acc rT sz (rows++ys)).block h' b->(kq.acc rT sz rows).block (φ l) b\/w.heap.size<=b)
 (ab9: ∀b o,(kq.acc rT sz (rows++ys)).yy h' b o->(kq.acc rT sz rows).yy (φ l) b o\/w.heap.size<=b)
 (Kq: ∀E',(C.env φ σ.heap w).Le σ.heap.length E'->E'.w=w'->nG E' (.acc rT sz (rows++ys)) h'):
 mo C (fun k=>if k=l then h' else φ k) {σ with heap:=σ.heap.set l (.acc rT sz (rows++ys))} a w':=by
 have hlt:l<σ.heap.length:=(ak.1 hl).1
 let φ':Nat->Value:=fun k=>if k=l then h' else φ k
 have hφl:φ' l=h':=by simp [φ']
 have hφk: ∀k,k≠l->φ' k=φ k:=fun k hk=>by simp [φ',hk]
 have nr: ∀(k:Nat)(x:kq),(σ.heap.set l (.acc rT sz (rows++ys)))[k]? =some x->(k=l/\x= .acc rT sz (rows++ys))\/(k≠l/\σ.heap[k]? =some x):=by
  grind
 have aDv: ∀a,φ l≠ .pointer a:=by
  obtain⟨base,cap,hh,_⟩:=S.nN l _ hl;intro a;rw[hh];simp
 have aDn:hdl (φ l)=none:=by
  obtain⟨base,cap,hh,_⟩:=S.nN l _ hl;rw[hh];rfl
 have Km: ∀b o,Eh φ' (σ.heap.set l (.acc rT sz (rows++ys))) b o->Eh φ σ.heap b o\/w.heap.size<=b:=by
  rintro b o ⟨k,x,hx,hm⟩;rcases nr k x hx with⟨rfl,rfl⟩|⟨hne,hx⟩
  ·rw[hφl] at hm;exact(ab9 b o hm).imp (fun h=>⟨k,_,hl,h⟩) id
  ·rw[hφk k hne] at hm;exact .inl ⟨k,x,hx,hm⟩
 have le:(C.env φ σ.heap w).Le σ.heap.length (C.env φ' (σ.heap.set l (.acc rT sz (rows++ys))) w'):=by
  refine⟨by simp [pX.env],fun k hk=> ?_,fun b o u hm hc=> ?_⟩
  ·grind [pX.env,lT]
  ·have hb:=E9 hc;simp only[pX.env] at hb hm ⊢;refine⟨fun h=> ?_,?_⟩
   ·grind
   ·rw[hcell b o hb (fun h=>hm (.inl ⟨l,_,hl,h⟩))];exact hc
 have A2:qT C φ' (σ.heap.set l (.acc rT sz (rows++ys))) w' σ.df a.defers:=by
  refine S.defers.step le (fun b hb hno=>Nl b hb (hno l _ hl)) (fun k x b hx hb=> ?_)
  grind
 refine {slots:=kC.mono le _ _ (kC.nb _ _ S.slots) S.slots,defers:=A2,nN:= ?_,apart:= ?_,sE:= ?_,size:=bz S.size hsize,old:= ?_,nj:= ?_,B8:= ?_,u1:=fun x hx=>by rw[arJ];exact S.u1 x hx,rest:=⟨by rw[rE.1];exact S.rest.1,by rw[rE.2];exact S.rest.2⟩,low:=⟨S.low.1,by simpa using S.low.2⟩,names:= ?_}
 ·intro k x hx;rcases nr k x hx with⟨rfl,rfl⟩|⟨hne,hx⟩
  ·have:=Kq _ le rfl;simpa using this
  ·have r0:=S.nN k x hx
   have:nG (C.env φ' (σ.heap.set l (.acc rT sz (rows++ys))) w') x (φ k):=by
    refine nG.mono r0 le (fun b hb=>Nl b (r0.p4 hb) (fun h=> ?_));exact hne (S.apart k l x _ b hx hl hb h)
   simpa [hne] using this
 ·intro k k' x x' b hx hx' hb hb';rcases nr k x hx with⟨rfl,rfl⟩|⟨hne,hx1⟩<;>rcases nr k' x' hx' with⟨rfl,rfl⟩|⟨amr,Pm⟩
  ·rfl
  ·simp only[jU] at hb;simp only[amr,if_false] at hb';rcases LI b hb with h|h
   ·exact S.apart k k' _ x' b hl Pm h hb'
   ·have:=(S.nN k' x' Pm).p4 hb';simp only[pX.env] at this;omega
  ·simp only[jU] at hb';simp only[hne,if_false] at hb;rcases LI b hb' with h|h
   ·exact S.apart k k' x _ b hx1 hl hb h
   ·have:=(S.nN k x hx1).p4 hb;simp only[pX.env] at this;omega
  ·simp only[hne,amr,if_false] at hb hb';exact S.apart k k' x x' b hx1 Pm hb hb'
 ·intro k x b o hx hb;rcases nr k x hx with⟨rfl,rfl⟩|⟨hne,hx1⟩
  ·simp only[jU] at hb;rcases LI b hb with h|h
   ·exact S.sE k _ b o hl h
   ·intro hA;have:=C.hA _ _ hA;have:=S.size;omega
  ·simp only[hne,if_false] at hb;exact S.sE k x b o hx1 hb
 ·intro b o hb hm;rw[hcell b o (ae hb S.size) (fun h=>hm (S.B8 l _ b o hl h hb))];exact S.old b o hb hm
 ·intro b hb hm;rw[Nl b (ae hb S.size) (fun h=> ?_)]
  ·exact S.nj b hb hm
  ·obtain⟨base,cap,hh,_⟩:=S.nN l _ hl;rw[hh] at h;cases base with
   |none=>simp [kq.block] at h
   |some a0=>
    simp only[kq.block] at h;exact hm (a0.off+rows.length*sz) (S.B8 l _ b _ hl (by rw[hh];exact⟨h,fun _=>au _⟩) hb)
 ·intro k x b o hx hm hb;rcases nr k x hx with⟨rfl,rfl⟩|⟨hne,hx1⟩
  ·simp only[jU] at hm;rcases ab9 b o hm with h|h
   ·exact S.B8 k _ b o hl h hb
   ·have:=S.size;omega
  ·simp only[hne,if_false] at hm;exact S.B8 k x b o hx1 hm hb
 ·intro k hk;have:=S.names k hk
  grind [lT]
def mo.Q2(S:mo C φ σ a w){rT:Bool}{sz:Nat}
 (hsize:w.heap.size<=w'.heap.size) (Nl: ∀b,b<w.heap.size->w'.heap[b]? =w.heap[b]?)
 (arJ: ∀x,w'.frozen? x=w.frozen? x) (rE:w'.output=w.output/\w'.os=w.os)
 (LI: ∀b,(kq.acc rT sz rows).block h' b->w.heap.size<=b)
 (Kq: ∀E',(C.env φ σ.heap w).Le σ.heap.length E'->E'.w=w'->nG E' (.acc rT sz rows) h'):
 mo C (fun k=>if k=σ.heap.length then h' else φ k) {σ with heap:=σ.heap++[.acc rT sz rows]} a w':=by
 let φ':Nat->Value:=fun k=>if k=σ.heap.length then h' else φ k
 have hφ: ∀l,l<σ.heap.length->φ' l=φ l:=fun l hl=>by grind
 have nr: ∀(l:Nat)(x:kq),(σ.heap++[.acc rT sz rows])[l]? =some x->(l<σ.heap.length/\σ.heap[l]? =some x)\/(l=σ.heap.length/\x= .acc rT sz rows):=by
  grind
 have hcell: ∀b o,b<w.heap.size->w'.cell? ⟨b,o,none⟩=w.cell? ⟨b,o,none⟩:=by
  grind [World.cell?]
 have Km: ∀b o,Eh φ' (σ.heap++[.acc rT sz rows]) b o->w.heap.size<=b\/Eh φ σ.heap b o:=by
  rintro b o ⟨l,x,hx,hm⟩;rcases nr l x hx with⟨hl,hx⟩|⟨rfl,rfl⟩
  ·rw[hφ l hl] at hm;exact .inr ⟨l,x,hx,hm⟩
  ·simp only[φ',jU] at hm;exact .inl (LI b (kq.nC hm))
 have le:(C.env φ σ.heap w).Le σ.heap.length (C.env φ' (σ.heap++[.acc rT sz rows]) w'):=by
  refine pX.A1 (by simp) (fun l hl=>⟨hφ l hl,by rw[aw hl]⟩) (fun b i u hm hc=> ?_)
  grind [E9]
 have A2:qT C φ' (σ.heap++[.acc rT sz rows]) w' σ.df a.defers:=by
  refine S.defers.step le (fun b hb _=>Nl b hb) (fun l x b hx hb=> ?_)
  grind
 refine {slots:=kC.mono le _ _ (kC.nb _ _ S.slots) S.slots,defers:=A2,nN:= ?_,apart:= ?_,sE:= ?_,size:=bz S.size hsize,old:= ?_,nj:= ?_,B8:= ?_,u1:=fun x hx=>by rw[arJ];exact S.u1 x hx,rest:=⟨by rw[rE.1];exact S.rest.1,by rw[rE.2];exact S.rest.2⟩,low:=⟨S.low.1,by have:=S.low.2;simp;omega⟩,names:= ?_}
 ·intro l x hx;rcases nr l x hx with⟨hl,hx⟩|⟨rfl,rfl⟩
  ·have r0:=S.nN l x hx;have:nG (C.env φ' (σ.heap++[.acc rT sz rows]) w') x (φ l):=nG.mono r0 le (fun b hb=>Nl b (r0.p4 hb))
   grind
  ·have:=Kq _ le rfl;simpa using this
 ·intro l l' x x' b hx hx' hb hb';rcases nr l x hx with⟨hl,hx1⟩|⟨rfl,rfl⟩<;>rcases nr l' x' hx' with⟨QT,Pm⟩|⟨rfl,rfl⟩
  ·rw[show(if l=σ.heap.length then _ else φ l)=φ l from hφ l hl] at hb;rw[show(if l'=σ.heap.length then _ else φ l')=φ l' from hφ l' QT] at hb';exact S.apart l l' x x' b hx1 Pm hb hb'
  ·rw[show(if l=σ.heap.length then _ else φ l)=φ l from hφ l hl] at hb;have:=(S.nN l x hx1).p4 hb
   grind [pX.env]
  ·rw[show(if l'=σ.heap.length then _ else φ l')=φ l' from hφ l' QT] at hb';have:=(S.nN l' x' Pm).p4 hb'
   grind [pX.env]
  ·rfl
 ·intro l x b o hx hb;rcases nr l x hx with⟨hl,hx1⟩|⟨rfl,rfl⟩
  ·rw[show(if l=σ.heap.length then _ else φ l)=φ l from hφ l hl] at hb;exact S.sE l x b o hx1 hb
  ·simp only[jU] at hb;intro hA;have:=C.hA _ _ hA;have:=LI b hb;have:=S.size;omega
 ·intro b i hb hm;rw[hcell b i (ae hb S.size)];exact S.old b i hb hm
 ·intro b hb hm;rw[Nl b (ae hb S.size)];exact S.nj b hb hm
 ·intro l x b o hx hm hb;rcases nr l x hx with⟨hl,hx1⟩|⟨rfl,rfl⟩
  ·rw[show(if l=σ.heap.length then _ else φ l)=φ l from hφ l hl] at hm;exact S.B8 l x b o hx1 hm hb
  ·simp only[jU] at hm;have:=LI b (kq.nC hm);have:=S.size;omega
 ·intro l hl;have hlt:l<σ.heap.length:=by have:=S.low;omega
  have:=S.names l hl
  grind
end sound
section sound

def UY{E:Env}{sz b:Nat}: ∀{rows:List (List AV)}{off:Nat},mU E sz b off rows->ni E b off rows.flatten/\ ∀r∈rows,r.length=sz
 |[],_,_=>⟨trivial,by simp⟩
 |r::rows,off,⟨h1,h2,h3⟩=>by
  obtain⟨m,hl⟩:=UY h3
  grind [ni.append]
def X8{E:Env}{b:Nat}: ∀{cs:List AV}{off:Nat}{us:List Value},ni E b off cs->kC E cs us->(∀j u,us[j]? =some u->E.w.cell? ⟨b,off+j,none⟩=some u)-> ∀u∈us,u.oneCell'=true
 |[],_,_,_,rfl,_=>by simp
 |c::cs,off,_,⟨⟨_,u,hu,h1,_⟩,r2⟩,⟨u',us,rfl,_,rl⟩,hc=>by
  intro v hv;simp only[aG] at hv;rcases hv with rfl|hv
  ·have:=hc 0 v (by simp)
   grind
  ·exact X8 r2 rl (fun j w hj=>by rw[<-hc (j+1) w (by simpa using hj)];congr 2;omega) v hv
def Reads(P:Program)(E:Env)(sz:Nat)(rows:List (List AV))(v:Value):Prop:=
 ∃us:List Value,kC E rows.flatten us/\us.length=rows.length*sz/\(∀r∈rows,r.length=sz)/\(∀u∈us,u.oneCell'=true)/\
  ∀k,(an sz rows.length v).run P {E.w with drawn:=k}= .ok us.toArray {E.w with drawn:=k}
def agO{sz KI:Nat}{t:Bool}(h:KI=sz\/rows.length=0)(r:n8 E (.mb t KI rows) v):Reads P E sz rows v:=by
 obtain⟨base,cap,rfl,h2,h3,h4,h5,h6⟩:=r;cases base with
 |none=>
  have h0:rows.length=0:=by have:=h4 rfl;omega
  have:rows=[]:=ah h0;subst this;exact⟨[],rfl,by simp,by simp,by simp,fun k=>by simp [an]⟩
 |some a=>
  by_cases hr:rows=[]
  ·subst hr;exact⟨[],rfl,by simp,by simp,by simp,fun k=>by simp [an,loadCells,loadCellsFrom]⟩
  ·have hsz:KI=sz:=by
    grind
   subst hsz;obtain⟨m,hl⟩:=UY (h6 a rfl);obtain⟨us,rl,hc⟩:=Kp m;have hone:=X8 m rl hc;have hlen:us.length=rows.length*KI:=by rw[rl.length,Ae hl]
   refine⟨us,rl,hlen,hl,hone,fun k=> ?_⟩;have hsp:=h5 a rfl hr;have ha:a=⟨a.block,a.off,none⟩:=by cases a;simp_all
   have:=run_loadCells_list (P:=P) {E.w with drawn:=k} a us (fun j v hj=>by
    rw[ha,add_plain];exact hc j v hj)
   grind [an]
def agP(S:mo C φ σ a w){sz:Nat}{rT:Bool}(hl:σ.heap[l]? =some (.acc rT sz rows)):Reads P (C.env φ σ.heap w) sz rows (φ l):=by
 obtain⟨base,cap,hh,h2,h3,h4,h5⟩:=S.nN l _ hl;rw[hh];cases base with
 |none=>
  have h0:rows.length=0:=by have:=h3 rfl;omega
  have:rows=[]:=ah h0;subst this;exact⟨[],rfl,by simp,by simp,by simp,fun k=>by simp [an]⟩
 |some b=>
  by_cases hcap:cap=0
  ·have h0:rows.length=0:=by omega
   have:rows=[]:=ah h0;subst this;exact⟨[],rfl,by simp,by simp,by simp,fun k=>by simp [an,loadCells,loadCellsFrom]⟩
  ·obtain⟨hsp,c,t,hc,hsz,rl,hone⟩:=h5 b rfl hcap;have hle:rows.length*sz<=cap*sz:=ar _ h2
   have hlen:((c.toList.drop b.off).take (rows.length*sz)).length=rows.length*sz:=by
    grind
   refine⟨_,rl,hlen,h4,hone,fun k=> ?_⟩;have ha:b=⟨b.block,b.off,none⟩:=by cases b;simp_all
   grind [run_loadCells_list,add_plain,World.cell?,an]
def Je(_S:mo C φ σ a w){sz:Nat}{rT:Bool}(hl:σ.heap[l]? =some (.acc rT sz rows))(hn:rows.length=n)
 (r:n8 (C.env φ σ.heap w) (.acc l n) v):v=φ l:=by
 obtain⟨_,_,h⟩:=r
 grind [pX.env,lT]
def UZ (S:mo C φ σ a w){sz:Nat} (hl:σ.heap[l]? =some (.acc true sz rows)):n8 (C.env φ σ.heap w) (.mb false sz rows) (φ l):=by
 obtain⟨base,cap,hh,h2,h3,h4,h5⟩:=S.nN l _ hl;refine⟨base,cap,hh,h2,(by intro h;cases h),h3,?_,?_⟩
 ·intro b hb hne;have hc:cap≠0:=fun h0=>hne (ah (by omega))
  exact(h5 b hb hc).1
 ·intro b hb;by_cases hc:cap=0
  ·have:rows=[]:=ah (by omega);subst this;trivial
  ·obtain⟨hsp,c,t,hcb,hsz,rl,hone⟩:=h5 b hb hc;subst hb;have hle:rows.length*sz<=cap*sz:=ar _ h2
   have hnm: ∀o,o<b.off+rows.length*sz-> ¬ (Eh φ σ.heap b.block o\/C.A b.block o):=by
    intro o ho YT;have hbl:(kq.acc true sz rows).block (φ l) b.block:=by rw[hh];exact⟨rfl,hc⟩
    rcases YT with⟨l',x,hx,hm⟩|hA
    ·have e:=S.apart l' l x _ b.block hx hl (kq.nC hm) hbl;subst e;rw[hl] at hx;cases hx;rw[hh] at hm;have:=hm.2 rfl;omega
    ·exact S.sE l _ b.block o hl hbl hA
   have key: ∀ (rs:List (List AV)) (off:Nat),(∀r∈rs,r.length=sz)->off+rs.length*sz<=b.off+rows.length*sz->
    kC (C.env φ σ.heap w) rs.flatten ((c.toList.drop off).take (rs.length*sz))->(∀u∈(c.toList.drop off).take (rs.length*sz),u.oneCell'=true)->mU (C.env φ σ.heap w) sz b.block off rs:=by
    have mem: ∀(cs:List AV)(off:Nat),off+cs.length<=b.off+rows.length*sz->kC (C.env φ σ.heap w) cs ((c.toList.drop off).take cs.length)->(∀u∈(c.toList.drop off).take cs.length,u.oneCell'=true)->
     ni (C.env φ σ.heap w) b.block off cs:=by
     intro cs;induction cs with
     |nil=>intro _ _ _ _;trivial
     |cons x cs ih=>
      intro off ho r h1;obtain⟨u,us,hu,r1,r2⟩:=r
      have hcu:c[off]? =some u:=by
       have:(c.toList.drop off)[0]? =some u:=by
        have:=congrArg (fun l:List Value=>l[0]?) hu;simpa using this
       simpa using this
      have htl:us=(c.toList.drop (off+1)).take cs.length:=by
       have h1:=congrArg List.tail hu;simp only[List.tail_cons] at h1;rw[<-h1];cases hd:c.toList.drop off with
       |nil=>rw[hd] at hu;simp at hu
       |cons y ys=>
        grind [bn]
      simp only[a8] at ho;simp only[pX.env] at hcb;refine⟨⟨hnm off (by omega),u,by grind [pX.env,World.cell?],h1 u (by rw[hu];simp),r1⟩,ih (off+1) (by omega) (by rw[<-htl];exact r2) (fun v hv=>h1 v (by rw[hu,htl];simp [hv]))⟩
    intro rs;induction rs with
    |nil=>intro _ _ _ _ _;trivial
    |cons r rs ih=>
     intro off QT ho h h1;have hr:r.length=sz:=QT r (by simp);simp only[aC] at h;have h3:=kC.take r.length h;have h2:=kC.drop r.length h;simp only[bb,bc,bI,aY,aR] at h3 h2
     have e1:min r.length ((r::rs).length*sz)=r.length:=by
      grind [ax]
     have e2:(r::rs).length*sz-r.length=rs.length*sz:=by grind [ax]
     simp only[a8,ax,bZ] at ho;rw[e1] at h3;rw[e2,hr] at h2;refine⟨hr,mem r off (by omega) h3 (fun u hu=>h1 u ?_),ih (off+sz) (fun q hq=>QT q (by simp [hq])) (by omega) h2 (fun u hu=>h1 u ?_)⟩
     ·have:(c.toList.drop off).take r.length=((c.toList.drop off).take ((r::rs).length*sz)).take r.length:=by rw[bI,e1]
      grind
     ·have:(c.toList.drop (off+sz)).take (rs.length*sz)=((c.toList.drop off).take ((r::rs).length*sz)).drop sz:=by
       grind [aY,aR]
      grind
   grind
def afI(S:mo C φ σ a w){sz:Nat}(h:QY σ sz y=some (rd,ys))(r:n8 (C.env φ σ.heap w) y v):
 Reads P (C.env φ σ.heap w) sz ys v/\(bR v).run P w= .ok ys.length w:=by
 unfold QY at h;split at h
 ·split at h
  ·rename_i hc;cases h;refine⟨agO hc r,?_⟩;obtain⟨_,_,rfl,_⟩:=r;rfl
  ·cases h
 ·split at h
  ·rename_i hl;split at h
   ·rename_i hc;cases h;have hv:=Je S hl hc.2 r;subst hv;refine⟨hc.1 ▸ agP S hl,?_⟩;obtain⟨base,cap,hh,_⟩:=S.nN _ _ hl;rw[hh];rfl
   ·cases h
  ·cases h
 ·cases h;have r:v=_:=r;subst r;exact⟨⟨[],rfl,by simp,by simp,by simp,fun k=>by rename_i base cap;cases base<;>simp [an,loadCells,loadCellsFrom]⟩,rfl⟩
 ·cases h
theorem U0(z:Array Value)(n:Nat):(bt z n).size=n*z.size:=by simp [bt]
def adO {sz cap:Nat}{e:TypeId}{us:List Value}{zs:Array Value}{rT:Bool}(hrows: ∀r∈rows,r.length=sz)
 (hr:kC E' rows.flatten us) (hone: ∀u∈us,u.oneCell'=true) (hw:E'.w.heap[b]? =some (.cells c e (0,0))) (hc:c.toList=us++zs.toList) (hz:zs.size=(cap-rows.length)*sz) (hle:rows.length<=cap):
 nG E' (.acc rT sz rows) (.slice (some ⟨b,0,none⟩) rows.length cap):=by
 have hus:us.length=rows.length*sz:=by rw[hr.length,Ae hrows]
 refine⟨some ⟨b,0,none⟩,cap,rfl,hle,by simp,hrows,fun a ha _=> ?_⟩;simp only[aj] at ha;subst ha;refine⟨rfl,c,e,hw,?_,?_⟩
 ·have:c.size=rows.length*sz+(cap-rows.length)*sz:=by grind [bj]
  rw[this,<-ax]
  grind
 grind
theorem adP(σ:jZ)(dst:Option Tmp)(x:AV)(rd:List Nat)(l:Nat)(o:kq)(p:Prop):
 σ.app dst {val:=x,rd,up:=[(l,o)],pre:=p}=jZ.put {σ with heap:=σ.heap.set l o} dst x:=by
 cases dst<;>simp [jZ.app,lU,jZ.put]
theorem aa9(σ:jZ)(dst:Option Tmp)(x:AV)(rd:List Nat)(o:kq)(p:Prop):
 σ.app dst {val:=x,rd,nw:=[o],pre:=p}=jZ.put {σ with heap:=σ.heap++[o]} dst x:=by
 cases dst<;>simp [jZ.app,lU,jZ.put]
def ahR (S:mo C φ σ a w){u e:TypeId} {sz bytes:Nat} {vx vy:Value} (ht:nF C.P t=some (e,sz,bytes)) (hu:n6 C.P u=true)
 (hz:ou C.P e=some z) (hzl:z.length=sz/\0<sz/\0<bytes) {im:Bool} (h:Po im σ sz bytes x y=some ef) (hp:ef.pre)
 (rx:n8 (C.env φ σ.heap w) x vx) (ry:n8 (C.env φ σ.heap w) y vy):
 ∃v w' φ',(ap #[t,u] ty #[vx,vy]).run C.P w= .ok v w'/\mo C φ' (σ.app dst ef) (a.put dst v) w':=by
 obtain⟨hut,i,hi,rfl,rfl⟩:=LH ht
 obtain⟨d,hd,hni⟩: ∃d,C.P.underlying u=some d/\ ∀k,d≠ .int k:=by
  grind [n6]
 obtain⟨zv,hzi,hzs⟩: ∃zv,i.zero=some zv/\zv.cells.size=i.size:=by
  grind [ou]
 unfold Po at h;split at h
 ·cases h
 rename_i rd ys hsrc;obtain⟨⟨us,rus,lus,az8,aoI,au7⟩,ajs⟩:=afI (P:=C.P) S hsrc ry;simp only[pX.env] at au7;have arK:(an i.size ys.length vy).run C.P w= .ok us.toArray w:=au7 w.drawn;split at h
 ·
  rename_i l n;split at h
  ·rename_i rT KI rows hl;split at h
   ·rename_i hc;obtain⟨rfl,hn⟩:=hc;cases h;simp only at hp;have hvx:=Je S hl hn rx;subst hvx;obtain⟨base,cap,hh,h2,h3,h4,h5⟩:=S.nN l _ hl
    have hrows: ∀r∈rows++ys,r.length=i.size:=by
     grind
    have hlt:l<σ.heap.length:=(ak.1 hl).1
    have fin: ∀{h':Value}{w':World},(∃b m c,h'= .slice b m c)->(ap #[t,u] ty #[φ l,vy]).run C.P w= .ok h' w'->
     mo C (fun k=>if k=l then h' else φ k) {σ with heap:=σ.heap.set l (.acc rT i.size (rows++ys))} a w'->
     ∃v w' φ',(ap #[t,u] ty #[φ l,vy]).run C.P w= .ok v w'/\
      mo C φ' (σ.app dst {val:= .acc l (rows++ys).length,rd:=l::rd,up:=[(l,.acc rT i.size (rows++ys))],pre:=room (rows.length+ys.length) i.bytes}) (a.put dst v) w':=by
     intro h' w' ZH hrun hS;refine⟨h',w',(fun k=>if k=l then h' else φ k),hrun,?_⟩
     have:=hS.put dst (x:= .acc l (rows++ys).length) (v:=h') ⟨by simpa [pX.env] using hlt,ZH,fun k hk=>by
      grind [pX.env,lT]⟩
     rw[adP];exact this
    by_cases hfit:rows.length+ys.length<=cap
    ·have hrun:=run_append_fits (w:=w) (ty:=ty) (base:=base) (sLen:=rows.length) (sCap:=cap) hut hi hd hni ajs arK hfit;by_cases hcap:cap=0
     ·
      have hr0:rows=[]:=ah (by omega);have hy0:ys=[]:=ah (by omega);subst hr0 hy0;have hu0:us=[]:=by simpa using lus
      subst hu0;rw[<-hh] at hrun
      have adQ:(ap #[t,u] ty #[φ l,vy]).run C.P w= .ok (φ l) w:=by
       rw[hrun,hh];cases base<;>simp [storeCells]
      refine fin ⟨_,_,_,hh⟩ adQ (S.amt hl (.inr rfl) (au _) (fun _ _ _ _=>rfl) (fun _ _ _=>rfl) (fun _=>rfl) ⟨rfl,rfl⟩ (fun b hb=> .inl (by simpa using hb)) (fun b o hm=> .inl (by simpa using hm)) ?_);intro E' hle hw;rw[hh];exact⟨base,cap,by simp,by simp,h3,by simp,fun b hb hc=>absurd hcap hc⟩
     ·cases base with
      |none=>exact absurd (h3 rfl) hcap
      |some b=>
       obtain⟨hsp,c,tc,hcb,hsz,rl,az9⟩:=h5 b rfl hcap;simp only[pX.env] at hcb;have hb:b=⟨b.block,b.off,none⟩:=by cases b;simp_all
       have e1:(rows.length+ys.length)*i.size<=cap*i.size:=ar _ hfit;have e2:(rows.length+ys.length)*i.size=rows.length*i.size+ys.length*i.size:=ax ..
       have hst:=run_storeCells_at C.P b.block (b.off+rows.length*i.size) tc us 0 c w hcb (by omega) aoI;simp only[Nat.add_zero] at hst
       let c':Array Value:=(c.toList.take (b.off+rows.length*i.size)++us++c.toList.drop (b.off+rows.length*i.size+us.length)).toArray
       have adQ:(ap #[t,u] ty #[φ l,vy]).run C.P w= .ok (.slice (some b) (rows.length+ys.length) cap) (w.setRow b.block c'):=by
        grind [add_plain,af]
       have au8: ∀o,o<b.off+rows.length*i.size->c'[o]? =c[o]? :=by
        grind [aw]
       refine fin ⟨_,_,_,rfl⟩ adQ (S.amt hl ?_ (by simp) ?_ ?_ ?_ ⟨rfl,rfl⟩ ?_ ?_ ?_)
       ·grind
       ·intro b' o hb' hm;by_cases e:b'=b.block
        ·subst e;simp only[World.cell?];rw[setRow_heap w b.block c c' tc _ hcb,hcb];simp only[bX,az,if_false];apply au8;rw[hh] at hm;cases rT with
         |false=>exact absurd ⟨⟨rfl,hcap⟩,fun h=>by cases h⟩ hm
         |true=>
          by_cases ho:o<b.off+rows.length*i.size
          ·exact ho
          ·exact absurd ⟨⟨rfl,hcap⟩,fun _=>by omega⟩ hm
        grind [cell_setRow_other]
       ·intro b' hb' hbl;rw[hh] at hbl;exact setRow_other w b.block b' c' (fun e=>hbl ⟨e,hcap⟩)
       ·intro x;by_cases e:x.block=b.block
        ·simp only[World.frozen?];rw[e,setRow_heap w b.block c c' tc _ hcb,hcb]
        grind [World.frozen?,setRow_other]
       ·intro b' hb';left;rw[hh];exact hb'
       ·intro b' o hm;left;rw[hh];refine⟨hm.1,fun hi'=> ?_⟩;have:=hm.2 hi';omega
       ·intro E' hle hw;refine⟨some b,cap,by simp,by simpa using hfit,by simp,hrows,fun b0 hb0 _=> ?_⟩;simp only[aj] at hb0;subst hb0;refine⟨hsp,c',tc,by rw[hw];exact setRow_heap w b.block c c' tc _ hcb,?_,?_⟩
        ·have:c'.size=c.size:=by simp [c'];omega
         omega
        ·have rl':=kC.mono hle _ _ (kC.nb _ _ rl) rl;have ru':=kC.mono hle _ _ (kC.nb _ _ rus) rus;have:=rl'.append ru';rw[bl]
         have e3:(c'.toList.drop b.off).take ((rows++ys).length*i.size)=(c.toList.drop b.off).take (rows.length*i.size)++us:=by
          have hcl:b.off+rows.length*i.size<=c.toList.length:=by simp;omega
          have e4:c'.toList=c.toList.take b.off++((c.toList.drop b.off).take (rows.length*i.size)++(us++c.toList.drop (b.off+rows.length*i.size+us.length))):=by
           simp only[c',aQ];rw[<-aQ (c.toList.take b.off),<-bS]
          rw[e4,bi (by simp;omega),aY];simp only[bY,List.take_zero,List.nil_append];rw[<-aQ];apply bb;simp only[List.length_append,bA,List.length_drop,lus,ax];omega
         rw[e3];exact⟨this,fun v hv=>(aF.1 hv).elim (az9 v) (aoI v)⟩
    ·
     have hold:=(agP (P:=C.P) S hl);obtain⟨os,ros,los,_,arL,apO⟩:=hold;rw[hh] at apO;simp only[pX.env] at apO;obtain⟨aCi,hle,hrun⟩:=Pp (w:=w) (ty:=ty) hut hi hd hni ajs au7 apO hzi (by omega) hp hzl.2.2;rw[<-hh] at hrun;refine fin ⟨_,_,_,rfl⟩ hrun (S.amt hl (.inl (by omega)) (by simp) ?_ ?_ ?_ ⟨rfl,rfl⟩ ?_ ?_ ?_)
     ·intro b o hb _;exact B5 {w with drawn:=w.drawn+1} _ hb
     ·intro b hb _;exact xo {w with drawn:=w.drawn+1} _ hb
     ·intro x;rw[uu {w with drawn:=w.drawn+1} _ (by intro c' t' lo hi h;cases h;exact⟨rfl,rfl⟩)];rfl
     ·intro b hb;right;have:b=w.heap.size:=hb.1;omega
     ·intro b o hm;right;have:b=w.heap.size:=hm.1.1;omega
     ·intro E' hle' hw;have ro':=kC.mono hle' _ _ (kC.nb _ _ ros) ros;have ru':=kC.mono hle' _ _ (kC.nb _ _ rus) rus;have hll:(rows++ys).length=rows.length+ys.length:=by simp
      rw[<-hll];refine adO (us:=os++us) hrows (by rw[bl];exact ro'.append ru') (fun v hv=>(aF.1 hv).elim (arL v) (aoI v)) (by rw[hw];exact GC {w with drawn:=w.drawn+1} _) (by simp;rfl) ?_ (by omega);rw[U0,hzs,hll]
   ·cases h
  ·cases h
 ·
  rename_i KI rows;split at h
  ·rename_i hc;split at h
   case isFalse hne=>
    cases h;have hy0:ys=[]:=ah (by omega);subst hy0;have hu0:us=[]:=by simpa using lus
    subst hu0;obtain⟨base,cap,rfl,h2,h3,h4,h5,h6⟩:=id rx;have hcap:=h3 rfl;subst hcap;have hrun:=run_append_fits (w:=w) (ty:=ty) (base:=base) (sLen:=rows.length) (sCap:=rows.length) hut hi hd hni ajs arK (by simp)
    have adQ:(ap #[t,u] ty #[.slice base rows.length rows.length,vy]).run C.P w= .ok (.slice base rows.length rows.length) w:=by
     rw[hrun];cases base<;>simp [storeCells]
    refine⟨_,w,φ,adQ,?_⟩;have:=S.put dst rx;simpa [jZ.app,lU,jZ.put] using (by cases dst<;>simpa [jZ.put] using this)
   rename_i hne;cases h;have hroom:=hp;obtain⟨os,ros,los,aAa,arL,apO⟩:=agO (P:=C.P) hc rx;obtain⟨base,cap,rfl,h2,h3,h4,h5,h6⟩:=rx;have hcap:=h3 rfl;subst hcap;simp only[pX.env] at apO
   have hrows: ∀r∈rows++ys,r.length=i.size:=by
    intro r hr;rcases aF.1 hr with hr|hr
    ·exact aAa r hr
    ·exact az8 r hr
   have fin: ∀{h':Value}{w':World},(∃b m c,h'= .slice b m c)->(ap #[t,u] ty #[.slice base rows.length rows.length,vy]).run C.P w= .ok h' w'->
    mo C (fun k=>if k=σ.heap.length then h' else φ k) {σ with heap:=σ.heap++[.acc im i.size (rows++ys)]} a w'->
    ∃v w' φ',(ap #[t,u] ty #[.slice base rows.length rows.length,vy]).run C.P w= .ok v w'/\
     mo C φ' (σ.app dst {val:= .acc σ.heap.length (rows++ys).length,rd:=rd,nw:=[.acc im i.size (rows++ys)],pre:=room (rows.length+ys.length) i.bytes}) (a.put dst v) w':=by
    intro h' w' ZH hrun hS;refine⟨h',w',(fun k=>if k=σ.heap.length then h' else φ k),hrun,?_⟩
    have:=hS.put dst (x:= .acc σ.heap.length (rows++ys).length) (v:=h') ⟨by simp [pX.env],ZH,fun k hk=>by
     simp only[pX.env,br (au _),bY,aL,lT,aj] at hk;exact⟨by omega,fun _=>by simp [pX.env]⟩⟩
    rw[aa9];exact this
   by_cases hfit:rows.length+ys.length<=rows.length
   ·have hy0:ys=[]:=ah (by omega);subst hy0
    have hr0:rows=[]:=by
     rcases hne with h|h
     ·exact ah h
     ·simp at h
    subst hr0;have hu0:us=[]:=by simpa using lus
    subst hu0;have hrun:=run_append_fits (w:=w) (ty:=ty) (base:=base) (sLen:=0) (sCap:=0) hut hi hd hni ajs arK (by simp)
    have adQ:(ap #[t,u] ty #[.slice base 0 0,vy]).run C.P w= .ok (.slice base 0 0) w:=by
     rw[hrun];cases base<;>simp [storeCells]
    refine fin ⟨_,_,_,rfl⟩ adQ (S.Q2 (au _) (fun _ _=>rfl) (fun _=>rfl) ⟨rfl,rfl⟩ ?_ ?_)
    ·intro b hb;cases base<;>simp [kq.block] at hb
    ·intro E' _ _;exact⟨base,0,rfl,by simp,fun _=>rfl,by simp,fun b _ h0=>absurd rfl h0⟩
   ·obtain⟨aCi,hle,hrun⟩:=Pp (w:=w) (ty:=ty) hut hi hd hni ajs au7 apO hzi (by omega) hroom hzl.2.2;refine fin ⟨_,_,_,rfl⟩ hrun (S.Q2 (by simp) ?_ ?_ ⟨rfl,rfl⟩ ?_ ?_)
    ·intro b hb;exact xo {w with drawn:=w.drawn+1} _ hb
    ·intro x;rw[uu {w with drawn:=w.drawn+1} _ (by intro c' t' lo hi h;cases h;exact⟨rfl,rfl⟩)];rfl
    ·intro b hb;have:b=w.heap.size:=hb.1;omega
    ·intro E' hle' hw;have ro':=kC.mono hle' _ _ (kC.nb _ _ ros) ros;have ru':=kC.mono hle' _ _ (kC.nb _ _ rus) rus;have hll:(rows++ys).length=rows.length+ys.length:=by simp
     rw[<-hll];refine adO (us:=os++us) hrows (by rw[bl];exact ro'.append ru') (fun v hv=>(aF.1 hv).elim (arL v) (aoI v)) (by rw[hw];exact GC {w with drawn:=w.drawn+1} _) (by simp;rfl) ?_ (by omega);rw[U0,hzs,hll]
  ·cases h
 ·cases h
end sound
section sound

theorem GD(σ:jZ)(dst:Option Tmp)(x:AV)(rd:List Nat)(p:Prop):σ.app dst {val:=x,rd,pre:=p}=σ.put dst x:=by
 cases dst<;>simp [jZ.app,lU,jZ.put]
theorem li(S:mo C φ σ a w){m:Sem Value}(h: ∃v,m.run C.P w= .ok v w/\n8 (C.env φ σ.heap w) x v):
 yf C σ a w dst ((do pure (.value (<-m)):Sem Next).run C.P w) {val:=x,rd,pre:=p}:=by
 obtain⟨v,hr,No⟩:=h;refine⟨.value v,v,w,φ,by simp [hr],.inl rfl,?_⟩;rw[GD];exact S.put dst No
def aoJ {u:TypeId}{o:Nat}(h:tL P t i=some (o,u)): ∃fs f j,P.underlying t=some (.struct fs)/\fs[i]? =some f/\P.info? f.type=some j/\j.size≠0/\f.offset=o/\f.type=u:=by
 grind [tL]
def mo.arM(S:mo C φ σ a w){cap sz:Nat}{uY:List (List AV)}{c':Array Value}(hl:σ.heap[l]? =some (.acc false sz rows))(hφ:φ l= .slice (some ⟨b,off,none⟩) rows.length cap)(hcap:cap≠0)
 (hle:rows.length<=cap) (hlen:uY.length=rows.length) (hh:w.heap[b]? =some (.cells c t (0,0))) (hsz: ∀r∈uY,r.length=sz) (hfit:off+cap*sz<=c'.size)
 (hr:kC (C.env φ σ.heap w) uY.flatten ((c'.toList.drop off).take (uY.length*sz))) (h1: ∀u∈(c'.toList.drop off).take (uY.length*sz),u.oneCell'=true):
 mo C φ {σ with heap:=σ.heap.set l (.acc false sz uY)} a (w.setRow b c'):=by
 have hlt:l<σ.heap.length:=(ak.1 hl).1
 have nr: ∀(k:Nat)(x:kq),(σ.heap.set l (.acc false sz uY))[k]? =some x->(k=l/\x= .acc false sz uY)\/(k≠l/\σ.heap[k]? =some x):=by
  grind
 have ab9: ∀b' o,(kq.acc false sz uY).yy (φ l) b' o->(kq.acc false sz rows).yy (φ l) b' o:=by
  intro b' o hm;rw[hφ] at hm ⊢;exact⟨hm.1,fun h=>by cases h⟩
 have IM: ∀b',(kq.acc false sz uY).block (φ l) b'->(kq.acc false sz rows).block (φ l) b':=by
  intro b' hm;rw[hφ] at hm ⊢;exact hm
 have hmb: ∀o,(kq.acc false sz rows).yy (φ l) b o:=by
  intro o;rw[hφ];exact⟨⟨rfl,hcap⟩,fun h=>by cases h⟩
 have hbb:(kq.acc false sz rows).block (φ l) b:=by rw[hφ];exact⟨rfl,hcap⟩
 have Km: ∀b' o,Eh φ (σ.heap.set l (.acc false sz uY)) b' o->Eh φ σ.heap b' o:=by
  rintro b' o ⟨k,x,hx,hm⟩;rcases nr k x hx with⟨e,rfl⟩|⟨_,hx⟩
  ·rw[e] at hm;exact⟨l,_,hl,ab9 b' o hm⟩
  ·exact⟨k,x,hx,hm⟩
 have ajt: ∀k:Nat,lT (σ.heap.set l (.acc false sz uY))[k]? =lT σ.heap[k]? :=by
  grind [lT]
 have le:(C.env φ σ.heap w).Le σ.heap.length (C.env φ (σ.heap.set l (.acc false sz uY)) (w.setRow b c')):=by
  refine pX.A1 (by simp) (fun k _=>⟨rfl,ajt k⟩) (fun b' o u hm hc=> ?_);have hne:b'≠b:=fun e=>hm (.inl (e ▸ ⟨l,_,hl,hmb o⟩))
  grind [cell_setRow_other]
 have A2:qT C φ (σ.heap.set l (.acc false sz uY)) (w.setRow b c') σ.df a.defers:=by
  refine S.defers.step le (fun b' _ hno=> ?_) (fun k x b' hx hb=> ?_)
  all_goals grind [setRow_other]
 refine {slots:=kC.mono le _ _ (kC.nb _ _ S.slots) S.slots,defers:=A2,nN:= ?_,apart:= ?_,sE:= ?_,size:=by simpa using S.size,old:= ?_,nj:= ?_,B8:= ?_,u1:= ?_,rest:=S.rest,low:=⟨S.low.1,by simpa using S.low.2⟩,names:= ?_}
 ·intro k x hx;rcases nr k x hx with⟨e,rfl⟩|⟨hne,hx⟩
  ·rw[e];refine⟨some ⟨b,off,none⟩,cap,by rw[hlen];exact hφ,by rw[hlen];exact hle,by simp,hsz,?_⟩;intro a0 ha _;simp only[aj] at ha;subst ha;exact⟨rfl,c',t,setRow_heap w b c c' t _ hh,hfit,kC.mono le _ _ (kC.nb _ _ hr) hr,h1⟩
  ·refine nG.mono (S.nN k x hx) le (fun b' hb'=> ?_);refine setRow_other w b b' c' (fun e=> ?_);subst e;exact hne (S.apart k l x _ b' hx hl hb' hbb)
 ·intro k k' x x' b' hx hx' hb hb';rcases nr k x hx with⟨e1,rfl⟩|⟨hne,hx1⟩<;>rcases nr k' x' hx' with⟨e2,rfl⟩|⟨amr,Pm⟩
  ·rw[e1,e2]
  ·rw[e1] at hb ⊢;exact S.apart l k' _ x' b' hl Pm (IM b' hb) hb'
  ·rw[e2] at hb' ⊢;exact S.apart k l x _ b' hx1 hl hb (IM b' hb')
  ·exact S.apart k k' x x' b' hx1 Pm hb hb'
 ·intro k x b' o hx hb;rcases nr k x hx with⟨e,rfl⟩|⟨hne,hx⟩
  ·rw[e] at hb;exact S.sE l _ b' o hl (IM b' hb)
  ·exact S.sE k x b' o hx hb
 ·intro b' o hb' hm;by_cases e:b'=b
  ·subst e;exact absurd (S.B8 l _ b' o hl (hmb o) hb') hm
  ·rw[cell_setRow_other w b c' _ e];exact S.old b' o hb' hm
 ·intro b' hb' hm;by_cases e:b'=b
  ·subst e;exact absurd (S.B8 l _ b' 0 hl (hmb 0) hb') (hm 0)
  ·rw[setRow_other w b b' c' e];exact S.nj b' hb' hm
 ·intro k x b' o hx hm hb';rcases nr k x hx with⟨e,rfl⟩|⟨hne,hx⟩
  ·rw[e] at hm;exact S.B8 l _ b' o hl (ab9 b' o hm) hb'
  ·exact S.B8 k x b' o hx hm hb'
 ·intro x hx;rw[<-S.u1 x hx];by_cases e:x.block=b
  ·simp only[World.frozen?];rw[e,setRow_heap w b c c' t _ hh,hh]
  grind [World.frozen?,setRow_other]
 ·intro k hk;have:=S.names k hk
  grind
def arN(S:mo C φ σ a w){o sz:Nat}(hl:σ.heap[l]? =some (.acc false sz rows))(hn:rows.length=n)(hi:rows[i]? =some r)
 (rv:n8 (C.env φ σ.heap w) (.own l i n o sz) v): ∃b off cap c t,φ l= .slice (some ⟨b,off,none⟩) rows.length cap/\cap≠0/\rows.length<=cap/\v= .pointer (some ⟨b,off+i*sz+o,none⟩)/\w.heap[b]? =some (.cells c t (0,0))/\
   off+cap*sz<=c.size/\(∀q∈rows,q.length=sz)/\kC (C.env φ σ.heap w) rows.flatten ((c.toList.drop off).take (rows.length*sz))/\ ∀u∈(c.toList.drop off).take (rows.length*sz),u.oneCell'=true:=by
 obtain⟨_,_,h⟩:=rv;obtain⟨b,off,m,cp,hφ,hv⟩:=(h rows.length (by simp [pX.env,hl,lT])).2 hn.symm;obtain⟨base,cap,hh,h2,h3,h4,h5⟩:=S.nN l _ hl;simp only[pX.env] at hφ;rw[hh] at hφ;simp only[Value.slice.injEq] at hφ;obtain⟨hb,_,_⟩:=hφ;subst hb;have hlt:i<rows.length:=(ak.1 hi).1;have hcap:cap≠0:=by omega
 obtain⟨_,c,t,h6,h7,h8,h9⟩:=h5 _ rfl hcap;exact⟨b,off,cap,c,t,hh,hcap,h2,hv,h6,h7,h4,h8,h9⟩
theorem U1{sz:Nat}: ∀{rows:List (List AV)}{i:Nat}{r:List AV},(∀q∈rows,q.length=sz)->rows[i]? =some r->rows.flatten.drop (i*sz)=r++(rows.drop (i+1)).flatten
 |q::rows,0,r,_,h=>by simp at h;subst h;simp
 |q::rows,i+1,r,hl,h=>by
  simp at h;have hq:q.length=sz:=hl q (by simp);have:=U1 (fun p hp=>hl p (by simp [hp])) h
  grind [ax,List.drop_append,Nat.add_sub_cancel_left,bH]
theorem arO(S:mo C φ σ a w){k o sz:Nat}(ht:pd C.P t=some (g,k))(hl:σ.heap[l]? =some (.acc false sz rows))(hn:rows.length=n)
 (hi:rows[i]? =some r) (hx:l9 g k (r.drop o)=some x) (rv:n8 (C.env φ σ.heap w) (.own l i n o sz) v): ∃u,(aJ t v).run C.P w= .ok u w/\n8 (C.env φ σ.heap w) x u:=by
 obtain⟨b,off,cap,c,t2,hφ,hcap,hle,rfl,hh,hfit,hsz,rl,_⟩:=arN S hl hn hi rv;have hrl:=rl.drop (i*sz);rw[U1 hsz hi] at hrl;have hr:=hrl.take r.length;rw[bb rfl] at hr;have hr2:=hr.drop o;have hi':=IP (C:=C) (w:=w) ht
 have hm:ajp (C.env φ σ.heap w) b (off+i*sz+o) (r.drop o):=by
  refine⟨_,hr2,fun j u hj=> ?_⟩
  grind [pX.env,World.cell?]
 obtain⟨u,hu,ru⟩:=QZ (P:=C.P) (t:=t) hm hi'.1 hi'.2 hx
 grind [aJ,av,pX.env]
theorem SB{sz:Nat}: ∀{rows:List (List AV)}{i:Nat}{r q:List AV},(∀p∈rows,p.length=sz)->rows[i]? =some r->q.length=sz->
 (rows.set i q).flatten=rows.flatten.take (i*sz)++q++rows.flatten.drop (i*sz+sz)
 |p::rows,0,r,q,hl,h,hq=>by
  grind
 |p::rows,i+1,r,q,hl,h,hq=>by
  simp at h;have hp:p.length=sz:=hl p (by simp);have ih:=SB (q:=q) (fun p hp=>hl p (by simp [hp])) h hq;simp only[List.set_cons_succ,aC,ih]
  grind [ax,List.take_append,List.drop_append,bH]
def ayf{L V:List α}{p k:Nat}(hV:V.length=k)(h:p+k<=n)(hL:off+n<=L.length):
 ((L.take (off+p)++V++L.drop (off+p+k)).drop off).take n=((L.drop off).take n).take p++V++((L.drop off).take n).drop (p+k):=by
 have e1:L.take (off+p)=L.take off++(L.drop off).take p:=by rw[bS]
 have e2:L.drop (off+p+k)=(L.drop off).drop (p+k):=by rw[aR,bQ]
 have hA:(L.take off).length=off:=by rw[bA];omega
 have hB:((L.drop off).take p).length=p:=by grind
 rw[e1,e2,aQ,aQ,bc hA]
 grind [aY,List.take_append,List.take_of_length_le]
def apP(S:mo C φ σ a w){o k sz:Nat}{ys:List AV}{p:Value}(ht:pd C.P t=some (g,k))(hl:σ.heap[l]? =some (.acc false sz rows))(hn:rows.length=n)
 (hi:rows[i]? =some r) (hr:kC (C.env φ σ.heap w) ys v.cells.toList) (h1: ∀u∈v.cells.toList,u.oneCell'=true) (hk:ys.length=k) (hoff:o+k<=sz) (hp:n8 (C.env φ σ.heap w) (.own l i n o sz) p):
 ∃w',(bp t p v).run C.P w= .ok () w'/\mo C φ {σ with heap:=σ.heap.set l (.acc false sz (rows.set i (uP r o ys)))} a w':=by
 obtain⟨b,off,cap,c,t2,hφ,hcap,hle,rfl,hh,hfit,hsz,rl,hone⟩:=arN S hl hn hi hp;have hlt:i<rows.length:=(ak.1 hi).1;have hrl:r.length=sz:=hsz r (bO hi);have hvl:v.cells.size=k:=by have:=hr.length;simp at this;omega
 have hmul:i*sz+sz<=rows.length*sz:=by
  have:(i+1)*sz<=rows.length*sz:=ar _ hlt
  grind
 have aDo:rows.length*sz<=cap*sz:=ar _ hle;have hst:=run_storeCells_at C.P b (off+i*sz+o) t2 v.cells.toList 0 c w hh (by simp;omega) h1
 have aye:(uP r o ys).length=sz:=by
  grind [uP]
 have hfl:rows.flatten.length=rows.length*sz:=Ae hsz
 have aAb:(rows.set i (uP r o ys)).flatten=rows.flatten.take (i*sz+o)++ys++rows.flatten.drop (i*sz+o+k):=by
  rw[SB hsz hi aye];have hd:=U1 hsz hi
  have e1:rows.flatten.take (i*sz+o)=rows.flatten.take (i*sz)++r.take o:=by
   rw[bS,hd,List.take_append_of_le_length (by omega)]
  have e2:rows.flatten.drop (i*sz+o+k)=r.drop (o+k)++rows.flatten.drop (i*sz+sz):=by
   have e3:rows.flatten.drop (i*sz+sz)=(rows.drop (i+1)).flatten:=by
    rw[<-aR,hd,<-hrl,bc];rfl
   rw[e3,bQ,<-aR,hd,bi (by omega)]
  grind [uP]
 let c':Array Value:=(c.toList.take (off+i*sz+o)++v.cells.toList++c.toList.drop (off+i*sz+o+v.cells.toList.length)).toArray
 have hc':c'.toList=c.toList.take (off+i*sz+o)++v.cells.toList++c.toList.drop (off+i*sz+o+k):=by
  grind
 have hcs:c'.size=c.size:=by
  grind
 have aCj:(c'.toList.drop off).take (rows.length*sz)=((c.toList.drop off).take (rows.length*sz)).take (i*sz+o)++v.cells.toList++((c.toList.drop off).take (rows.length*sz)).drop (i*sz+o+k):=by
  rw[hc'];have hcl:c.toList.length=c.size:=by simp
  have:=ayf (L:=c.toList) (V:=v.cells.toList) (off:=off) (p:=i*sz+o) (k:=k) (n:=rows.length*sz) (by simpa using hvl) (by omega) (by omega)
  grind
 refine⟨_,?_,S.arM hl hφ hcap hle (by rw[List.length_set]) hh (c':=c') (hsz:= ?_) (by rw[hcs];exact hfit) ?_ ?_⟩
 ·have hs:=(IP (C:=C) (w:=w) ht).2
  grind [bp,av,storeVar,ai,af]
 ·grind
 ·rw[aAb,List.length_set,aCj];exact((rl.take _).append hr).append (rl.drop _)
 grind
theorem acI(_S:mo C φ σ a w){u:TypeId}{o:Nat}(h:tL C.P t i=some (o,u))(rx:n8 (C.env φ σ.heap w) x v):
 (∀l off,x= .ptr l off-> ∃v',(aN t v i).run C.P w= .ok v' w/\n8 (C.env φ σ.heap w) (.ptr l (off+o)) v')/\
 (∀cs,x= .pp cs-> ∃v',(aN t v i).run C.P w= .ok v' w/\n8 (C.env φ σ.heap w) (.pp (cs.drop o)) v')/\
 (∀l j n o' sz,x= .own l j n o' sz-> ∃v',(aN t v i).run C.P w= .ok v' w/\n8 (C.env φ σ.heap w) (.own l j n (o'+o) sz) v'):=by
 obtain⟨fs,f,j,hu,hf,hj,hs,rfl,rfl⟩:=aoJ h;have hsz:(sizeOf f.type).run C.P w= .ok j.size w:=by simp [sizeOf,typeInfo,hj]
 have key: ∀b off,(aN t (.pointer (some ⟨b,off,none⟩)) i).run C.P w= .ok (.pointer (some ⟨b,off+f.offset,none⟩)) w:=by
  simp_all [aN,run_underlying,av,fieldPlace,add_plain]
 refine⟨?_,?_,?_⟩
 ·rintro l off rfl;obtain⟨hl,b,hb,rfl⟩:=rx;exact⟨_,key b off,hl,b,hb,rfl⟩
 ·rintro cs rfl;obtain⟨b,off,rfl,rm⟩:=rx;exact⟨_,key b off,b,_,rfl,rm.drop _⟩
 ·rintro l j n o' sz rfl;obtain⟨hl,⟨ad,rfl⟩,hr⟩:=rx
  have aCk:(aN t (.pointer (some ad)) i).run C.P w= .ok (.pointer (some (ad.add f.offset))) w:=by
   simp_all [aN,run_underlying,av,fieldPlace]
  refine⟨_,aCk,hl,⟨_,rfl⟩,fun k hk=> ?_⟩
  grind
def amu {o:Nat}{vs:Array Value}(ha:(isAgg t).run P w= .ok g w)(hs:(sizeOf t).run P w= .ok n w)
 (r:kC E cs vs.toList) (hl:l9 g n (cs.drop o)=some x): ∃v,(part t vs o).run P w= .ok v w/\n8 E x v:=by
 unfold l9 at hl;cases g with
 |true=>
  simp only at hl;split at hl
  ·cases hl;refine⟨.agg (vs.extract o (o+n)),by simp [part,ha,hs],_,rfl,?_⟩;have:=(r.drop o).take n
   simp_all
  ·cases hl
 |false=>
  cases hd:cs.drop o with
  |nil=>rw[hd] at hl;cases hl
  |cons c cs'=>
   rw[hd] at hl;injection hl with hl
   subst hl
   have h0:cs[o]? =some c:=by
    have:=congrArg (fun l:List AV=>l[0]?) hd;simpa using this
   obtain⟨v,hv,rv⟩:=r.get h0
   simp_all [part]
def X9 {e:TypeId}{sz bytes:Nat}{n:Int}(ht:nF C.P t=some (e,sz,bytes))(hn:0<=n)
 (hr:rows[n.toNat]? =some r) (rx:n8 (C.env φ σ.heap w) (.mb tt sz rows) v): ∃v',(aH t v (.int k n)).run C.P w= .ok v' w/\n8 (C.env φ σ.heap w) (.pp r) v':=by
 obtain⟨hu,i,hi,rfl,rfl⟩:=LH ht;obtain⟨base,cap,rfl,h2,h3,h4,h5,h6⟩:=rx;have hlt:n.toNat<rows.length:=(ak.1 hr).1;have hne:rows≠[]:=by intro h;subst h;simp at hlt
 have hsz:(sizeOf e).run C.P w= .ok i.size w:=by simp [sizeOf,typeInfo,hi]
 cases base with
 |none=>have:=h4 rfl;omega
 |some b=>
  have hb:b=⟨b.block,b.off,none⟩:=by have:=h5 b rfl hne;cases b;simp_all
  obtain⟨_,hm⟩:=mU.get (h6 b rfl) hr;refine⟨.pointer (some ⟨b.block,b.off+n.toNat*i.size,none⟩),?_,b.block,_,rfl,hm⟩;have ayg:0<=n/\n<(rows.length:Int):=⟨hn,by omega⟩;simp only[aH,asIntOf,ai,aq,af,run_underlying hu,ayg,and_self,jU,hsz];rw[hb,add_plain]
def afJ(S:mo C φ σ a w){e:TypeId}{sz bytes m:Nat}{n:Int}(ht:nF C.P t=some (e,sz,bytes))(hn:0<=n)
 (hl:σ.heap[l]? =some (.acc true sz rows)) (hm:rows.length=m) (hr:rows[n.toNat]? =some r) (rx:n8 (C.env φ σ.heap w) (.acc l m) v):
 ∃v',(aH t v (.int k n)).run C.P w= .ok v' w/\n8 (C.env φ σ.heap w) (.pp r) v':=by
 have hv:=Je S hl hm rx;subst hv;exact X9 (tt:=false) ht hn hr (UZ S hl)
theorem acd(b:Addr)(h:b.spot=none)(k:Nat):b.add k=⟨b.block,b.off+k,none⟩:=by
 have hb:b=⟨b.block,b.off,none⟩:=by cases b;simp_all
 rw[hb,add_plain]
def run_sliceBound{n:Int}{y:Nat}{c:BoundsCode}(h:0<=n/\n<=y):(ay (.int k n) y c).run P w= .ok n.toNat w:=by
 simp [ay,asIntOf,h]
def FJ(S:mo C φ σ a w){d:Nat}{x:Option Operand}{n:Int}(h:bound σ d x=some n):(x=none/\n=d)\/ ∃y k,x=some y/\a.eval y= .int k n:=by
 unfold bound at h;cases x with
 |none=>grind
 |some y=>
  right;simp only at h;have r:=S.ev y;split at h
  ·rename_i k m hm;cases h;rw[hm] at r;exact⟨y,k,rfl,r⟩
  ·cases h
def SC(S:mo C φ σ a w){s:Bool}{len cap:Nat}{mx:Option Operand}{l h m:Int}(hl:bound σ 0 lo=some l)(hh:bound σ len hi=some h)(hm:bound σ len mx=some m)
 (hb:0<=l/\l<=h/\h<=m/\m<=len) (hc:len<=cap) (hmx:mx≠none->hi≠none):
 (aD s len cap (lo.map a.eval) (hi.map a.eval) (mx.map a.eval)).run C.P w= .ok (l.toNat,h.toNat,if mx=none then cap else m.toNat) w:=by
 have e0:(0:Int)<=h:=by omega
 rcases FJ S hm with⟨rfl,rfl⟩|⟨ym,km,rfl,em⟩
 ·rcases FJ S hh with⟨rfl,rfl⟩|⟨yh,kh,rfl,eh⟩
  ·rcases FJ S hl with⟨rfl,rfl⟩|⟨yl,kl,rfl,el⟩
   ·simp [aD]
   ·have e3: ∀c,(ay (.int kl l) len c).run C.P w= .ok l.toNat w:=fun c=>run_sliceBound (by omega)
    simp [aD,el,e3]
  ·have e1: ∀c,(ay (.int kh h) cap c).run C.P w= .ok h.toNat w:=fun c=>run_sliceBound (by omega)
   rcases FJ S hl with⟨rfl,rfl⟩|⟨yl,kl,rfl,el⟩
   ·simp [aD,eh,e1]
   ·have e3: ∀c,(ay (.int kl l) h.toNat c).run C.P w= .ok l.toNat w:=fun c=>run_sliceBound (by omega)
    simp_all [aD]
 ·rcases FJ S hh with⟨rfl,rfl⟩|⟨yh,kh,rfl,eh⟩
  ·grind
  ·have e1: ∀c,(ay (.int kh h) m.toNat c).run C.P w= .ok h.toNat w:=fun c=>run_sliceBound (by omega)
   have e2: ∀c,(ay (.int km m) cap c).run C.P w= .ok m.toNat w:=fun c=>run_sliceBound (by omega)
   rcases FJ S hl with⟨rfl,rfl⟩|⟨yl,kl,rfl,el⟩
   ·simp_all [aD]
   ·have e3: ∀c,(ay (.int kl l) h.toNat c).run C.P w= .ok l.toNat w:=fun c=>run_sliceBound (by omega)
    simp_all [aD]
theorem agQ(S:mo C φ σ a w){e:TypeId}{sz KI bytes:Nat}{mx:Option Operand}{l h m:Int}(ht:nF C.P t=some (e,sz,bytes))
 (hl:bound σ 0 lo=some l) (hh:bound σ rows.length hi=some h) (hm:bound σ rows.length mx=some m) (hsz:KI=sz\/rows.length=0) (hb:0<=l/\l<=h/\h<=m/\m<=rows.length)
 (hmx:(mx.isSome&&hi.isNone)=false) (rx:n8 (C.env φ σ.heap w) (.mb tt KI rows) v):
 ∃v',(aT t v (lo.map a.eval) (hi.map a.eval) (mx.map a.eval)).run C.P w= .ok v' w/\
  n8 (C.env φ σ.heap w) (.mb (W5 mx tt h rows.length m) sz ((rows.take h.toNat).drop l.toNat)) v':=by
 obtain⟨hu,i,hi',rfl,rfl⟩:=LH ht;obtain⟨base,cap,rfl,h2,h3,h4,h5,h6⟩:=rx;have hsize:(sizeOf e).run C.P w= .ok i.size w:=by simp [sizeOf,typeInfo,hi']
 have hbs:=SC S (s:=true) (cap:=cap) hl hh hm hb h2 (by
  intro h1 h2
  simp_all)
 have hlen:((rows.take h.toNat).drop l.toNat).length=h.toNat-l.toNat:=by
  grind
 obtain⟨m',hm',hm1,hm2⟩: ∃m',(if mx=none then cap else m.toNat)=m'/\(mx=none->m'=cap)/\(mx≠none->m'=m.toNat):=by
  grind
 have hm3:h.toNat<=m':=by
  grind
 rw[hm'] at hbs;clear hm'
 have hrun:(aT t (.slice base rows.length cap) (lo.map a.eval) (hi.map a.eval) (mx.map a.eval)).run C.P w=
  .ok (.slice (if m'=l.toNat then base else base.map (·.add (l.toNat*i.size))) (h.toNat-l.toNat) (m'-l.toNat)) w:=by
  simp_all [aT,run_underlying,Instr.slice]
 refine⟨_,hrun,_,_,by rw[hlen],?_,?_,?_,?_,?_⟩
 ·rw[hlen];omega
 ·intro htt;rw[hlen];cases mx with
  |none=>
   grind [W5]
  |some y=>
   grind [W5]
 ·intro hnone;cases base with
  |none=>
   grind
  |some b=>
   grind
 ·intro b hb' hne;cases base with
  |none=>split at hb'<;>simp at hb'
  |some b0=>
   have hrows:rows≠[]:=by intro h0;subst h0;simp at hne
   grind [acd]
 ·intro b hb';by_cases hrows:rows=[]
  ·subst hrows;simp [mU]
  ·have aCl:KI=i.size:=by
    grind
   subst aCl;cases base with
   |none=>split at hb'<;>simp at hb'
   |some b0=>
    have hsp:=h5 b0 rfl hrows;have rr:=h6 b0 rfl;split at hb'
    ·rename_i heq;have hlh:h.toNat<=l.toNat:=by omega
     have:(rows.take h.toNat).drop l.toNat=[]:=List.drop_eq_nil_of_le (by rw[bA];omega);rw[this];trivial
    grind [acd,mU.drop,mU.take]
theorem apQ(S:mo C φ σ a w){l h:Int}(ht:tB C.P t=true)(hl:bound σ 0 lo=some l)(hh:bound σ s.size hi=some h)(hb:0<=l/\l<=h/\h<=s.size):
 (aT t (.string s) (lo.map a.eval) (hi.map a.eval) none).run C.P w= .ok (.string (s.extract l.toNat h.toNat)) w:=by
 have hu:C.P.underlying t=some .string:=by
  grind [tB]
 have hbs:=SC S (s:=false) (mx:=none) (cap:=s.size) (m:=s.size) hl hh rfl (by omega) (au _) (by intro h;exact absurd rfl h);simp only[Option.map_none] at hbs;simp only[aT,ai,run_underlying hu,af,Instr.slice,bX,az,if_false,hbs,aq]
end sound
section sound

def aju{op:BinOp}{oy:Operand}{r:AV}{vx vy:Value}(h:agH op x y=some r)(rx:n8 E x vx)(ry:n8 E y vy):
 ∃v,(do eqGuard op t ox oy vx vy;binOp op t vx vy:Sem Value).run C.P w= .ok v w/\n8 E r v:=by
 unfold agH at h;split at h
 ·rename_i k m k' n;simp only[n8] at rx ry;subst rx ry;split at h
  ·cases h
  ·rename_i hk;have hk':k=k':=by simpa using hk
   subst hk'
   have hg:(eqGuard op t ox oy (.int k m) (.int k n)).run C.P w= .ok () w:=by
    unfold eqGuard;split<;>rfl
   cases op with
   |quo=>
    simp only at h;split at h
    ·cases h
    ·rename_i hz;cases h;exact⟨_,by simp [hg,binOp,Op.intDiv,hz],rfl⟩
   |rem=>
    simp only at h;split at h
    ·cases h
    ·rename_i hz;cases h;exact⟨_,by simp [hg,binOp,Op.intDiv,hz],rfl⟩
   |and=>cases h;exact⟨_,by simp only[ai,hg,af,binOp];rw[if_neg hk];rfl,rfl⟩
   |or=>cases h;exact⟨_,by simp only[ai,hg,af,binOp];rw[if_neg hk];rfl,rfl⟩
   |xor=>cases h;exact⟨_,by simp only[ai,hg,af,binOp];rw[if_neg hk];rfl,rfl⟩
   |andNot=>cases h;exact⟨_,by simp only[ai,hg,af,binOp];rw[if_neg hk];rfl,rfl⟩
   |_=>simp at h<;>subst h<;>refine⟨_,?_,rfl⟩<;>simp [hg,binOp,Op.intArith,Op.intCmp]
 ·rename_i s u;simp only[n8] at rx ry;subst rx ry
  have hg:(eqGuard op t ox oy (.string s) (.string u)).run C.P w= .ok () w:=by
   unfold eqGuard;split<;>rfl
  cases op with
  |add=>
   simp only at h;split at h
   ·rename_i hz;cases h
    have hz': ¬ ((s.size+u.size:Nat):Int)>IntKind.i64.max:=by
     have:IntKind.i64.max=9223372036854775807:=by decide
     rw[this];omega
    exact⟨_,by simp_all [binOp,Op.stringOp],rfl⟩
   ·cases h
  |_=>simp at h<;>subst h<;>refine⟨_,?_,rfl⟩<;>simp [hg,binOp,Op.stringOp]
 ·cases h
def agR(h:tbl P t=true):P.underlying t=some .bool:=by
 grind [tbl]
def agS{op:BinOp}{oy:Operand}{p q:Bool}:(eqGuard op t ox oy (.bool p) (.bool q)).run P w= .ok () w:=by
 unfold eqGuard;split<;>rfl
def ayh{p q:Bool}(h:tbl P t=true):(binOp .eql t (.bool p) (.bool q)).run P w= .ok (.bool (p==q)) w:=by
 simp_all [run_equal_bool,agR,binOp]
def ayi{p q:Bool}(h:tbl P t=true):(binOp .neq t (.bool p) (.bool q)).run P w= .ok (.bool (!(p==q))) w:=by
 simp_all [run_equal_bool,agR,binOp]
def apR(S:mo C φ σ a w){r:Result Next}{o:Obj}(ho: ∀c t lo hi,o= .cells c t (lo,hi)->lo=0/\hi=0)
 (hr:r= .ok (.value v) (World.more w o)) (No:n8 (C.env φ σ.heap (World.more w o)) x v):yf C σ a w dst r {val:=x,rd,pre:=p}:=by
 refine⟨.value v,v,_,φ,hr,.inl rfl,?_⟩;rw[GD];exact(S.more o ho).put dst No
def agT(S:mo C φ σ a w){r:Result Next}(hr:r= .ok (.value (.pointer (some ⟨w.heap.size,0,none⟩))) (World.more w (.cells c t)))
 (No:kC (C.env φ σ.heap w) cs c.toList) (h1: ∀u∈c.toList,u.oneCell'=true):yf C σ a w dst r {val:= .ptr σ.heap.length 0,rd,nw:=[.cells cs],pre:=p}:=by
 obtain⟨S',le⟩:=S.name c t No h1;refine⟨_,_,_,(fun l=>if l=σ.heap.length then .pointer (some ⟨w.heap.size,0,none⟩) else φ l),hr,.inl rfl,?_⟩;rw[aa9];exact S'.put dst ⟨by simp [pX.env],w.heap.size,by simp [pX.env],rfl⟩
def ZM(h:tB P t=true):P.underlying t=some .string:=by
 grind [tB]
def aoK(h:ahP P t=some k):P.underlying t=some (.int k):=by
 grind [ahP]
def adR(h:(nF P t).isSome=true): ∃e,P.underlying t=some (.slice e):=by
 obtain⟨⟨e,sz,b⟩,hx⟩:=Option.isSome_iff_exists.1 h;exact⟨e,(LH hx).1⟩
def apS(S:mo C φ σ a w)(h:agK C.P σ t x=some ef)(rx:n8 (C.env φ σ.heap w) x v):
 ∃y rd,ef={val:=y,rd}/\ ∃u,(bB #[t] ty #[v]).run C.P w= .ok u w/\n8 (C.env φ σ.heap w) y u:=by
 unfold agK at h;split at h
 ·split at h
  ·rename_i ht;cases h;simp only[n8] at rx;subst rx;exact⟨_,_,rfl,_,by simp [bB,run_underlying (ZM ht)];rfl,rfl⟩
  ·cases h
 ·split at h
  ·rename_i ht;obtain⟨e,hu⟩:=adR ht;cases h;obtain⟨b,cap,rfl,_⟩:=rx;exact⟨_,_,rfl,_,by simp [bB,run_underlying hu];rfl,rfl⟩
  ·cases h
 ·split at h
  ·rename_i ht;obtain⟨e,hu⟩:=adR ht;split at h
   ·rename_i hl;split at h
    ·rename_i hn;cases h;have hv:=Je S hl hn rx;subst hv;obtain⟨b,cap,hh,_⟩:=S.nN _ _ hl;refine⟨_,_,rfl,.int .i64 _,?_,rfl⟩;rw[hh,<-hn];simp [bB,run_underlying hu];rfl
    ·cases h
   ·cases h
  ·cases h
 ·cases h
theorem acJ(S:mo C φ σ a w){e:TypeId}{sz bytes:Nat}{n:Int}(ht:nF C.P t=some (e,sz,bytes))(hz:ou C.P e=some z)
 (hc:z.length=sz/\0<sz/\0<=n) (hroom:room n.toNat bytes/\n<2 ^ 62):
 yf C σ a w dst ((do pure (.value (<-bf t (.int .i64 n) (.int .i64 n))):Sem Next).run C.P w)
  {val:= .acc σ.heap.length n.toNat,rd,nw:=[.acc false sz (am n.toNat z)],pre:=p}:=by
 obtain⟨hu,i,hi,rfl,rfl⟩:=LH ht;obtain⟨zv,hzr,arI,az7⟩:=W8 (w:=w) hz;have hzl:zv.cells.size=i.size:=by have:=(arI (C.env φ σ.heap w)).length;simp at this;omega
 have hwrap:IntKind.i64.wrap n=n:=by
  grind [IntKind.wrap,IntKind.bits]
 have hti:(typeInfo e).run C.P w= .ok i w:=by simp [typeInfo,hi]
 have hsz:(sizeOf e).run C.P w= .ok i.size w:=by simp [sizeOf,typeInfo,hi]
 have hb:(i.bytes:Int)*n<=2 ^ 44:=by
  grind [room]
 have rF:kC (C.env φ σ.heap w) (am n.toNat z).flatten ((bo (n.toNat*i.size)).map (fun j=>(if n.toNat*i.size=0 then(#[]:Array Value) else zv.cells)[j % (if n.toNat*i.size=0 then(#[]:Array Value) else zv.cells).size]!)).toList:=by
  grind [ZL,A3]
 have hone: ∀u∈((bo (n.toNat*i.size)).map (fun j=>(if n.toNat*i.size=0 then(#[]:Array Value) else zv.cells)[j % (if n.toNat*i.size=0 then(#[]:Array Value) else zv.cells).size]!)).toList,u.oneCell'=true:=by
  grind [ZL,List.mem_flatten]
 generalize hcells:(bo (n.toNat*i.size)).map (fun j=>(if n.toNat*i.size=0 then(#[]:Array Value) else zv.cells)[j % (if n.toNat*i.size=0 then(#[]:Array Value) else zv.cells).size]!)=c at rF hone
 have hzs: ∀r∈am n.toNat z,r.length=i.size:=by
  grind
 have aCm:c.size=n.toNat*i.size:=by
  grind
 have aoL:(c.toList.drop 0).take (n.toNat*i.size)=c.toList:=by
  grind [bj]
 have S':=S.Q2 (rT:=false) (sz:=i.size) (rows:=am n.toNat z) (w':=World.more w (.cells c e)) (h':= .slice (some ⟨w.heap.size,0,none⟩) n.toNat n.toNat) (by simp) (fun b hb=>xo w _ hb)
  (uu w _ (by grind)) ⟨rfl,rfl⟩ (by
    rintro b ⟨rfl,_⟩;exact au _) (by
    intro E' le hw;refine⟨some ⟨w.heap.size,0,none⟩,n.toNat,by rw[bM],by grind,by simp,hzs,?_⟩;intro a0 ha _;simp only[aj] at ha;subst ha;refine⟨rfl,c,e,by rw[hw];exact GC w _,by rw[aCm];simp,?_,?_⟩
    ·rw[bM,aoL];exact kC.mono le _ _ (kC.nb _ _ rF) rF
    grind)
 have S2:=S'.put dst (x:= .acc σ.heap.length n.toNat) (v:= .slice (some ⟨w.heap.size,0,none⟩) n.toNat n.toNat) ⟨by simp [pX.env],⟨_,_,_,rfl⟩,fun k hk=>by
  grind [pX.env,lT]⟩
 have hrun:((do pure (.value (<-bf t (.int .i64 n) (.int .i64 n))):Sem Next).run C.P w)= .ok (.value (.slice (some ⟨w.heap.size,0,none⟩) n.toNat n.toNat)) (World.more w (.cells c e)):=by
  have h1: ¬ (((n<0\/(i.bytes:Int)*n>2 ^ 48)\/n<0)\/n>n):=by omega
  by_cases h0:n.toNat*i.size=0
  ·simp only[h0,jU] at hcells;simp only[bf,ai,run_underlying hu,af,asInt,asIntOf,aq,hti,hwrap,jR,bh,h1,if_false,run_askRoom,hsz,h0,jU,newRow,run_newObj];rw[hcells];rfl
  ·simp only[h0,if_false] at hcells;simp only[bf,ai,run_underlying hu,af,asInt,asIntOf,aq,hti,hwrap,jR,bh,h1,if_false,run_askRoom,hsz,h0,hzr,newRow,run_newObj];rw[hcells];rfl
 rw[<-aa9 σ dst _ rd _ p] at S2;exact⟨_,_,_,_,hrun,.inl rfl,S2⟩
theorem ZN(S:mo C φ σ a w){e:TypeId}{len sz bytes:Nat}{rT:Bool}(ht:nF C.P t=some (e,sz,bytes))
 (hz:ou C.P e=some z) (hl:z.length=sz/\len*sz<=16777216) (hf:rowsOf sz (am len z) (parts.toList.map fun p=>(p.1,σ.ev p.2))=some rows):
 yf C σ a w dst ((do pure (.value (<-aI t len (parts.map fun(i,x)=>(i,a.eval x)))):Sem Next).run C.P w)
  {val:= .acc σ.heap.length rows.length,nw:=[.acc rT sz rows]}:=by
 obtain⟨us,hrun,hr,hone,hlen,h3,arH⟩:=UX S ht hz hl hf;have hsz:us.size=len*sz:=by simpa using arH
 have aoL:(us.toList.drop 0).take (rows.length*sz)=us.toList:=by
  grind
 have S':=S.Q2 (rT:=rT) (sz:=sz) (rows:=rows) (w':=World.more w (.cells us e)) (h':= .slice (some ⟨w.heap.size,0,none⟩) len len) (by simp) (fun b hb=>xo w _ hb)
  (uu w _ (by grind)) ⟨rfl,rfl⟩ (by
    rintro b ⟨rfl,_⟩;exact au _) (by
    intro E' le hw;refine⟨some ⟨w.heap.size,0,none⟩,len,by rw[hlen],by omega,by simp,h3,?_⟩;intro a0 ha _;simp only[aj] at ha;subst ha;refine⟨rfl,us,e,by rw[hw];exact GC w _,by rw[hsz];simp,?_,?_⟩
    ·rw[aoL];exact kC.mono le _ _ (kC.nb _ _ hr) hr
    ·rw[aoL];exact hone)
 have S2:=S'.put dst (x:= .acc σ.heap.length rows.length) (v:= .slice (some ⟨w.heap.size,0,none⟩) len len) ⟨by simp [pX.env],⟨_,_,_,rfl⟩,fun k hk=>by
  grind [pX.env,lT]⟩
 have aAc:((do pure (.value (<-aI t len (parts.map fun(i,x)=>(i,a.eval x)))):Sem Next).run C.P w)= .ok (.value (.slice (some ⟨w.heap.size,0,none⟩) len len)) (World.more w (.cells us e)):=by
  simp_all
 rw[<-aa9 σ dst _ [] _ True] at S2;exact⟨_,_,_,_,aAc,.inl rfl,S2⟩
def yf.of_eq{r r':Result Next}{e:ux}(h:r=r')(d:yf C σ a w dst r' e):yf C σ a w dst r e:=h ▸ d
def au9{f:α->β}{l:List α}{x:β}(h:l.map f=[x]): ∃y,l=[y]/\f y=x:=by
 simp_all
def ahS{f:α->β}{l:List α}{x x':β}(h:l.map f=[x,x']): ∃y y',l=[y,y']/\f y=x/\f y'=x':=by
 cases l with
 |nil=>simp at h
 |cons y l=>cases l with
  |nil=>simp at h
  |cons z l=>cases l with
   |nil=>grind
   |cons _ _=>simp at h
def afK(S:mo C φ σ a w){b:Builtin}{args:Array Operand}{ts:Array TypeId}{e:ux}(ho:o.op= .call {callee:= .builtin b,args,argTypes:=ts})
 (h:IN C.P σ b args.toList ts.toList (args.toList.map σ.ev)=some e) (hp:e.pre):yf C σ a w o.dst ((execOp a.eval o).run C.P w) e:=by
 obtain⟨ts,rfl⟩: ∃l:List TypeId,ts=l.toArray:=⟨ts.toList,by simp⟩;obtain⟨args,rfl⟩: ∃l:List Operand,args=l.toArray:=⟨args.toList,by simp⟩;simp only at h
 have hrun:(execOp a.eval o).run C.P w=(builtin b ts.toArray o.type (args.toArray.map fun| .const _=>true|_=>false) (args.toArray.map a.eval)).run C.P w:=by
  grind [execOp,resolve,invoke]
 refine yf.of_eq hrun ?_;unfold IN at h;split at h
 ·rename_i t x hx;obtain⟨ox,rfl,rfl⟩:=au9 hx;obtain⟨y,rd,rfl,hv⟩:=apS (ty:=o.type) S h (S.ev ox)
  grind [li,builtin]
 ·rename_i t u x y hx;obtain⟨ox,oy,rfl,rfl,rfl⟩:=ahS hx;split at h
  ·rename_i et sz bytes ht hu;split at h
   ·rename_i z hz;split at h
    ·rename_i hc;obtain⟨v,w',φ',hr,hS⟩:=ahR (dst:=o.dst) (ty:=o.type) S ht hu hz hc h hp (S.ev ox) (S.ev oy);refine⟨.value v,v,w',φ',?_,.inl rfl,hS⟩;simp [builtin,hr]
    ·cases h
   ·cases h
  ·cases h
 ·rename_i t u k m k' n hx;obtain⟨ox,oy,rfl,hx1,Pm⟩:=ahS hx;have r1:=S.ev ox;have r2:=S.ev oy;rw[hx1] at r1;rw[Pm] at r2;simp only[n8] at r1 r2;cases h;refine yf.of_eq ?_ (li (rd:=[]) (p:=True) (m:=pure (.int k (if n>m then n else m))) S ⟨_,rfl,rfl⟩);simp [builtin,Builtin.max_,r1,r2,Builtin.max2]
 ·rename_i t u k m k' n hx;obtain⟨ox,oy,rfl,hx1,Pm⟩:=ahS hx;have r1:=S.ev ox;have r2:=S.ev oy;rw[hx1] at r1;rw[Pm] at r2;simp only[n8] at r1 r2;cases h;refine yf.of_eq ?_ (li (rd:=[]) (p:=True) (m:=pure (.int k (if n<m then n else m))) S ⟨_,rfl,rfl⟩);simp [builtin,Builtin.min_,r1,r2,Builtin.min2]
 ·cases h
theorem Jt(S:mo C φ σ a w): ∀xs:List Operand,kC (C.env φ σ.heap w) (xs.map σ.ev) (xs.map a.eval)
 |[]=>rfl
 |x::xs=>⟨_,_,rfl,S.ev x,Jt S xs⟩
end sound
open Go.MapKept
section

def mo.ava(S:mo C φ σ a w):
 mo C (fun l=>if l=σ.heap.length then .map (some w.heap.size) else φ l) {σ with heap:=σ.heap++[.map []]} a (World.more w (.map #[] 0)):=by
 let φ':Nat->Value:=fun l=>if l=σ.heap.length then .map (some w.heap.size) else φ l
 let w':=World.more w (.map #[] 0)
 have hφ: ∀l,l<σ.heap.length->φ' l=φ l:=fun l hl=>by grind
 have hφn:φ' σ.heap.length= .map (some w.heap.size):=by simp [φ']
 have hsz:w'.heap.size=w.heap.size+1:=Lz _ _;have hold: ∀b,b<w.heap.size->w'.heap[b]? =w.heap[b]? :=fun b hb=>xo _ _ hb
 have hL:w'.heap[w.heap.size]? =some (.map #[] 0):=GC _ _
 have nr: ∀(l:Nat)(x:kq),(σ.heap++[.map []])[l]? =some x->(l<σ.heap.length/\σ.heap[l]? =some x)\/(l=σ.heap.length/\x= .map []):=by
  grind
 have hcell: ∀b o,b<w.heap.size->w'.cell? ⟨b,o,none⟩=w.cell? ⟨b,o,none⟩:=by
  grind [World.cell?]
 have hnb: ∀b,(kq.map []).block (φ' σ.heap.length) b->w.heap.size<=b:=by
  intro b hb;rw[hφn] at hb;have hb:b=w.heap.size:=hb;omega
 have Km: ∀b o,Eh φ' (σ.heap++[.map []]) b o->w.heap.size<=b\/Eh φ σ.heap b o:=by
  rintro b o ⟨l,x,hx,hm⟩;rcases nr l x hx with⟨hl,hx⟩|⟨rfl,rfl⟩
  ·rw[hφ l hl] at hm;exact .inr ⟨l,x,hx,hm⟩
  grind [kq.nC]
 have le:(C.env φ σ.heap w).Le σ.heap.length (C.env φ' (σ.heap++[.map []]) w'):=by
  refine pX.A1 (by simp) (fun l hl=>⟨hφ l hl,by rw[aw hl]⟩) (fun b i u hm hc=> ?_)
  grind [E9]
 have A2:qT C φ' (σ.heap++[.map []]) w' σ.df a.defers:=by
  refine S.defers.step le (fun b hb _=>hold b hb) (fun l x b hx hb=> ?_)
  grind
 refine {slots:=kC.mono le _ _ (kC.nb _ _ S.slots) S.slots,defers:=A2,nN:= ?_,apart:= ?_,sE:= ?_,size:=by show _<=w'.heap.size;have:=S.size;omega,old:= ?_,nj:= ?_,B8:= ?_,u1:= ?_,rest:=S.rest,low:=⟨S.low.1,by have:=S.low.2;simp;omega⟩,names:= ?_}
 ·intro l x hx;show nG _ x (φ' l);rcases nr l x hx with⟨hl,hx⟩|⟨rfl,rfl⟩
  ·have r0:=S.nN l x hx;rw[hφ l hl];exact nG.mono r0 le (fun b hb=>hold b (r0.p4 hb))
  ·rw[hφn];exact⟨w.heap.size,#[],0,rfl,hL,rfl⟩
 ·intro l l' x x' b hx hx' hb hb';have hb:x.block (φ' l) b:=hb;have hb':x'.block (φ' l') b:=hb';rcases nr l x hx with⟨hl,hx⟩|⟨rfl,rfl⟩<;>rcases nr l' x' hx' with⟨QT,hx'⟩|⟨rfl,rfl⟩
  ·rw[hφ l hl] at hb;rw[hφ l' QT] at hb';exact S.apart l l' x x' b hx hx' hb hb'
  ·rw[hφ l hl] at hb;have h1:=(S.nN l x hx).p4 hb
   grind [pX.env]
  ·rw[hφ l' QT] at hb';have h1:=(S.nN l' x' hx').p4 hb'
   grind [pX.env]
  ·rfl
 ·intro l x b o hx hb;have hb:x.block (φ' l) b:=hb;rcases nr l x hx with⟨hl,hx⟩|⟨rfl,rfl⟩
  ·rw[hφ l hl] at hb;exact S.sE l x b o hx hb
  ·intro hA;have h1:=C.hA _ _ hA;have h2:=hnb b hb;have:=S.size;omega
 ·intro b i hb hm;rw[hcell b i (ae hb S.size)];exact S.old b i hb hm
 ·intro b hb hm;rw[hold b (ae hb S.size)];exact S.nj b hb hm
 ·intro l x b o hx hm hb;have hm:x.yy (φ' l) b o:=hm;rcases nr l x hx with⟨hl,hx⟩|⟨rfl,rfl⟩
  ·rw[hφ l hl] at hm;exact S.B8 l x b o hx hm hb
  ·have h2:=hnb b (kq.nC hm);have:=S.size;omega
 ·intro x hx;exact(uu w (.map #[] 0) (by intro c t lo hi h;cases h) x).trans (S.u1 x hx)
 ·intro l hl;have hlt:l<σ.heap.length:=by have:=S.low;omega
  have:=S.names l hl
  grind
def mo.arP(S:mo C φ σ a w)(s:ByteArray):
 mo C (fun l=>if l=σ.heap.length then .pointer (some ⟨w.heap.size,0,none⟩) else φ l) {σ with heap:=σ.heap++[.iter s 0]} a (World.more w (.stringIter s 0)):=by
 let φ':Nat->Value:=fun l=>if l=σ.heap.length then .pointer (some ⟨w.heap.size,0,none⟩) else φ l
 let w':=World.more w (.stringIter s 0)
 have hφ: ∀l,l<σ.heap.length->φ' l=φ l:=fun l hl=>by grind
 have hφn:φ' σ.heap.length= .pointer (some ⟨w.heap.size,0,none⟩):=by simp [φ']
 have hsz:w'.heap.size=w.heap.size+1:=Lz _ _;have hold: ∀b,b<w.heap.size->w'.heap[b]? =w.heap[b]? :=fun b hb=>xo _ _ hb
 have hL:w'.heap[w.heap.size]? =some (.stringIter s 0):=GC _ _
 have nr: ∀(l:Nat)(x:kq),(σ.heap++[.iter s 0])[l]? =some x->(l<σ.heap.length/\σ.heap[l]? =some x)\/(l=σ.heap.length/\x= .iter s 0):=by
  grind
 have hcell: ∀b o,b<w.heap.size->w'.cell? ⟨b,o,none⟩=w.cell? ⟨b,o,none⟩:=by
  grind [World.cell?]
 have hnb: ∀b,(kq.iter s 0).block (φ' σ.heap.length) b->w.heap.size<=b:=by
  intro b hb;rw[hφn] at hb;have hb:b=w.heap.size:=hb;omega
 have Km: ∀b o,Eh φ' (σ.heap++[.iter s 0]) b o->w.heap.size<=b\/Eh φ σ.heap b o:=by
  rintro b o ⟨l,x,hx,hm⟩;rcases nr l x hx with⟨hl,hx⟩|⟨rfl,rfl⟩
  ·rw[hφ l hl] at hm;exact .inr ⟨l,x,hx,hm⟩
  grind [kq.nC]
 have le:(C.env φ σ.heap w).Le σ.heap.length (C.env φ' (σ.heap++[.iter s 0]) w'):=by
  refine pX.A1 (by simp) (fun l hl=>⟨hφ l hl,by rw[aw hl]⟩) (fun b i u hm hc=> ?_)
  grind [E9]
 have A2:qT C φ' (σ.heap++[.iter s 0]) w' σ.df a.defers:=by
  refine S.defers.step le (fun b hb _=>hold b hb) (fun l x b hx hb=> ?_)
  grind
 refine {slots:=kC.mono le _ _ (kC.nb _ _ S.slots) S.slots,defers:=A2,nN:= ?_,apart:= ?_,sE:= ?_,size:=by show _<=w'.heap.size;have:=S.size;omega,old:= ?_,nj:= ?_,B8:= ?_,u1:= ?_,rest:=S.rest,low:=⟨S.low.1,by have:=S.low.2;simp;omega⟩,names:= ?_}
 ·intro l x hx;show nG _ x (φ' l);rcases nr l x hx with⟨hl,hx⟩|⟨rfl,rfl⟩
  ·have r0:=S.nN l x hx;rw[hφ l hl];exact nG.mono r0 le (fun b hb=>hold b (r0.p4 hb))
  ·rw[hφn];exact⟨w.heap.size,rfl,hL⟩
 ·intro l l' x x' b hx hx' hb hb';have hb:x.block (φ' l) b:=hb;have hb':x'.block (φ' l') b:=hb';rcases nr l x hx with⟨hl,hx⟩|⟨rfl,rfl⟩<;>rcases nr l' x' hx' with⟨QT,hx'⟩|⟨rfl,rfl⟩
  ·rw[hφ l hl] at hb;rw[hφ l' QT] at hb';exact S.apart l l' x x' b hx hx' hb hb'
  ·rw[hφ l hl] at hb;have h1:=(S.nN l x hx).p4 hb
   grind [pX.env]
  ·rw[hφ l' QT] at hb';have h1:=(S.nN l' x' hx').p4 hb'
   grind [pX.env]
  ·rfl
 ·intro l x b o hx hb;have hb:x.block (φ' l) b:=hb;rcases nr l x hx with⟨hl,hx⟩|⟨rfl,rfl⟩
  ·rw[hφ l hl] at hb;exact S.sE l x b o hx hb
  ·intro hA;have h1:=C.hA _ _ hA;have h2:=hnb b hb;have:=S.size;omega
 ·intro b i hb hm;rw[hcell b i (ae hb S.size)];exact S.old b i hb hm
 ·intro b hb hm;rw[hold b (ae hb S.size)];exact S.nj b hb hm
 ·intro l x b o hx hm hb;have hm:x.yy (φ' l) b o:=hm;rcases nr l x hx with⟨hl,hx⟩|⟨rfl,rfl⟩
  ·rw[hφ l hl] at hm;exact S.B8 l x b o hx hm hb
  ·have h2:=hnb b (kq.nC hm);have:=S.size;omega
 ·intro x hx;exact(uu w (.stringIter s 0) (by intro c t lo hi h;cases h) x).trans (S.u1 x hx)
 ·intro l hl;have hlt:l<σ.heap.length:=by have:=S.low;omega
  have:=S.names l hl
  grind
def mo.arQ(S:mo C φ σ a w){r:Nat}{es':List (AV×AV)}{xs xs':Array MapEntry}{cl cl':Nat}(hl:σ.heap[l]? =some (.map es))(hφ:φ l= .map (some r))
 (hw:w.heap[r]? =some (.map xs cl)) (hr:qC (C.env φ σ.heap w) es' xs'.toList):mo C φ {σ with heap:=σ.heap.set l (.map es')} a (w.putObj r (.map xs' cl')):=by
 have hlt:l<σ.heap.length:=(ak.1 hl).1;have arR:=(aU.1 hw).1
 have nr: ∀(j:Nat)(x:kq),(σ.heap.set l (.map es'))[j]? =some x->(j=l/\x= .map es')\/(j≠l/\σ.heap[j]? =some x):=by
  grind
 have hbb:(kq.map es).block (φ l) r:=by rw[hφ];rfl
 have hmb: ∀o,(kq.map es).yy (φ l) r o:=by intro o;rw[hφ];rfl
 have Fp: ∀b,b≠r->(w.putObj r (.map xs' cl')).heap[b]? =w.heap[b]? :=fun b hb=>World.putObj_heap_other hb
 have hcell: ∀b o,(w.putObj r (.map xs' cl')).cell? ⟨b,o,none⟩=w.cell? ⟨b,o,none⟩:=by
  grind [World.cell?,World.putObj_heap_same]
 have IM: ∀b,(kq.map es').block (φ l) b->(kq.map es).block (φ l) b:=by intro b hb;rw[hφ] at hb ⊢;exact hb
 have ajv: ∀b o,(kq.map es').yy (φ l) b o->(kq.map es).yy (φ l) b o:=by intro b o hb;rw[hφ] at hb ⊢;exact hb
 have Km: ∀b o,Eh φ (σ.heap.set l (.map es')) b o->Eh φ σ.heap b o:=by
  rintro b o ⟨j,x,hx,hm⟩;rcases nr j x hx with⟨rfl,rfl⟩|⟨_,hx⟩
  ·exact⟨j,_,hl,ajv b o hm⟩
  ·exact⟨j,x,hx,hm⟩
 have hlen: ∀j:Nat,lT (σ.heap.set l (.map es'))[j]? =lT σ.heap[j]? :=by
  intro j;by_cases e:j=l
  ·subst e;rw[aP hlt,hl];rfl
  grind
 have le:(C.env φ σ.heap w).Le σ.heap.length (C.env φ (σ.heap.set l (.map es')) (w.putObj r (.map xs' cl'))):=
  pX.A1 (by simp) (fun j _=>⟨rfl,hlen j⟩) (fun b o u hm hc=>⟨fun h=>hm (h.imp (Km b o) id),by rw[hcell];exact hc⟩)
 have A2:qT C φ (σ.heap.set l (.map es')) (w.putObj r (.map xs' cl')) σ.df a.defers:=by
  refine S.defers.step le (fun b _ hno=>Fp b (fun e=>by subst e;exact hno l _ hl hbb)) (fun j x b hx hb=> ?_)
  grind
 refine {slots:=kC.mono le _ _ (kC.nb _ _ S.slots) S.slots,defers:=A2,nN:= ?_,apart:= ?_,sE:= ?_,size:=by rw[World.putObj_size];exact S.size,old:=fun b o hb hm=>by rw[hcell];exact S.old b o hb hm,nj:= ?_,B8:= ?_,u1:= ?_,rest:=S.rest,low:=⟨S.low.1,by simpa using S.low.2⟩,names:= ?_}
 ·intro j x hx;rcases nr j x hx with⟨rfl,rfl⟩|⟨hne,hx⟩
  ·exact⟨r,xs',cl',hφ,World.putObj_heap_same arR,qC.mono le (qC.nb hr) hr⟩
  ·exact nG.mono (S.nN j x hx) le (fun b hb=>Fp b (fun e=>by subst e;exact hne (S.apart j l x _ b hx hl hb hbb)))
 ·intro j j' x x' b hx hx' hb hb';rcases nr j x hx with⟨rfl,rfl⟩|⟨hne,hx1⟩<;>rcases nr j' x' hx' with⟨e2,rfl⟩|⟨amr,Pm⟩
  ·exact e2.symm
  ·exact S.apart j j' _ x' b hl Pm (IM b hb) hb'
  ·rw[e2] at hb' ⊢;exact S.apart j l x _ b hx1 hl hb (IM b hb')
  ·exact S.apart j j' x x' b hx1 Pm hb hb'
 ·intro j x b o hx hb;rcases nr j x hx with⟨rfl,rfl⟩|⟨_,hx⟩
  ·exact S.sE j _ b o hl (IM b hb)
  ·exact S.sE j x b o hx hb
 ·intro b hb hm;rw[Fp b (fun e=>by subst e;exact hm 0 (S.B8 l _ b 0 hl (hmb 0) hb))];exact S.nj b hb hm
 ·intro j x b o hx hm hb;rcases nr j x hx with⟨rfl,rfl⟩|⟨_,hx⟩
  ·exact S.B8 j _ b o hl (ajv b o hm) hb
  ·exact S.B8 j x b o hx hm hb
 ·intro x hx;rw[<-S.u1 x hx]
  grind [World.frozen?,World.putObj_heap_same]
 ·intro j hj;have:=S.names j hj;rw[hlen j];exact this
def mo.setIter(S:mo C φ σ a w){r:Nat}{s':ByteArray}{p p':Nat}(hl:σ.heap[l]? =some (.iter s p))(hφ:φ l= .pointer (some ⟨r,0,none⟩))
 (hw:w.heap[r]? =some (.stringIter s p)):mo C φ {σ with heap:=σ.heap.set l (.iter s' p')} a (w.putObj r (.stringIter s' p')):=by
 have hlt:l<σ.heap.length:=(ak.1 hl).1;have arR:=(aU.1 hw).1
 have nr: ∀(j:Nat)(x:kq),(σ.heap.set l (.iter s' p'))[j]? =some x->(j=l/\x= .iter s' p')\/(j≠l/\σ.heap[j]? =some x):=by
  grind
 have hbb:(kq.iter s p).block (φ l) r:=by rw[hφ];rfl
 have hmb: ∀o,(kq.iter s p).yy (φ l) r o:=by intro o;rw[hφ];rfl
 have Fp: ∀b,b≠r->(w.putObj r (.stringIter s' p')).heap[b]? =w.heap[b]? :=fun b hb=>World.putObj_heap_other hb
 have hcell: ∀b o,(w.putObj r (.stringIter s' p')).cell? ⟨b,o,none⟩=w.cell? ⟨b,o,none⟩:=by
  grind [World.cell?,World.putObj_heap_same]
 have IM: ∀b,(kq.iter s' p').block (φ l) b->(kq.iter s p).block (φ l) b:=by intro b hb;rw[hφ] at hb ⊢;exact hb
 have ajv: ∀b o,(kq.iter s' p').yy (φ l) b o->(kq.iter s p).yy (φ l) b o:=by intro b o hb;rw[hφ] at hb ⊢;exact hb
 have Km: ∀b o,Eh φ (σ.heap.set l (.iter s' p')) b o->Eh φ σ.heap b o:=by
  rintro b o ⟨j,x,hx,hm⟩;rcases nr j x hx with⟨rfl,rfl⟩|⟨_,hx⟩
  ·exact⟨j,_,hl,ajv b o hm⟩
  ·exact⟨j,x,hx,hm⟩
 have hlen: ∀j:Nat,lT (σ.heap.set l (.iter s' p'))[j]? =lT σ.heap[j]? :=by
  intro j;by_cases e:j=l
  ·subst e;rw[aP hlt,hl];rfl
  grind
 have le:(C.env φ σ.heap w).Le σ.heap.length (C.env φ (σ.heap.set l (.iter s' p')) (w.putObj r (.stringIter s' p'))):=
  pX.A1 (by simp) (fun j _=>⟨rfl,hlen j⟩) (fun b o u hm hc=>⟨fun h=>hm (h.imp (Km b o) id),by rw[hcell];exact hc⟩)
 have A2:qT C φ (σ.heap.set l (.iter s' p')) (w.putObj r (.stringIter s' p')) σ.df a.defers:=by
  refine S.defers.step le (fun b _ hno=>Fp b (fun e=>by subst e;exact hno l _ hl hbb)) (fun j x b hx hb=> ?_)
  grind
 refine {slots:=kC.mono le _ _ (kC.nb _ _ S.slots) S.slots,defers:=A2,nN:= ?_,apart:= ?_,sE:= ?_,size:=by rw[World.putObj_size];exact S.size,old:=fun b o hb hm=>by rw[hcell];exact S.old b o hb hm,nj:= ?_,B8:= ?_,u1:= ?_,rest:=S.rest,low:=⟨S.low.1,by simpa using S.low.2⟩,names:= ?_}
 ·intro j x hx;rcases nr j x hx with⟨rfl,rfl⟩|⟨hne,hx⟩
  ·exact⟨r,hφ,World.putObj_heap_same arR⟩
  ·exact nG.mono (S.nN j x hx) le (fun b hb=>Fp b (fun e=>by subst e;exact hne (S.apart j l x _ b hx hl hb hbb)))
 ·intro j j' x x' b hx hx' hb hb';rcases nr j x hx with⟨rfl,rfl⟩|⟨hne,hx1⟩<;>rcases nr j' x' hx' with⟨e2,rfl⟩|⟨amr,Pm⟩
  ·exact e2.symm
  ·exact S.apart j j' _ x' b hl Pm (IM b hb) hb'
  ·rw[e2] at hb' ⊢;exact S.apart j l x _ b hx1 hl hb (IM b hb')
  ·exact S.apart j j' x x' b hx1 Pm hb hb'
 ·intro j x b o hx hb;rcases nr j x hx with⟨rfl,rfl⟩|⟨_,hx⟩
  ·exact S.sE j _ b o hl (IM b hb)
  ·exact S.sE j x b o hx hb
 ·intro b hb hm;rw[Fp b (fun e=>by subst e;exact hm 0 (S.B8 l _ b 0 hl (hmb 0) hb))];exact S.nj b hb hm
 ·intro j x b o hx hm hb;rcases nr j x hx with⟨rfl,rfl⟩|⟨_,hx⟩
  ·exact S.B8 j _ b o hl (ajv b o hm) hb
  ·exact S.B8 j x b o hx hm hb
 ·intro x hx;rw[<-S.u1 x hx]
  grind [World.frozen?,World.putObj_heap_same]
 ·intro j hj;have:=S.names j hj;rw[hlen j];exact this
def amv(S:mo C φ σ a w){e:ux}(h:W7 l σ.heap[l]? =some e)(hv:n8 (C.env φ σ.heap w) (.ptr l 0) v):
 ∃u w',(Instr.next v true ty).run C.P w= .ok u w'/\n8 (C.env φ (lU σ.heap e.up) w') e.val u/\mo C φ {σ with heap:=lU σ.heap e.up} a w'/\e.nw=[]:=by
 unfold W7 at h;split at h
 ·rename_i s p hl;obtain⟨b,hφ,hb⟩:=S.nN l _ hl;have hb:w.heap[b]? =some (.stringIter s p):=hb;obtain⟨hlt,b',hφ',rfl⟩:=hv;have hφ':φ l= .pointer (some ⟨b',0,none⟩):=hφ';have hbb:b'=b:=by grind
  subst hbb;split at h
  ·rename_i hp;cases h;have hb2:=(aU.1 hb).1;refine⟨.tuple #[.bool true,goInt p,.int .i32 (Utf8.decode s p).1],w.putObj b' (.stringIter s (p+(Utf8.decode s p).2)),?_,?_,S.setIter hl hφ hb,rfl⟩
   ·simp [Instr.next,getObj,setObj,Sem.run,hb,hp,World.putObj,aA]
   ·exact⟨_,rfl,_,_,rfl,rfl,_,_,rfl,rfl,_,_,rfl,rfl,rfl⟩
  ·rename_i hp;cases h;refine⟨.tuple #[.bool false],w,?_,⟨_,rfl,_,_,rfl,rfl,rfl⟩,by simpa [lU] using S,rfl⟩;simp [Instr.next,getObj,Sem.run,hb,hp,aA]
 ·cases h
def aoM{z:AV}(h:tz1 P t=some z): ∃v,(zeroValue t).run P w= .ok v w/\ ∀E,n8 E z v:=by
 unfold tz1 at h;cases hi:P.info? t with
 |none=>simp [hi] at h
 |some i=>
  simp only[hi] at h;split at h
  ·rename_i b hz;cases h;exact⟨.bool b,by simp [zeroValue,typeInfo,hi,hz],fun E=>rfl⟩
  ·rename_i k n hz;cases h;exact⟨.int k n,by simp [zeroValue,typeInfo,hi,hz],fun E=>rfl⟩
  ·rename_i s hz;cases h;exact⟨.string s,by simp [zeroValue,typeInfo,hi,hz],fun E=>rfl⟩
  ·rename_i vs hz;cases h;exact⟨.agg vs,by simp [zeroValue,typeInfo,hi,hz],fun E=>⟨vs,rfl,Q0 E _⟩⟩
  ·cases h
def adS{z:AV}(h:UW P t=some z): ∃k e,P.underlying t=some (.map k e)/\P.underlying k=some .string/\tz1 P e=some z:=by
 grind [UW]
def adr{E:Env}{s:ByteArray}{v:AV}{u:Value}(hv:n8 E v u): ∀(es:List (AV×AV))(xs:List MapEntry)(i:Nat),Ko es=true->qC E es xs->
 (∃j x e,wL s es=some x/\aV .string (.string s) xs i=some (some (i+j,e.val))/\xs[j]? =some e/\e.key= .string s/\n8 E x e.val/\qC E (IO s v es) (xs.modify j fun e=>{e with key:= .string s,val:=u}))\/
 (wL s es=none/\aV .string (.string s) xs i=some none/\ ∀b,qC E (IO s v es) (xs++[{key:= .string s,val:=u,born:=b}]))
 |[],_,i,_,rfl=> .inr ⟨rfl,rfl,fun b=>⟨_,[],rfl,rfl,hv,rfl⟩⟩
 |(k,x)::es,xs,i,hs,⟨e,r,hx,r1,r2,r3⟩=>by
  subst hx;cases k with
  |str b=>
   have hs':Ko es=true:=hs;have hk:e.key= .string b:=r1;cases hb:s==b with
   |true=>
    have hsb:s=b:=(bytes_beq s b).1 hb;subst hsb;refine .inl ⟨0,x,e,?_,?_,rfl,hk,r2,?_⟩
    ·simp only[wL,hb,jM]
    ·grind [aV,bT]
    ·simp only[IO,hb,jM];exact⟨_,r,rfl,rfl,hv,r3⟩
   |false=>
    rcases adr hv es r (i+1) hs' r3 with⟨j,x',e',h1,h2,h3,h4,h5,h6⟩|⟨h1,h2,h3⟩
    ·refine .inl ⟨j+1,x',e',?_,?_,by simpa using h3,h4,h5,?_⟩
     ·grind [wL]
     ·grind [aV,bT]
     ·simp only[IO,hb,jN,List.modify_succ_cons];exact⟨e,_,rfl,r1,r2,h6⟩
    ·refine .inr ⟨?_,?_,fun q=> ?_⟩
     ·grind [wL]
     ·grind [aV,bT]
     ·simp only[IO,hb,jN,List.cons_append];exact⟨e,_,rfl,r1,r2,h3 q⟩
  |_=>cases hs
def ahT(S:mo C φ σ a w){z:AV}(ht:UW C.P t=some z)(hl:σ.heap[l]? =some (.map es))(hs:Ko es=true)
 (hv:n8 (C.env φ σ.heap w) (.map l) v): ∃u,(aX t v (.string s) false).run C.P w= .ok u w/\n8 (C.env φ σ.heap w) ((wL s es).getD z) u:=by
 obtain⟨kt,et,hu,hk,hz⟩:=adS ht;obtain⟨zv,hzr,hzE⟩:=aoM (w:=w) hz;obtain⟨r,xs,cl,hφ,hb,rF⟩:=S.nN l _ hl;have hb:w.heap[r]? =some (.map xs cl):=hb;obtain⟨_,rfl,_⟩:=hv;have hφ':(C.env φ σ.heap w).φ l= .map (some r):=hφ;rw[hφ'];have hck:=run_checkKey (P:=C.P) (w:=w) hk (d:= .string) (k:= .string s) trivial xs.isEmpty 9999;rcases adr (s:=s) (v:= .any) (u:=undef) (E:=C.env φ σ.heap w) trivial es xs.toList 0 hs rF with⟨j,x,e,h1,h2,_,_,h5,_⟩|⟨h1,h2,_⟩
 ·refine⟨e.val,?_,by rw[h1];exact h5⟩;simp [aX,run_underlying hu,run_getObj_map hb,hck,run_findKey hk h2,aA]
 ·refine⟨zv,?_,by rw[h1];exact hzE _⟩;simp [aX,run_underlying hu,run_getObj_map hb,hck,run_findKey hk h2,hzr,aA]
def adT(S:mo C φ σ a w){z:AV}(ht:UW C.P t=some z)(hl:σ.heap[l]? =some (.map es))(hs:Ko es=true)
 (hv:n8 (C.env φ σ.heap w) (.map l) v): ∃u,∃_:Unit,(aX t v (.string s) true).run C.P w= .ok u w/\n8 (C.env φ σ.heap w) (agM z l (wL s es)).val u:=by
 obtain⟨kt,et,hu,hk,hz⟩:=adS ht;obtain⟨zv,hzr,hzE⟩:=aoM (w:=w) hz;obtain⟨r,xs,cl,hφ,hb,rF⟩:=S.nN l _ hl;have hb:w.heap[r]? =some (.map xs cl):=hb;obtain⟨_,rfl,_⟩:=hv;have hφ':(C.env φ σ.heap w).φ l= .map (some r):=hφ;rw[hφ'];have hck:=run_checkKey (P:=C.P) (w:=w) hk (d:= .string) (k:= .string s) trivial xs.isEmpty 9999;rcases adr (s:=s) (v:= .any) (u:=undef) (E:=C.env φ σ.heap w) trivial es xs.toList 0 hs rF with⟨j,x,e,h1,h2,_,_,h5,_⟩|⟨h1,h2,_⟩
 ·refine⟨.tuple #[e.val,.bool true],(),?_,by rw[h1];exact⟨_,rfl,_,_,rfl,h5,_,_,rfl,rfl,rfl⟩⟩;simp [aX,run_underlying hu,run_getObj_map hb,hck,run_findKey hk h2,aA]
 ·refine⟨.tuple #[zv,.bool false],(),?_,by rw[h1];exact⟨_,rfl,_,_,rfl,hzE _,_,_,rfl,rfl,rfl⟩⟩;simp [aX,run_underlying hu,run_getObj_map hb,hck,run_findKey hk h2,hzr,aA]
def SE(S:mo C φ σ a w){z:AV}(ht:UW C.P t=some z)(hl:σ.heap[l]? =some (.map es))(hs:Ko es=true)
 (hv:n8 (C.env φ σ.heap w) (.map l) v) (hy:n8 (C.env φ σ.heap w) y u): ∃w',(bG t v (.string s) u).run C.P w= .ok () w'/\mo C φ {σ with heap:=σ.heap.set l (.map (IO s y es))} a w':=by
 obtain⟨kt,et,hu,hk,hz⟩:=adS ht;obtain⟨r,xs,cl,hφ,hb,rF⟩:=S.nN l _ hl;have hb:w.heap[r]? =some (.map xs cl):=hb;obtain⟨_,rfl,_⟩:=hv;have hφ':(C.env φ σ.heap w).φ l= .map (some r):=hφ;rw[hφ'];have hck:=run_checkKey (P:=C.P) (w:=w) hk (d:= .string) (k:= .string s) trivial false 9999;rcases adr (s:=s) (v:=y) (u:=u) (E:=C.env φ σ.heap w) hy es xs.toList 0 hs rF with⟨j,x,e,h1,h2,h3,h4,_,h6⟩|⟨h1,h2,h3⟩
 ·have hj:xs[j]? =some e:=by simpa using h3
  have h2':aV .string (.string s) xs.toList 0=some (some (j,e.val)):=by simpa using h2
  refine⟨w.putObj r (.map (xs.modify j fun e=>{e with key:= .string s,val:=u}) cl),?_,S.arQ hl hφ hb ?_⟩
  ·simp [bG,run_underlying hu,run_getObj_map hb,hck,run_findKey hk h2',hj,h4,run_keyThatStays (d:= .string) (k:= .string s) trivial,run_setObj_map _ hb,aA,World.putObj]
  grind
 ·refine⟨w.putObj r (.map (xs.push {key:= .string s,val:=u,born:=cl}) (cl+1)),?_,S.arQ hl hφ hb ?_⟩
  ·simp [bG,run_underlying hu,run_getObj_map hb,hck,run_findKey hk h2,run_setObj_map _ hb,aA,World.putObj]
  grind
end
section sound

def ajw(S:mo C φ σ a w)(ht:pd C.P t=some (g,n))(hl:σ.heap[l]? =some (.cells cs))(hx:l9 g n (cs.drop off)=some x)
 (r:n8 (C.env φ σ.heap w) (.ptr l off) v): ∃u,(aJ t v).run C.P w= .ok u w/\n8 (C.env φ σ.heap w) x u:=by
 obtain⟨_,b,hφ,rfl⟩:=r;obtain⟨b2,c,t2,hφ2,hh,rl,_⟩:=S.nN l _ hl;have e:b2=b:=by grind [pX.env]
 subst e;have hi:=IP (C:=C) (w:=w) ht;obtain⟨u,hu,ru⟩:=QZ (P:=C.P) (t:=t) (adN hh rl off) hi.1 hi.2 hx
 grind [aJ,av,pX.env]
def W9(S:mo C φ σ a w): ∀{cs ds:List AV}{ns:List Nat}{vs:List Value},vwL σ.heap cs=some (ds,ns)->kC (C.env φ σ.heap w) cs vs->kC (C.env φ σ.heap w) ds vs
 |[],_,_,_,h,r=>by grind [vwL]
 |c::cs,ds,ns,vs,h,⟨u,us,hv,r1,r2⟩=>by
  unfold vwL at h;split at h
  ·cases ‹_::_=[]›
  ·rename_i l n cs' heq;simp only[aB] at heq;obtain⟨rfl,rfl⟩:=heq;split at h
   ·rename_i rT sz rows hl;split at h
    ·rename_i hn;split at h
     ·rename_i es ms he;simp only[aj,aE] at h;obtain⟨rfl,_⟩:=h;cases rT with
      |false=>exact⟨u,us,hv,r1,W9 S he r2⟩
      |true=>
       have hu:=Je S hl hn r1;subst hu;exact⟨_,us,hv,UZ S hl,W9 S he r2⟩
     ·cases h
    ·cases h
   ·cases h
  ·rename_i c' cs' _ heq;simp only[aB] at heq;obtain⟨rfl,rfl⟩:=heq;split at h
   ·rename_i es ms he;simp only[aj,aE] at h;obtain⟨rfl,_⟩:=h;exact⟨u,us,hv,r1,W9 S he r2⟩
   ·cases h
def apT(S:mo C φ σ a w){v:AV}{e:ux}(h:ldV σ.heap l v=some e)(r:n8 (C.env φ σ.heap w) v u):e.up=[]/\e.nw=[]/\e.pre=True/\n8 (C.env φ σ.heap w) e.val u:=by
 unfold ldV at h;split at h
 ·split at h
  ·rename_i ds ns he;cases h;obtain⟨vs,hv,rl⟩:=r;exact⟨rfl,rfl,rfl,vs,hv,W9 S he rl⟩
  ·cases h
 grind
theorem avb(ht:pd C.P t=some (g,n))(hx:l9 g n cs=some x)
 (r:n8 (C.env φ σ.heap w) (.pp cs) v): ∃u,(aJ t v).run C.P w= .ok u w/\n8 (C.env φ σ.heap w) x u:=by
 obtain⟨b,off,rfl,rm⟩:=r;have hi:=IP (C:=C) (w:=w) ht;obtain⟨u,hu,ru⟩:=QZ (P:=C.P) (t:=t) (Kp rm) hi.1 hi.2 hx
 grind [aJ,av,pX.env]
def ZP{m:Sem α}{f:α->Sem β}{x:α}{r:Result β}(h1:m.run P w= .ok x w)(h2:(f x).run P w=r):(m>>=f).run P w=r:=by
 rw[ai,h1];exact h2
def Ju {t':TypeId}{x y:Operand}(ht:amq P t=true):
 ((∀op,(eqGuard op t x y (.iface t' u) .nilIface).run P w= .ok () w)/\ ∀op,(eqGuard op t x y .nilIface .nilIface).run P w= .ok () w)/\
 ((binOp .eql t (.iface t' u) .nilIface).run P w= .ok (.bool false) w/\(binOp .neq t (.iface t' u) .nilIface).run P w= .ok (.bool true) w)/\
 (binOp .eql t .nilIface .nilIface).run P w= .ok (.bool true) w/\(binOp .neq t .nilIface .nilIface).run P w= .ok (.bool false) w:=by
 unfold amq at ht;split at ht
 ·rename_i ms hu;obtain⟨d,hd⟩: ∃d,Op.maxDepth=d+1:=⟨_,rfl⟩
  have e1:(Op.equal t (.iface t' u) .nilIface).run P w= .ok false w:=by
   simp_all [Op.equal,Op.equalIn,run_underlying]
  have e2:(Op.equal t .nilIface .nilIface).run P w= .ok true w:=by
   unfold Op.equal;simp_all [Op.equalIn,run_underlying]
  have key:(Op.eqGuardIn Op.maxDepth t .nilIface .nilIface).run P w= .ok false w:=by
   simp_all [Op.eqGuardIn,run_underlying]
  have g1: ∀op,(eqGuard op t x y (.iface t' u) .nilIface).run P w= .ok () w:=by
   simp_all [eqGuard]
  have hg: ∀op,(eqGuard op t x y .nilIface .nilIface).run P w= .ok () w:=by
   simp_all [eqGuard]
  exact⟨⟨g1,hg⟩,⟨ZP e1 rfl,ZP e1 rfl⟩,ZP e2 rfl,ZP e2 rfl⟩
 ·cases ht
def avc{op:BinOp}{y:Operand}{e:ux}(h:YU P op t x y=some e)(r:n8 E x v):
 ∃b,a.eval y= .slice none 0 0/\(do eqGuard op t ox y v (.slice none 0 0);binOp op t v (.slice none 0 0):Sem Value).run P w= .ok (.bool b) w/\e={val:= .bool b}:=by
 have key: ∀(base:Option Addr)(n c:Nat),(nF P t).isSome=true->(do eqGuard .eql t ox y (.slice base n c) (.slice none 0 0);binOp .eql t (.slice base n c) (.slice none 0 0):Sem Value).run P w= .ok (.bool base.isNone) w:=by
  intro base n c ht
  obtain⟨e',he'⟩: ∃e',P.underlying t=some (.slice e'):=by
   grind [nF]
  exact ZP rfl (Lib.run_eql_slice_nil w t e' base n c 0 0 he')
 unfold YU at h;split at h
 ·rename_i base n c;split at h
  ·rename_i ht;cases h;have r:v=_:=r;subst r;exact⟨_,rfl,key base n c ht,rfl⟩
  ·cases h
 ·split at h
  ·rename_i ht;cases h;obtain⟨base,cap,rfl,h2,_,h4,_⟩:=r;refine⟨_,rfl,key base _ cap ht.2,?_⟩;cases base with
   |none=>
    simp_all
   |some a=>rfl
  ·cases h
 ·cases h
theorem ni.take: ∀{cs:List AV}{off:Nat}(k:Nat),ni E b off cs->ni E b off (cs.take k)
 |[],_,_,_=>by simp [ni]
 |_::_,_,0,_=>by simp [ni]
 |_::_,_,k+1,⟨h,r⟩=>by
  rw[List.take_succ_cons];exact⟨h,ni.take k r⟩
def adU{E:Env}{b sz:Nat}: ∀{n:Nat}{cs ds:List AV}{off:Nat},adK sz n cs=some ds->ni E b off cs->ni E b (off+n*sz) ds
 |0,cs,ds,off,h,r=>by
  grind [adK,ni.take]
 |n+1,cs,ds,off,h,r=>by
  have:=adU (n:=n) h (r.drop sz)
  grind
def Np (S:mo C φ σ a w) {e:ux} (h:k7 C.P σ o.op=some e) (hp:e.pre):yf C σ a w o.dst ((execOp a.eval o).run C.P w) e:=by
 cases ho:o.op with
 |move x=>
  rw[ho] at h;cases h;refine yf.of_eq ?_ (li (rd:=[]) (p:=True) (m:=pure (a.eval x)) S ⟨_,rfl,S.ev x⟩);simp [execOp,ho]
 |assign x=>
  rw[ho] at h;cases h;refine yf.of_eq ?_ (li (rd:=[]) (p:=True) (m:=pure (a.eval x)) S ⟨_,rfl,S.ev x⟩);simp [execOp,ho]
 |pick c x y=>
  rw[ho] at h;have hc:=S.ev c;simp only[k7] at h;split at h
  ·rename_i b hb;rw[hb] at hc;simp only[n8] at hc;cases h;refine yf.of_eq ?_ (li (rd:=[]) (p:=True) (m:=pure (bif b then a.eval x else a.eval y)) S ⟨_,rfl,?_⟩)
   ·grind [execOp,asBool]
   ·cases b
    ·exact S.ev y
    ·exact S.ev x
  ·cases h
 |alloc t=>
  rw[ho] at h;simp only[k7] at h;split at h
  ·rename_i z hz;cases h;obtain⟨v,hv,hr,hone⟩:=W8 (w:=w) hz;refine agT (c:=v.cells) (t:=t) S ?_ (hr _) hone;simp only[execOp,ho,Instr.alloc,ai,hv,af,newVar,newRow,run_newObj,aq];rfl
  ·cases h
 |box t x=>
  rw[ho] at h;simp only[k7] at h;split at h
  ·rename_i cs hc;cases h;refine agT (c:=(a.eval x).cells) (t:=t) S ?_ (Ey hc (S.ev x)).1 (Ey hc (S.ev x)).2;simp only[execOp,ho,Instr.box,ai,af,newVar,newRow,run_newObj,aq];rfl
  ·cases h
 |build t parts=>
  rw[ho] at h;simp only[k7] at h
  grind [li,ajr,execOp]
 |buildSlice t len parts=>
  rw[ho] at h;simp only[k7] at h;split at h
  ·rename_i et sz by' ht;split at h
   ·rename_i z hz;split at h
    ·rename_i hc;split at h
     ·rename_i rows hr;cases avd:au1 t (agL (parts.toList.map (·.2))) with
      |true=>
       grind [ZN,execOp]
      |false=>
      rw[avd] at h;cases h;obtain⟨v,c,hrun,rF⟩:=aa8 S ht hz hc hr;refine apR S (o:= .cells c et) (by grind) (v:=v) ?_ rF;simp [execOp,ho,hrun]
     ·cases h
    ·cases h
   ·cases h
  ·cases h
 |load t x=>
  rw[ho] at h;have hx:=S.ev x;simp only[k7] at h;split at h
  ·rename_i g n l off ht hp';rw[hp'] at hx;split at h
   ·rename_i cs hl;split at h
    ·rename_i v hv;obtain⟨u,hu,ru⟩:=ajw S ht hl hv hx;obtain⟨h1,h2,h3,h4⟩:=apT S h ru;obtain⟨val,rd,up,nw,pre⟩:=e;simp only at h1 h2 h3 h4;subst h1 h2 h3;refine yf.of_eq ?_ (li (rd:=rd) (p:=True) S ⟨u,hu,h4⟩);simp [execOp,ho]
    ·cases h
   ·cases h
  ·grind [li,avb,execOp]
  ·grind [li,arO,execOp]
  ·rename_i n rv ht hp';rw[hp'] at hx;simp only[n8] at hx;unfold adL at h;split at h
   case h_2=>cases h
   rename_i b o';split at h
   ·rename_i k hk;rw[aM] at h;obtain⟨m,hm,h⟩:=h;cases h;obtain⟨hd,hkv⟩:=au3 hk hm;obtain⟨v,hc,hv,_⟩:=S.know b o' hd;have:=hkv v hv;subst this;have hi:=IP (C:=C) (w:=w) ht;refine yf.of_eq ?_ (li (rd:=[]) (p:=True) (m:=aJ t (a.eval x)) S ⟨.int k m,?_,rfl⟩)
    ·simp [execOp,ho]
    ·rw[hx]
     have hM:ajp (C.env φ σ.heap w) b o' [.int k m]:=⟨[.int k m],⟨_,_,rfl,rfl,rfl⟩,fun j u hj=>by
      cases j with
      |zero=>simp at hj;subst hj;exact hc
      |succ j=>simp at hj⟩
     obtain⟨u,hu,ru⟩:=QZ (P:=C.P) (t:=t) hM hi.1 hi.2 (x:= .int k m) rfl;have ru:u= .int k m:=ru
     grind [aJ,av,pX.env]
   ·cases h
  ·cases h
 |store t x y=>
  rw[ho] at h;have hx:=S.ev x;simp only[k7] at h;split at h
  ·rename_i g n l off ys ht hp' hc;rw[hp'] at hx;split at h
   ·rename_i cs hl;split at h
    ·rename_i ajx;cases h;obtain⟨hr,h1⟩:=Ey hc (S.ev y);obtain⟨w',hrun,hS⟩:=ajq S ht hl hr h1 ajx.1 ajx.2 hx;refine⟨.skip,undef,w',φ,?_,.inr ⟨rfl,rfl⟩,?_⟩
     ·simp [execOp,ho,hrun]
     ·rw[adP];exact hS.put _ trivial
    ·cases h
   ·cases h
  ·rename_i g n l i m o' sz ys ht hp' hc;rw[hp'] at hx;split at h
   ·rename_i KI rows hl;split at h
    ·rename_i hcc;obtain⟨rfl,hm⟩:=hcc;split at h
     ·rename_i r hr';split at h
      ·rename_i ajx;cases h;obtain⟨hr,h1⟩:=Ey hc (S.ev y);obtain⟨w',hrun,hS⟩:=apP S ht hl hm hr' hr h1 ajx.1 ajx.2 hx;refine⟨.skip,undef,w',φ,?_,.inr ⟨rfl,rfl⟩,?_⟩
       ·simp [execOp,ho,hrun]
       ·rw[adP];exact hS.put _ trivial
      ·cases h
     ·cases h
    ·cases h
   ·cases h
  ·cases h
 |nilCheck x=>
  rw[ho] at h;have hx:=S.ev x;simp only[k7] at h;split at h
  ·rename_i l off hp';rw[hp'] at hx;cases h;obtain⟨hl,b,hb,hv⟩:=hx;refine yf.of_eq ?_ (li (rd:=[]) (p:=True) (m:=pure (a.eval x)) S ⟨_,rfl,hl,b,hb,hv⟩);simp [execOp,ho,hv]
  ·rename_i cs hp';rw[hp'] at hx;cases h;obtain⟨b,off,hv,hm⟩:=hx;refine yf.of_eq ?_ (li (rd:=[]) (p:=True) (m:=pure (a.eval x)) S ⟨_,rfl,b,off,hv,hm⟩);simp [execOp,ho,hv]
  ·rename_i f fs cs hp';rw[hp'] at hx;cases h;obtain⟨f',c',hv,r1,r2⟩:=hx;refine yf.of_eq ?_ (li (rd:=[]) (p:=True) (m:=pure (a.eval x)) S ⟨_,rfl,f',c',hv,r1,r2⟩);simp [execOp,ho,hv]
  ·cases h
 |binOp op t x y ty=>
  rw[ho] at h;simp only[k7] at h;split at h
  ·rename_i v hv;cases h;refine yf.of_eq ?_ (li (rd:=[]) (p:=True) S (aju (t:=t) (ox:=x) (oy:=y) (w:=w) hv (S.ev x) (S.ev y)));simp [execOp,ho]
  ·have hx:=S.ev x;have hy:=S.ev y;unfold agJ at h;split at h
   ·rename_i e' he;have hq:=avc (a:=a) (w:=w) (ox:=x) he hx;cases h;obtain⟨b,hb,hv,he2⟩:=hq;subst he2;refine yf.of_eq ?_ (li (rd:=[]) (p:=True) (m:=(do eqGuard op t x y (a.eval x) (a.eval y);binOp op t (a.eval x) (a.eval y):Sem Value)) S ⟨.bool b,?_,rfl⟩)
    all_goals grind [execOp]
   rename_i hnE;clear hnE;unfold aa6 at h;split at h
   ·rename_i cs ds h1 h2 _;cases h;rw[h1] at hx;rw[h2] at hy;obtain⟨vs,hvs,r1⟩:=hx;obtain⟨us,hus,r2⟩:=hy;refine yf.of_eq ?_ (li (rd:=[]) (p:=agI C.P t cs ds) S ⟨.bool (eqB cs ds),(hp _ vs us w x y r1 r2).1,rfl⟩);simp [execOp,ho,hvs,hus]
   ·rename_i cs ds h1 h2 _;cases h;rw[h1] at hx;rw[h2] at hy;obtain⟨vs,hvs,r1⟩:=hx;obtain⟨us,hus,r2⟩:=hy;refine yf.of_eq ?_ (li (rd:=[]) (p:=agI C.P t cs ds) S ⟨.bool (!eqB cs ds),(hp _ vs us w x y r1 r2).2,rfl⟩);simp [execOp,ho,hvs,hus]
   ·rename_i p q h1 h2 _;split at h
    ·rename_i ht;cases h;rw[h1] at hx;rw[h2] at hy;simp only[n8] at hx hy;refine yf.of_eq ?_ (li (rd:=[]) (p:=True) (m:=pure (.bool (p==q))) S ⟨_,rfl,rfl⟩)
     simp_all [execOp,agS,ayh]
    ·cases h
   ·rename_i p q h1 h2 _;split at h
    ·rename_i ht;cases h;rw[h1] at hx;rw[h2] at hy;simp only[n8] at hx hy;refine yf.of_eq ?_ (li (rd:=[]) (p:=True) (m:=pure (.bool (!(p==q)))) S ⟨_,rfl,rfl⟩)
     simp_all [execOp,agS,ayi]
    ·cases h
   all_goals first
    |(cases h;done)
    |skip
   ·rename_i t' z h1 h2 _;split at h
    ·rename_i ht;cases h;rw[h1] at hx;rw[h2] at hy;obtain⟨u,hx,_⟩:=hx;have hy:a.eval y= .nilIface:=hy;refine yf.of_eq ?_ (li (rd:=[]) (p:=True) (m:=pure (.bool false)) S ⟨_,rfl,rfl⟩);simp [execOp,ho,hx,hy,(Ju (w:=w) (t':=t') (u:=u) (x:=x) (y:=y) ht).1.1,(Ju (w:=w) (t':=t') (u:=u) (x:=x) (y:=y) ht).2.1.1]
    ·cases h
   ·rename_i t' z h1 h2 _;split at h
    ·rename_i ht;cases h;rw[h1] at hx;rw[h2] at hy;obtain⟨u,hx,_⟩:=hx;have hy:a.eval y= .nilIface:=hy;refine yf.of_eq ?_ (li (rd:=[]) (p:=True) (m:=pure (.bool true)) S ⟨_,rfl,rfl⟩);simp [execOp,ho,hx,hy,(Ju (w:=w) (t':=t') (u:=u) (x:=x) (y:=y) ht).1.1,(Ju (w:=w) (t':=t') (u:=u) (x:=x) (y:=y) ht).2.1.2]
    ·cases h
   ·rename_i h1 h2 _;split at h
    ·rename_i ht;cases h;rw[h1] at hx;rw[h2] at hy;have hx:a.eval x= .nilIface:=hx;have hy:a.eval y= .nilIface:=hy;refine yf.of_eq ?_ (li (rd:=[]) (p:=True) (m:=pure (.bool true)) S ⟨_,rfl,rfl⟩);simp [execOp,ho,hx,hy,(Ju (w:=w) (t':=t) (u:=undef) (x:=x) (y:=y) ht).1.2,(Ju (w:=w) (t':=t) (u:=undef) (x:=x) (y:=y) ht).2.2.1]
    ·cases h
   ·rename_i h1 h2 _;split at h
    ·rename_i ht;cases h;rw[h1] at hx;rw[h2] at hy;have hx:a.eval x= .nilIface:=hx;have hy:a.eval y= .nilIface:=hy;refine yf.of_eq ?_ (li (rd:=[]) (p:=True) (m:=pure (.bool false)) S ⟨_,rfl,rfl⟩);simp [execOp,ho,hx,hy,(Ju (w:=w) (t':=t) (u:=undef) (x:=x) (y:=y) ht).1.2,(Ju (w:=w) (t':=t) (u:=undef) (x:=x) (y:=y) ht).2.2.2]
    ·cases h
 |unOp op t x=>
  rw[ho] at h;have hx:=S.ev x;simp only[k7] at h;split at h
  ·rename_i b hb;rw[hb] at hx;simp only[n8] at hx;cases h;refine yf.of_eq ?_ (li (rd:=[]) (p:=True) (m:=pure (.bool !b)) S ⟨_,rfl,rfl⟩);simp [execOp,ho,hx,Op.unary]
  ·rename_i k n hb;rw[hb] at hx;simp only[n8] at hx;cases h;refine yf.of_eq ?_ (li (rd:=[]) (p:=True) (m:=pure (.int k (k.wrap (0-n)))) S ⟨_,rfl,rfl⟩);simp [execOp,ho,hx,Op.unary,Op.intArith]
  ·rename_i k n hb;rw[hb] at hx;simp only[n8] at hx;cases h;refine yf.of_eq ?_ (li (rd:=[]) (p:=True) (m:=Op.intBits .xor k (if k.signed then-1 else k.max) n) S ⟨_,rfl,rfl⟩);simp [execOp,ho,hx,Op.unary]
  ·cases h
 |convert s d x=>
  rw[ho] at h;have hx:=S.ev x;simp only[k7] at h;split at h
  ·rename_i v hv;rw[hv] at hx;simp only[n8] at hx;split at h
   ·rename_i hc;simp only[aS] at hc;cases h;refine yf.of_eq ?_ (li (rd:=[]) (p:=True) (m:=pure (.string v)) S ⟨_,rfl,rfl⟩)
    simp_all [execOp,convert,run_underlying,ZM]
   ·cases h
  ·rename_i k n hv;rw[hv] at hx;simp only[n8] at hx;split at h
   ·rename_i k1 k2 h1 h2;cases h;refine yf.of_eq ?_ (li (rd:=[]) (p:=True) (m:=pure (.int k2 (k2.wrap n))) S ⟨_,rfl,rfl⟩)
    simp_all [execOp,convert,run_underlying,aoK,Conv.intToInt]
   ·rename_i k1 h1 h2;split at h
    ·rename_i hs;cases h;refine yf.of_eq ?_ (li (rd:=[]) (p:=True) (m:=pure (.string (Utf8.encode n))) S ⟨_,rfl,rfl⟩)
     simp_all [execOp,convert,run_underlying,aoK,ZM,Conv.intToString]
    ·cases h
   ·cases h
  ·cases h
 |makeInterface t x=>
  rw[ho] at h;simp only[k7] at h;split at h
  ·rename_i hc;cases h;refine yf.of_eq ?_ (li (rd:=[]) (p:=True) (m:=pure (.iface t (a.eval x))) S ⟨_,rfl,_,rfl,S.ev x⟩);unfold qj at hc;cases hu:C.P.underlying t with
   |none=>simp [hu] at hc
   |some d=>
    simp only[hu] at hc;cases d<;>simp_all [execOp,Instr.makeInterface,run_underlying hu]
  ·cases h
 |makeFunc fn f c=>
  rw[ho] at h;cases h;refine yf.of_eq ?_ (li (rd:=[]) (p:=True) (m:=Instr.makeFunc fn (f.map a.eval) (c.map a.eval)) S ⟨_,rfl,_,_,rfl,?_,?_⟩)
  all_goals simp_all [execOp,Jt]
 |makeSlice t x y=>
  rw[ho] at h;have hx:=S.ev x;have hy:=S.ev y;simp only[k7] at h
  grind [n8,acJ,execOp]
 |slice t x lo hi mx=>
  rw[ho] at h;have hx:=S.ev x;simp only[k7] at h
  have hex:(execOp a.eval o).run C.P w=(do pure (.value (<-aT t (a.eval x) (lo.map a.eval) (hi.map a.eval) (mx.map a.eval))):Sem Next).run C.P w:=by
   simp [execOp,ho]
  refine yf.of_eq hex ?_;split at h
  ·rename_i et sz by' ht;split at h
   ·cases h
   ·rename_i hmx;have aCn:(mx.isSome&&hi.isNone)=false:=(Bool.not_eq_true _).mp hmx;unfold ZJ at h;split at h
    ·grind [li,agQ]
    ·rename_i k n hv;rw[hv] at hx;split at h
     ·rename_i KI rows hl;split at h
      ·rename_i l hh m h1 h2 h3;split at h
       ·rename_i hc;obtain⟨rfl,hn,hc⟩:=hc;cases h;have hvv:=Je S hl hn hx;have:=agQ (tt:=false) S ht h1 h2 h3 (.inl rfl) hc aCn (UZ S hl)
        grind [li]
       ·cases h
      ·cases h
     ·cases h
    ·cases h
  ·split at h
   ·rename_i s ht hv;rw[hv] at hx;simp only[n8] at hx;split at h
    ·rename_i l hh h1 h2;split at h
     ·rename_i hc;cases h;exact li S ⟨_,by grind [apQ],rfl⟩
     ·cases h
    ·cases h
   ·cases h
 |fieldAddr t x i=>
  rw[ho] at h;have hx:=S.ev x;simp only[k7] at h
  grind [execOp,li,acI]
 |field t x i=>
  rw[ho] at h;have hx:=S.ev x;simp only[k7] at h;split at h
  ·rename_i f u cs hf hv;rw[hv] at hx;split at h
   ·rename_i g n ht;split at h
    ·rename_i v hl;cases h;obtain⟨vs,hvs,rl⟩:=hx;obtain⟨fs,fd,j,hu,hfi,hj,_,rfl,rfl⟩:=aoJ hf;have hi:=IP (C:=C) (w:=w) ht;refine yf.of_eq ?_ (li (rd:=[]) (p:=True) S (amu hi.1 hi.2 rl hl))
     simp_all [execOp,Instr.field,run_underlying,asAgg]
    ·cases h
   ·cases h
  ·cases h
 |indexAddr t x i=>
  rw[ho] at h;have hx:=S.ev x;have hi:=S.ev i;simp only[k7] at h
  have hex:(execOp a.eval o).run C.P w=(do pure (.value (<-aH t (a.eval x) (a.eval i))):Sem Next).run C.P w:=by
   simp [execOp,ho]
  refine yf.of_eq hex ?_;split at h
  ·rename_i et sz by' ht;split at h
   ·rename_i tt KI rows k n hv hn;rw[hv] at hx;rw[hn] at hi;simp only[n8] at hi;split at h
    ·rename_i hc;obtain⟨rfl,hc⟩:=hc;split at h
     ·rename_i r hr;cases h;have:=X9 (k:=k) ht hc hr hx
      grind [li]
     ·cases h
    ·cases h
   ·rename_i l m k n hv hn;rw[hv] at hx;rw[hn] at hi;simp only[n8] at hi;split at h
    ·rename_i KI rows hl;split at h
     ·rename_i hc;obtain⟨rfl,hc,hm⟩:=hc;split at h
      ·rename_i r hr;cases h;have:=afJ (k:=k) S ht hc hl hm hr hx
       grind [li]
      ·cases h
     ·cases h
    ·rename_i KI rows hl;split at h
     ·rename_i hc;obtain⟨rfl,hc,hm,hlt⟩:=hc;cases h;obtain⟨hu,ti,hti,rfl,rfl⟩:=LH ht;have hv':=Je S hl hm hx;obtain⟨base,cap,hh,h2,h3,h4,h5⟩:=S.nN l _ hl;have hsz:(sizeOf et).run C.P w= .ok ti.size w:=by simp [sizeOf,typeInfo,hti]
      cases base with
      |none=>have:=h3 rfl;omega
      |some b=>
       obtain⟨hsp,_⟩:=h5 b rfl (by omega);have hb:b=⟨b.block,b.off,none⟩:=by cases b;simp_all
       refine li S ⟨.pointer (some ⟨b.block,b.off+n.toNat*ti.size,none⟩),?_,hx.1,⟨_,rfl⟩,?_⟩
       ·rw[hi,hv',hh];have ayg:0<=n/\n<(rows.length:Int):=⟨hc,by omega⟩;simp only[aH,asIntOf,ai,aq,af,run_underlying hu,ayg,and_self,jU,hsz];rw[hb,add_plain]
       ·intro k' hk';simp only[pX.env,hl,lT,aj] at hk';refine⟨by omega,fun _=>⟨b.block,b.off,rows.length,cap,?_,rfl⟩⟩
        grind [pX.env]
     ·cases h
    ·cases h
   ·cases h
  ·split at h
   ·rename_i len sz ht;split at h
    ·rename_i l off k n hv hn;rw[hv] at hx;rw[hn] at hi;simp only[n8] at hi;split at h
     ·rename_i hc;cases h;unfold ajo at ht;split at ht
      ·rename_i n' e hu;split at ht
       ·rename_i ti hti;simp only[aj,aE] at ht;obtain⟨rfl,rfl⟩:=ht;obtain⟨hl,b,hb,hv'⟩:=hx;have hsz:(sizeOf e).run C.P w= .ok ti.size w:=by simp [sizeOf,typeInfo,hti]
        refine li S ⟨.pointer (some ⟨b,off+n.toNat*ti.size,none⟩),?_,hl,b,hb,rfl⟩;rw[hi,hv'];simp only[aH,asIntOf,ai,aq,af,run_underlying hu,av,hc,and_self,jU,hsz];rw[add_plain]
       ·cases ht
      ·cases ht
     ·cases h
    ·rename_i cs k n hv hn;rw[hv] at hx;rw[hn] at hi;simp only[n8] at hi;split at h
     ·rename_i hc;rw[aM] at h;obtain⟨ds,hd,he⟩:=h;obtain rfl:=Option.some.inj he;unfold ajo at ht;split at ht
      ·rename_i n' e hu;split at ht
       ·rename_i ti hti;simp only[aj,aE] at ht;obtain⟨rfl,rfl⟩:=ht;obtain⟨b,off,hv',rm⟩:=hx;have hsz:(sizeOf e).run C.P w= .ok ti.size w:=by simp [sizeOf,typeInfo,hti]
        refine li S ⟨.pointer (some ⟨b,off+n.toNat*ti.size,none⟩),?_,b,_,rfl,adU hd rm⟩;rw[hi,hv'];simp only[aH,asIntOf,ai,aq,af,run_underlying hu,av,hc,and_self,jU,hsz];rw[add_plain]
       ·cases ht
      ·cases ht
     ·cases h
    ·rename_i b off k n hv hn;rw[hv] at hx;rw[hn] at hi;simp only[n8] at hi hx;split at h
     ·rename_i hc;cases h;unfold ajo at ht;split at ht
      ·rename_i n' e hu;split at ht
       ·rename_i ti hti;simp only[aj,aE] at ht;obtain⟨rfl,rfl⟩:=ht;have hsz:(sizeOf e).run C.P w= .ok ti.size w:=by simp [sizeOf,typeInfo,hti]
        refine li S ⟨.pointer (some ⟨b,off+n.toNat*ti.size,none⟩),?_,rfl⟩;rw[hi,hx];simp only[aH,asIntOf,ai,aq,af,run_underlying hu,av,hc,and_self,jU,hsz];rw[add_plain]
       ·cases ht
      ·cases ht
     ·cases h
    ·cases h
   ·cases h
 |index t x i=>
  rw[ho] at h;have hx:=S.ev x;have hi:=S.ev i;simp only[k7] at h;split at h
  ·rename_i s k n ht hv hn;rw[hv] at hx;rw[hn] at hi;simp only[n8] at hi hx;split at h
   ·rename_i hc;split at h
    ·rename_i b hb;cases h;refine yf.of_eq ?_ (li (rd:=[]) (p:=True) (m:=pure (.int .u8 b.toNat)) S ⟨_,rfl,rfl⟩)
     simp_all [execOp,Instr.index,asIntOf,run_underlying,ZM]
    ·cases h
   ·cases h
  ·cases h
 |extract x i=>
  rw[ho] at h;have hx:=S.ev x;simp only[k7] at h;split at h
  ·rename_i vs hv;rw[hv] at hx;split at h
   ·rename_i v hi;cases h;obtain⟨us,hu,rl⟩:=hx;obtain⟨u,hu',ru⟩:=rl.get hi;refine yf.of_eq ?_ (li (rd:=[]) (p:=True) (m:=pure u) S ⟨_,rfl,ru⟩)
    grind [execOp,Instr.extract]
   ·cases h
  ·cases h
 |call c=>
  obtain⟨cl,args,ts⟩:=c;cases cl with
  |builtin b=>
   rw[ho] at h;exact afK S ho h hp
  |value f=>rw[ho] at h;cases h
  |invoke r m=>rw[ho] at h;cases h
 |makeMap t r=>
  rw[ho] at h;cases r with
  |some r=>cases h
  |none=>
   cases h;have S':=S.ava;refine⟨.value (.map (some w.heap.size)),.map (some w.heap.size),World.more w (.map #[] 0),(fun l=>if l=σ.heap.length then .map (some w.heap.size) else φ l),?_,.inl rfl,?_⟩
   ·simp_all [execOp,Instr.makeMap,World.more]
   ·rw[aa9];refine S'.put _ ⟨by simp [pX.env],by simp [pX.env],w.heap.size,by simp [pX.env,hdl]⟩
 |typeAssert x u t ok=>
  rw[ho] at h;cases ok with
  |false=>cases h
  |true=>
   have hx:=S.ev x;simp only[k7] at h;unfold ahQ at h;split at h
   ·rename_i t' z hx';split at h
    ·rename_i hc;obtain⟨rfl,hc⟩:=hc;cases h;rw[hx'] at hx;obtain⟨q,hq,hr⟩:=hx;refine yf.of_eq ?_ (li (rd:=[]) (p:=True) (m:=pure (.tuple #[q,.bool true])) S ⟨_,rfl,_,rfl,_,_,rfl,hr,_,_,rfl,rfl,rfl⟩);unfold qj at hc;cases hu:C.P.underlying t' with
     |none=>simp [hu] at hc
     |some d=>
      simp only[hu] at hc;cases d<;>simp_all [execOp,Instr.typeAssert,run_underlying hu]
    ·cases h
   ·cases h
 |lookup t x k ok=>
  rw[ho] at h;cases ok with
  |true=>
   have hx:=S.ev x;have hk:=S.ev k;simp only[k7] at h;split at h
   ·rename_i z l s ht hx' hk';rw[hx'] at hx;rw[hk'] at hk;have hk:a.eval k= .string s:=hk;unfold aa7 at h;split at h
    ·rename_i es hl;split at h
     ·rename_i hs;cases h;obtain⟨u,b,hrun,rF⟩:=adT (s:=s) S ht hl hs hx;have hv:agM z l (wL s es)={val:=(agM z l (wL s es)).val,rd:=[l]}:=by cases wL s es<;>rfl
      grind [li,execOp]
     ·cases h
    ·cases h
   ·cases h
  |false=>
   have hx:=S.ev x;have hk:=S.ev k;simp only[k7] at h;split at h
   ·rename_i z l s ht hx' hk';rw[hx'] at hx;rw[hk'] at hk;have hk:a.eval k= .string s:=hk;unfold W6 at h;split at h
    ·rename_i es hl;split at h
     ·rename_i hs;cases h;obtain⟨u,hrun,rF⟩:=ahT (s:=s) S ht hl hs hx
      grind [li,execOp]
     ·cases h
    ·cases h
   ·cases h
 |range t x=>
  rw[ho] at h;have hx:=S.ev x;simp only[k7] at h;split at h
  ·rename_i s ht hv;rw[hv] at hx;simp only[n8] at hx;cases h;have S':=S.arP s;refine⟨.value (.pointer (some ⟨w.heap.size,0,none⟩)),.pointer (some ⟨w.heap.size,0,none⟩),World.more w (.stringIter s 0),(fun l=>if l=σ.heap.length then .pointer (some ⟨w.heap.size,0,none⟩) else φ l),?_,.inl rfl,?_⟩
   ·simp [execOp,ho,hx,Instr.range,run_underlying (ZM ht),newObj,Sem.run,World.more,aA]
   ·rw[aa9];refine S'.put _ ⟨by simp [pX.env],w.heap.size,by simp [pX.env],rfl⟩
  ·cases h
 |next x st=>
  rw[ho] at h;cases st with
  |false=>cases h
  |true=>
   have hx:=S.ev x;simp only[k7] at h;split at h
   ·rename_i l hv;rw[hv] at hx;obtain⟨u,w',hrun,rF,hS,hn⟩:=amv (ty:=o.type) S h hx;refine⟨.value u,u,w',φ,?_,.inl rfl,?_⟩
    ·simp [execOp,ho,hrun]
    ·have:=hS.put o.dst rF;cases hd:o.dst<;>simpa [jZ.app,jZ.put,hn,hd] using this
   ·cases h
 |mapUpdate t x k y=>
  rw[ho] at h;have hx:=S.ev x;have hk:=S.ev k;simp only[k7] at h;split at h
  ·rename_i z l s ht hx' hk';rw[hx'] at hx;rw[hk'] at hk;have hk:a.eval k= .string s:=hk;unfold Ad at h;split at h
   ·rename_i es hl;split at h
    ·rename_i hs;cases h;obtain⟨w',hrun,hS⟩:=SE (s:=s) S ht hl hs hx (S.ev y);refine⟨.skip,undef,w',φ,?_,.inr ⟨rfl,rfl⟩,?_⟩
     ·simp [execOp,ho,hk,hrun]
     ·rw[adP];exact hS.put _ trivial
    ·cases h
   ·cases h
  ·cases h
 |insert t x k y=>
  rw[ho] at h;have hx:=S.ev x;have hk:=S.ev k;simp only[k7] at h;split at h
  ·rename_i z l s ht hx' hk';rw[hx'] at hx;rw[hk'] at hk;have hk:a.eval k= .string s:=hk;unfold Ad at h;split at h
   ·rename_i es hl;split at h
    ·rename_i hs;cases h;obtain⟨w',hrun,hS⟩:=SE (s:=s) S ht hl hs hx (S.ev y);refine⟨.skip,undef,w',φ,?_,.inr ⟨rfl,rfl⟩,?_⟩
     ·simp [execOp,ho,hk,hrun]
     ·rw[adP];exact hS.put _ trivial
    ·cases h
   ·cases h
  ·cases h
 |_=>rw[ho] at h;cases h
end sound
inductive mM where
 |normal
 |exit (id:Nat)
 |goto (l:Nat)
 |ret
 |panic (x:AV)
inductive sO where
 |ret (r:AV)
 |panic (x:AV)
def sO.No(E:Env):sO->Ending->Prop
 | .ret r,.returned v=>n8 E r v
 | .panic x,.panicked chain=> ∃v,chain=[{v,recovered:=false}]/\n8 E x v
 |_,_=>False
def enters(P:Program)(f:FuncId):Bool:=
 match P.funcs[f]? with
 |some fn=>fn.body.isSome&&fn.name != "runtime.NumGoroutine"
 |none=>false
def zD(P:Program)(f:FuncId)(args:List AV)(σ:jZ)(K:sO->List kq->Prop):Prop:=
 enters P f=true/\ ∀(C:pX)(φ:Nat->Value)(a:Act)(w:World),C.P=P->mo C φ σ a w-> ∀vs:Array Value,kC (C.env φ σ.heap w) args vs.toList->
  Calls P f vs w fun e w'=> ∃o φ' H',K o H'/\mo C φ' {σ with heap:=H'} a w'/\o.No (C.env φ' H' w') e
def GF(σ σ':jZ):Prop:= ∀(C:pX)(φ:Nat->Value)(a:Act)(w:World),mo C φ σ a w-> ∃φ',mo C φ' σ' a w
theorem GF.refl(σ:jZ):GF σ σ:=fun _ φ _ _ S=>⟨φ,S⟩
theorem GF.trans {σ'':jZ}(h:GF σ σ')(h':GF σ' σ''):GF σ σ'':=fun C φ a w S=>
 let ⟨φ',S'⟩:=h C φ a w S
 h' C φ' a w S'
def mq(σ:jZ):Op->Option (FuncId×List AV)
 | .call {callee:= .value f,args,..}=>match σ.ev f with
   | .func (.func fid) first cap=>some (fid,first++args.toList.map σ.ev++cap)
   |_=>none
 |_=>none
def yieldOf(σ:jZ):Op->Option (Nat×List AV)
 | .call {callee:= .value f,args,..}=>match σ.ev f with
   | .map l=>some (l,args.toList.map σ.ev)
   |_=>none
 |_=>none
def DH(σ:jZ):Op->Option (FuncId×List AV)
 | .defer {callee:= .value f,args,..}=>match σ.ev f with
   | .func (.func fid) first cap=>some (fid,first++args.toList.map σ.ev++cap)
   |_=>none
 |_=>none
def Pq(σ:jZ):Op->Option AV
 | .panic x=>match σ.ev x with
   | .iface t y=>some (.iface t y)
   |_=>none
 |_=>none
def jZ.dfr(σ:jZ)(p:FuncId×List AV)(dst:Option Tmp):jZ:={σ with df:=p::σ.df}.put dst (.raw undef)
def CK(ro:Option Nat):Fence:={aZ with round:=ro}
def FK{args:Array Value}:CallsIn (CK ro) n P f args w R↔Calls P f args w R:=by
 rw[<-callsIn_wide (n:=n)];exact Iff.rfl
def ajy{tmps:Array Value}{as body:Code}:RoundIn (CK ro) n P l f tmps as body w R↔RoundIn aZ n P l f tmps as body w R:=Iff.rfl
def U2(P:Program)(h:Value)(w:World)(vs:Array Value)(R:Ending->World->Prop):Prop:=
 ∀ (D:Nat) (rec:Loop),h= .func (.yield (D+1)) #[] #[]->w.heap[D+1]? =some (.loop rec)->
   RoundIn aZ 0 P (D+1) rec.fn ((rec.params.zip vs).foldl (fun tmps (t,a)=>tmps.setIfInBounds t a) rec.tmps) rec.assign rec.body w R
def IQ(P:Program)(l:Nat)(args:List AV)(σ:jZ)(K:sO->List kq->Prop):Prop:=
 (∃k slots st rQ,σ.heap[l]? =some (.loop k slots st rQ)/\args.length=k.ps.size)/\ ∀(C:pX)(φ:Nat->Value)(a:Act)(w:World),C.P=P->mo C φ σ a w-> ∀vs:Array Value,kC (C.env φ σ.heap w) args vs.toList->
   U2 P (φ l) w vs fun e w'=> ∃o φ' H',K o H'/\mo C φ' {σ with heap:=H'} a w'/\o.No (C.env φ' H' w') e
def pm(ops:Array Oper)(o:Oper)(σ:jZ):Option Bool:=
 match o.guard with
 |none=>some true
 |some (j,want)=>match (ops[j]?).bind (·.dst) with
  |some d=>match σ.slots[d]? with
   |some (.bool b)=>some (b==want)
   |some (.raw (.tuple _))=>some false
   |_=>none
  |none=>none
def Og (P:Program) (ops:Array Oper):List Oper->(mM->jZ->Prop)->jZ->Prop
 |[],Q,σ=>Q .normal σ
 |o::rest,Q,σ=>match pm ops o σ with
  |none=>False
  |some b=>(b=true->match mq σ o.op with
    |some (f,args)=>zD P f args σ fun o' H'=>match o' with
     | .ret r=>Og P ops rest Q (jZ.put {σ with heap:=H'} o.dst r)
     | .panic x=>Q (.panic x) {σ with heap:=H'}
    |none=>match yieldOf σ o.op with
     |some (l,args)=>IQ P l args σ fun o' H'=>match o' with
      | .ret r=>Og P ops rest Q (jZ.put {σ with heap:=H'} o.dst r)
      | .panic _=>False
     |none=>match k7 P σ o.op with
      |some e=>e.pre/\Og P ops rest Q (σ.app o.dst e)
      |none=>match DH σ o.op with
       |some p=>Og P ops rest Q (σ.dfr p o.dst)
       |none=>match Pq σ o.op with
        |some x=>Q (.panic x) σ
        |none=>False)/\
   (b=false->Og P ops rest Q (σ.put o.dst (.raw undef)))
def QC(C:pX)(Q:mM->jZ->Prop):Exit->Act->World->Prop
 | .normal,a,w=> ∃φ σ,mo C φ σ a w/\Q .normal σ
 | .exit id,a,w=> ∃φ σ,mo C φ σ a w/\Q (.exit id) σ
 | .goto l,a,w=> ∃φ σ,mo C φ σ a w/\Q (.goto l) σ
 | .ret,a,w=> ∃φ σ,mo C φ σ a w/\Q .ret σ
 | .panic chain,a,w=> ∃φ σ x v,mo C φ σ a w/\Q (.panic x) σ/\chain=[{v,recovered:=false}]/\n8 (C.env φ σ.heap w) x v
 | .outgrown,_,_=>False
section sound

theorem xg(S:mo C φ σ a w){ops:Array Oper}{b:Bool}(h:pm ops o σ=some b):Region.wanted o (yielded ops a.tmps)=b:=by
 unfold pm at h;unfold Region.wanted;split at h
 ·rename_i hg;rw[hg];simpa using h
 ·rename_i j want hg;rw[hg];split at h
  ·rename_i d hd
   have hy:yielded ops a.tmps j=match a.tmps[d]? with|some (.bool b)=>some b|_=>none:=by
    unfold yielded;rw[hd];rfl
   split at h
   ·rename_i b' hs;obtain⟨v,hv,r⟩:=S.slots.get hs
    simp_all [n8]
   ·rename_i vs hs;obtain⟨v,hv,r⟩:=S.slots.get hs
    grind [n8]
   ·cases h
  ·cases h
def GG(S:mo C φ σ a w)(h:mq σ o.op=some (f,args))(hf:enters C.P f=true):
 ∃vs:Array Value,(execOp a.eval o).run C.P w= .ok (.enter f vs) w/\kC (C.env φ σ.heap w) args vs.toList:=by
 unfold mq at h;split at h
 ·rename_i x xs ts ho;split at h
  ·rename_i fid first cap hv
   cases h;have hx:=S.ev x;rw[hv] at hx;obtain⟨f',c',hx,r1,r2⟩:=hx;refine⟨f'++xs.map a.eval++c',?_,?_⟩
   ·unfold enters at hf;split at hf
    ·rename_i fn hfn;simp only[aS,bne_iff_ne,ne_eq] at hf;have hnone:fn.body≠none:=by intro hb;simp [hb] at hf
     simp [execOp,ho,resolve,hx,Deferred.ofValue,invoke,callFunc,hfn,hf.2,hnone]
    ·cases hf
   ·simp only[bV,bC];exact(r1.append (Jt S xs.toList)).append r2
  ·cases h
 ·cases h
theorem Jv{o:Op}{q:FuncId×List AV}(h:mq σ o=some q): ∀c,o≠ .defer c:=by
 rintro c rfl;simp [mq] at h
theorem amw{o:Op}{q:Nat×List AV}(h:yieldOf σ o=some q): ∀c,o≠ .defer c:=by
 rintro c rfl;simp [yieldOf] at h
theorem ajz{o:Op}{e:ux}(h:k7 P σ o=some e): ∀c,o≠ .defer c:=by
 rintro c rfl;simp [k7] at h
def ajA(S:mo C φ σ a w){D:Nat}{rec:Loop}(h:yieldOf σ o.op=some (l,args))(hφ:φ l= .func (.yield (D+1)) #[] #[])(hw:w.heap[D+1]? =some (.loop rec))(hn:args.length=rec.params.size):
 ∃vs:Array Value,(execOp a.eval o).run C.P w= .ok (.round (D+1) rec.fn ((rec.params.zip vs).foldl (fun tmps (t,a)=>tmps.setIfInBounds t a) rec.tmps) rec.assign rec.body) w/\kC (C.env φ σ.heap w) args vs.toList:=by
 unfold yieldOf at h;split at h
 ·rename_i x xs ts ho;split at h
  ·rename_i l' hv;cases h;have hx:=S.ev x;rw[hv] at hx;obtain⟨_,hx,_⟩:=hx;have hx':a.eval x= .func (.yield (D+1)) #[] #[]:=hx.trans hφ;refine⟨xs.map a.eval,?_,?_⟩
   all_goals grind [run_yield,execOp,resolve,Deferred.ofValue,invoke,bC,Jt]
  ·cases h
 ·cases h
theorem arS{o:Op}{q:AV}(h:Pq σ o=some q): ∀c,o≠ .defer c:=by
 rintro c rfl;simp [Pq] at h
def aoN:Op->Bool
 | .defer _=>true
 |_=>false
def ajB(S:mo C φ σ a w){p:FuncId×List AV}(h:DH σ o.op=some p):
 ∃d:Deferred,(execOp a.eval o).run C.P w= .ok (.defer d) w/\ZI d=false/\ ∃cap,d.target= .fn (.func p.1) cap/\kC (C.env φ σ.heap w) p.2 (d.args++cap).toList:=by
 unfold DH at h;split at h
 ·rename_i x xs ts ho;split at h
  ·rename_i fid first cap hv
   cases h;have hx:=S.ev x;rw[hv] at hx;obtain⟨f',c',hx,r1,r2⟩:=hx;refine⟨{target:= .fn (.func fid) c',args:=f'++xs.map a.eval},?_,rfl,c',rfl,?_⟩
   ·simp [execOp,ho,resolve,hx,Deferred.ofValue]
   ·simp only[bV,bC];exact(r1.append (Jt S xs.toList)).append r2
  ·cases h
 ·cases h
def apU(S:mo C φ σ a w)(h:Pq σ o.op=some x): ∃v,(execOp a.eval o).run C.P w= .halt (.panic v) w/\n8 (C.env φ σ.heap w) x v:=by
 unfold Pq at h;split at h
 ·rename_i y ho;split at h
  ·rename_i t z hv;cases h;have hx:=S.ev y;rw[hv] at hx;obtain⟨u,hu,r⟩:=hx;refine⟨.iface t u,?_,u,rfl,r⟩;simp [execOp,ho,hu,Instr.panic]
  ·cases h
 ·cases h
def mo.dfr(S:mo C φ σ a w){p:FuncId×List AV}{d:Deferred}{cap:Array Value}(hm:ZI d=false)(hd:d.target= .fn (.func p.1) cap)(hr:kC (C.env φ σ.heap w) p.2 (d.args++cap).toList):
 mo C φ (σ.dfr p dst) ({a with defers:=d::a.defers}.put dst undef) w:=by
 have S1:mo C φ {σ with df:=p::σ.df} {a with defers:=d::a.defers} w:=by
  refine {S with slots:=S.slots,defers:=⟨?_,?_,?_⟩}
  ·simp only[List.filter_cons,hm,az,if_false];exact S.defers.1
  ·intro d' hd' hm';rcases aG.1 hd' with rfl|hd'
   ·rw[hm] at hm';cases hm'
   ·exact S.defers.2.1 d' hd' hm'
  ·simp only[List.filter_cons,hm,bK,jU];exact⟨d,_,cap,rfl,hd,hr,S.defers.2.2⟩
 exact S1.put dst rfl
def ZQ {ro:Option Nat} {P:Program} (hP:C.P=P) {ops:Array Oper} {Q:mM->jZ->Prop}: ∀ (rest:List Oper) (k:Nat),(ro=none\/rest.all (fun o=> !aoN o.op)=true)->ops.toList.drop k=rest-> ∀ (φ:Nat->Value) (σ:jZ) (a:Act) (w:World),
 Og P ops rest Q σ->mo C φ σ a w->wpOpsIn (CK ro) 0 P ops (QC C Q) (List.range' k rest.length) a w
 |[],k,_,_,φ,σ,a,w,h,S=>⟨φ,σ,S,h⟩
 |o::rest,k,hro,hk,φ,σ,a,w,h,S=>by
  have ho:ops[k]? =some o:=by
   have:=congrArg (fun l:List Oper=>l[0]?) hk;simpa using this
  have rE:ops.toList.drop (k+1)=rest:=by
   grind [bn]
  have ih:=ZQ (ro:=ro) hP (Q:=Q) rest (k+1) (hro.imp id fun h=>by grind) rE;simp only[a8,List.range'_succ,wpOpsIn,ho];simp only[Og] at h;split at h
  ·exact h.elim
  ·rename_i b hb;rw[xg S hb];cases b with
   |false=>
    simp only[az,if_false];exact⟨fun _ _=>trivial,ih φ _ _ w (h.2 rfl) (S.put o.dst rfl)⟩
   |true=>
    simp only[jU];have h:=h.1 rfl;split at h
    ·rename_i f args hc;obtain⟨he,uZ⟩:=h;subst hP;obtain⟨vs,hrun,hr⟩:=GG S hc he;refine⟨fun _ _=>trivial,?_⟩;rw[aO _ _ _ (Jv hc),hrun,bu];refine⟨fun h=>by simp [CK,aZ] at h,FK.2 ?_⟩;refine(uZ C φ a w rfl S vs hr).mono fun e w' ⟨o',φ',H',hK,S',rF⟩=> ?_
     cases o' with
     |ret r=>
      cases e with
      |returned v=>exact ih φ' _ _ w' hK (S'.put o.dst rF)
      |panicked chain=>exact rF.elim
      |outgrown=>exact rF.elim
     |panic x=>
      cases e with
      |returned v=>exact rF.elim
      |panicked chain=>
       obtain⟨v,hc,hr⟩:=rF;exact⟨φ',_,x,v,S',hK,hc,hr⟩
      |outgrown=>exact rF.elim
    ·split at h
     ·rename_i l args hy;obtain⟨⟨k,slots,st,rQ,hl,hn⟩,uZ⟩:=h;subst hP;obtain⟨D,rec,hφ,hw1,hw2,Uf,rl⟩:=S.nN l _ hl;obtain⟨vs,hrun,hr⟩:=ajA S hy hφ hw1 (by rw[Uf.1];exact hn);refine⟨fun _ _=>trivial,?_⟩;rw[aO _ _ _ (amw hy),hrun,Oper.uponIn_round];refine⟨fun h=>by simp [CK,aZ] at h,ajy.2 ?_⟩;refine(uZ C φ a w rfl S vs hr D rec hφ hw1).mono fun e w' ⟨o',φ',H',hK,S',rF⟩=> ?_
      cases o' with
      |ret r=>
       cases e with
       |returned v=>exact ih φ' _ _ w' hK (S'.put o.dst rF)
       |panicked chain=>exact rF.elim
       |outgrown=>exact rF.elim
      |panic x=>exact hK.elim
     ·split at h
      ·rename_i e he;obtain⟨n,v,w',φ',hr,hn,S'⟩:=Np S (hP ▸ he) h.1;refine⟨fun _ _=>trivial,?_⟩
       grind [aO,ajz,Oper.uponIn_value,Oper.uponIn_skip]
      ·split at h
       ·rename_i p hd;obtain⟨d,hrun,hm,cap,aCo,hr⟩:=ajB S hd
        have aCp:ro=none:=by
         rcases hro with hro|hro
         ·exact hro
         ·rw[List.all_cons,aS] at hro;unfold DH at hd;split at hd
          ·rename_i ho';rw[ho'] at hro;cases hro.1
          ·cases hd
        subst aCp;refine⟨fun _ _=>trivial,?_⟩;have aCq:Oper.semAt (CK none).round a.eval o=execOp a.eval o:=Oper.semAt_none _ _;rw[aCq,<-hP,hrun,Oper.uponIn_defer,hP];exact ih φ _ _ w h (S.dfr hm aCo hr)
       ·split at h
        ·rename_i x hx;obtain⟨v,hrun,hr⟩:=apU S hx;refine⟨fun _ _=>trivial,?_⟩;rw[<-hP,aO _ _ _ (arS hx),hrun,Oper.uponIn_panic];exact⟨φ,σ,x,v,S,h,rfl,hr⟩
        ·exact h.elim
end sound
def IR(P:Program)(f:FuncId)(args:List AV)(V:AV->Prop):Prop:=
 enters P f=true/\vK 0 args/\ ∀(C:pX)(φ:Nat->Value)(w:World),C.P=P->C.w0=w->C.N0=0->(∀b o,¬ C.M0 b o)-> ∀vs:Array Value,kC (C.env φ [] w) args vs.toList->
  Calls P f vs w fun e w'=> ∃r v φ',V r/\e= .returned v/\n8 (C.env φ' [] w') r v/\w.heap.size<=w'.heap.size/\(∀b,b<w.heap.size->w'.heap[b]? =w.heap[b]?)/\
   (∀x,x.block<w.heap.size->w'.frozen? x=w.frozen? x)/\w'.output=w.output/\w'.os=w.os
section grown

theorem cell_of_heap(hh: ∀b,b<w.heap.size->w'.heap[b]? =w.heap[b]?){o:Nat}(hb:b<w.heap.size):w'.cell? ⟨b,o,none⟩=w.cell? ⟨b,o,none⟩:=by
 simp only[World.cell?,hh b hb]
def mo.grown(S:mo C φ σ a w)(hs:w.heap.size<=w'.heap.size)(hh: ∀b,b<w.heap.size->w'.heap[b]? =w.heap[b]?)(hf: ∀x,x.block<w.heap.size->w'.frozen? x=w.frozen? x)(hr:w'.output=w.output/\w'.os=w.os):
 mo C φ σ a w':=by
 have le:(C.env φ σ.heap w).Le σ.heap.length (C.env φ σ.heap w'):=
  pX.A1 (au _) (fun _ _=>⟨rfl,rfl⟩) (fun b o u hm hc=>⟨hm,by grind [cell_of_heap,E9]⟩)
 refine {slots:=kC.mono le _ _ (kC.nb _ _ S.slots) S.slots,defers:=S.defers.same le hh,nN:= ?_,apart:=S.apart,sE:=S.sE,size:=bz S.size hs,old:= ?_,nj:= ?_,B8:=S.B8,u1:=fun x hx=>by rw[hf x (ae hx S.size)];exact S.u1 x hx,rest:=⟨by rw[hr.1];exact S.rest.1,by rw[hr.2];exact S.rest.2⟩,low:=S.low,names:=S.names}
 ·intro l x hx;have r:=S.nN l x hx;exact nG.mono r le (fun b hb=>hh b (r.p4 hb))
 ·intro b o hb hm;rw[cell_of_heap hh (ae hb S.size)];exact S.old b o hb hm
 ·intro b hb hm;rw[hh b (ae hb S.size)];exact S.nj b hb hm
def mo.callee(S:mo C φ σ a w):pX:=
 {P:=C.P,w0:=w,M0:=fun _ _=>False,A:=fun b o=>Eh φ σ.heap b o\/C.A b o,
  hA:=by
   rintro b o (⟨l,x,hx,hm⟩|hA)
   ·exact(S.nN l x hx).p4 (kq.nC hm)
   ·exact ae (C.hA b o hA) S.size
  hk:=fun b o h=>let ⟨v,h1,h2,_⟩:=S.know b o h;⟨v,h1,h2,fun f=>f⟩}
def mo.apV(S:mo C φ σ a w)(φ':Nat->Value)(w1:World):(C.env φ σ.heap w1).Le 0 (S.callee.env φ' [] w1):=by
 refine⟨Nat.zero_le _,fun l hl=>absurd hl (bF _),fun b o u hm hc=>⟨?_,hc⟩⟩;simp only[pX.env,mo.callee] at hm ⊢;rintro(⟨l,x,hx,_⟩|h)
 ·simp at hx
 ·exact hm h
def mo.apW(S:mo C φ σ a w)(φ':Nat->Value)(w1:World):(S.callee.env φ' [] w1).Le 0 (C.env φ σ.heap w1):=by
 refine⟨Nat.zero_le _,fun l hl=>absurd hl (bF _),fun b o u hm hc=>⟨?_,hc⟩⟩
 simp_all [pX.env,mo.callee]
def ZR{V:AV->Prop}{K:sO->List kq->Prop}(h:IR P f args V)(hK: ∀r,V r->K (.ret r) σ.heap):zD P f args σ K:=by
 obtain⟨he,hn,hc⟩:=h;refine⟨he,fun C φ a w hP S vs hr=> ?_⟩;refine(hc S.callee φ w hP rfl rfl (fun _ _ h=>h) vs (kC.mono (S.apV φ w) _ _ hn hr)).mono ?_;rintro e w' ⟨r,v,φ',hV,rfl,No,hs,hh,hf,ho⟩;refine⟨.ret r,φ,σ.heap,hK r hV,S.grown hs hh hf ho,?_⟩;exact n8.mono (S.apW φ' w') _ _ (n8.nb _ _ No) No
end grown
section loc

def ZS{c:Call}{x:Operand}(h:x∈c.args):x∈(Op.call c).operands:=by
 grind [aa,Call.operands]
def U3{d:Nat}{x:Option Operand}(h: ∀y,x=some y->σ'.ev y=σ.ev y):bound σ' d x=bound σ d x:=by
 cases x with
 |none=>rfl
 |some y=>simp only[bound,h y rfl]
theorem aba{H H':List kq}: ∀{cs ds:List AV}{ns:List Nat},vwL H cs=some (ds,ns)->(∀l∈ns,H'[l]? =H[l]?)->vwL H' cs=some (ds,ns)
 |[],_,_,h,_=>by simp only[vwL] at h ⊢;exact h
 |c::cs,ds,ns,h,hr=>by
  unfold vwL at h ⊢;split at h
  ·cases ‹_::_=[]›
  ·rename_i l n cs' heq;simp only[aB] at heq;obtain⟨rfl,rfl⟩:=heq;split at h
   ·rename_i rT sz rows hl;split at h
    ·rename_i hn;split at h
     ·rename_i es ms he;simp only[aj,aE] at h;obtain⟨rfl,rfl⟩:=h;have:=aba he (fun k hk=>hr k (by simp [hk]))
      grind
     ·cases h
    ·cases h
   ·cases h
  ·rename_i c' cs' hne heq;simp only[aB] at heq;obtain⟨rfl,rfl⟩:=heq;split at h
   ·rename_i es ms he;simp only[aj,aE] at h;obtain⟨rfl,rfl⟩:=h;have:=aba he hr
    grind
   ·cases h
theorem amx{H:List kq}: ∀{cs ds:List AV}{ns:List Nat},vwL H cs=some (ds,ns)-> ∀l∈ns,l<H.length
 |[],_,_,h=>by grind [vwL]
 |c::cs,ds,ns,h=>by
  unfold vwL at h;split at h
  ·cases ‹_::_=[]›
  ·rename_i l n cs' heq;simp only[aB] at heq;obtain⟨rfl,rfl⟩:=heq;split at h
   ·rename_i rT sz rows hl;split at h
    ·split at h
     ·rename_i es ms he;simp only[aj,aE] at h;obtain⟨_,rfl⟩:=h;intro k hk;simp only[aG] at hk;rcases hk with rfl|hk
      ·grind
      ·exact amx he k hk
     ·cases h
    ·cases h
   ·cases h
  ·rename_i c' cs' hne heq;simp only[aB] at heq;obtain⟨rfl,rfl⟩:=heq;split at h
   ·rename_i es ms he;simp only[aj,aE] at h;obtain⟨_,rfl⟩:=h;exact amx he
   ·cases h
theorem apX{v:AV}{e:ux}(h:ldV H l v=some e)(hr: ∀k∈e.rd,H'[k]? =H[k]?):ldV H' l v=some e:=by
 unfold ldV at h ⊢
 grind [aba]
theorem arT{v:AV}{e:ux}(h:ldV H l v=some e):l∈e.rd/\e.up=[]/\ ∀k∈e.rd,k=l\/k<H.length:=by
 unfold ldV at h
 grind [amx]
theorem ajC {o:Op} {e:ux} (h:k7 P σ o=some e) (Q1: ∀x∈o.operands,σ'.ev x=σ.ev x) (hrd: ∀l∈e.rd,σ'.heap[l]? =σ.heap[l]?) (hnw:e.nw≠[]->σ'.heap.length=σ.heap.length):
 k7 P σ' o=some e:=by
 cases o with
 |move x=>simp only[k7] at h ⊢;grind [aa]
 |assign x=>simp only[k7] at h ⊢;grind [aa]
 |pick c x y=>simp only[k7] at h ⊢;grind [aa]
 |alloc t=>
  simp only[k7] at h ⊢
  grind
 |box t x=>
  simp only[k7] at h ⊢
  grind [aa]
 |build t parts=>
  simp only[k7] at h ⊢
  grind [aK,aa]
 |buildSlice t len parts=>
  simp only[k7] at h ⊢
  have:(parts.toList.map fun p=>(p.1,σ'.ev p.2))=(parts.toList.map fun p=>(p.1,σ.ev p.2)):=by
   grind [aK,aa]
  rw[this];cases avd:au1 t (agL (parts.toList.map (·.2))) with
  |false=>rw[avd] at h;exact h
  |true=>
   rw[avd] at h;have hn:σ'.heap.length=σ.heap.length:=hnw (by grind);rw[hn];exact h
 |load t x=>
  simp only[k7] at h ⊢;rw[Q1 x (by simp [aa])];split at h
  ·grind [arT,apX]
  all_goals grind
 |store t x y=>
  simp only[k7] at h ⊢;rw[Q1 x (by simp [aa]),Q1 y (by simp [aa])];split at h
  all_goals grind
 |nilCheck x=>simp only[k7] at h ⊢;grind [aa]
 |binOp op t x y ty=>simp only[k7] at h ⊢;grind [aa]
 |unOp op t x=>simp only[k7] at h ⊢;grind [aa]
 |convert s d x=>simp only[k7] at h ⊢;grind [aa]
 |makeInterface t x=>simp only[k7] at h ⊢;grind [aa]
 |makeFunc fn f c=>
  simp only[k7] at h ⊢
  grind [aK,aa]
 |makeSlice t x y=>
  simp only[k7] at h ⊢;rw[Q1 x (by simp [aa]),Q1 y (by simp [aa])];split at h
  all_goals grind
 |slice t x lo hi mx=>
  simp only[k7] at h ⊢;have hx:=Q1 x (by simp [aa]);have h1: ∀d,bound σ' d lo=bound σ d lo:=fun d=>U3 fun y hy=>Q1 y (by simp [aa,hy])
  have h2: ∀d,bound σ' d hi=bound σ d hi:=fun d=>U3 fun y hy=>Q1 y (by simp [aa,hy])
  have h3: ∀d,bound σ' d mx=bound σ d mx:=fun d=>U3 fun y hy=>Q1 y (by simp [aa,hy])
  rw[hx];simp only[ZJ,h1,h2,h3] at h ⊢;split at h
  ·split at h
   ·cases h
   ·rename_i hmx;rw[if_neg hmx];split at h
    all_goals grind
  ·exact h
 |fieldAddr t x i=>simp only[k7] at h ⊢;grind [aa]
 |field t x i=>simp only[k7] at h ⊢;grind [aa]
 |indexAddr t x i=>
  simp only[k7] at h ⊢;rw[Q1 x (by simp [aa]),Q1 i (by simp [aa])];split at h
  ·split at h
   all_goals grind
  ·exact h
 |index t x i=>simp only[k7] at h ⊢;grind [aa]
 |extract x i=>simp only[k7] at h ⊢;grind [aa]
 |call c=>
  obtain⟨cl,args,ts⟩:=c;cases cl with
  |builtin b=>
   simp only[k7] at h ⊢;have e1:args.toList.map σ'.ev=args.toList.map σ.ev:=aK fun x hx=>Q1 x (ZS (by simpa using hx))
   rw[e1];revert h;generalize args.toList.map σ.ev=xs;generalize ts.toList=tl;intro h;unfold IN at h ⊢;split at h
   ·rename_i t x;unfold agK at h ⊢
    grind
   ·rename_i t u x y;split at h
    ·rename_i et sz by' ht hu;split at h
     ·split at h
      ·rename_i hc;rw[if_pos hc];unfold Po at h ⊢;split at h
       ·cases h
       ·rename_i rd ys hsrc
        have hsub: ∀l∈rd,l∈e.rd:=by
         grind
        have aAd:QY σ' sz y=some (rd,ys):=by
         unfold QY at hsrc ⊢;split at hsrc
         all_goals grind
        rw[aAd];simp only;split at h
        all_goals grind
      ·cases h
     ·cases h
    ·cases h
   all_goals grind
  |value f=>cases h
  |invoke r m=>cases h
 |makeMap t r=>
  cases r with
  |some r=>cases h
  |none=>cases h;simp only[k7];rw[hnw (by simp)]
 |typeAssert x u t ok=>
  cases ok with
  |false=>cases h
  |true=>simp only[k7] at h ⊢;grind [aa]
 |lookup t x k ok=>
  cases ok with
  |true=>
   simp only[k7] at h ⊢;rw[Q1 x (by simp [aa]),Q1 k (by simp [aa])];split at h
   ·rename_i z l s ht hx' hk';unfold aa7 at h ⊢;split at h
    ·rename_i es hl;split at h
     ·rename_i hs;cases h;rw[hrd l (by cases wL s es<;>simp [agM]),hl];simp [hs]
     ·cases h
    ·cases h
   ·cases h
  |false=>
   simp only[k7] at h ⊢;rw[Q1 x (by simp [aa]),Q1 k (by simp [aa])];split at h
   ·rename_i z l s ht hx' hk';unfold W6 at h ⊢
    grind
   ·cases h
 |range t x=>
  simp only[k7] at h ⊢
  grind [aa]
 |next x st=>
  cases st with
  |false=>cases h
  |true=>
   simp only[k7] at h ⊢;rw[Q1 x (by simp [aa])];split at h
   ·rename_i l hv;unfold W7 at h ⊢
    grind
   ·cases h
 |mapUpdate t x k y=>
  simp only[k7] at h ⊢;rw[Q1 x (by simp [aa]),Q1 k (by simp [aa]),Q1 y (by simp [aa])];split at h
  ·rename_i z l s ht hx' hk';unfold Ad at h ⊢
   grind
  ·cases h
 |insert t x k y=>
  simp only[k7] at h ⊢;rw[Q1 x (by simp [aa]),Q1 k (by simp [aa]),Q1 y (by simp [aa])];split at h
  ·rename_i z l s ht hx' hk';unfold Ad at h ⊢
   grind
  ·cases h
 |_=>cases h
end loc
def yg(o:Oper):List Nat:=(o.after.toList.filter (Region.binds .any)).map (·.on)
def ahU:List Oper->List Nat->List Nat
 |[],acc=>acc
 |o::os,acc=>ahU os (acc++[(yg o).foldl (fun s d=>s|||2 ^ d|||acc.getD d 0) 0])
def ow(ops:Array Oper)(i j:Nat):Bool:=((ahU ops.toList []).getD j 0).testBit i
def Af:Op->Bool
 | .call {callee:= .builtin _,..}=>false
 | .call _=>true
 |_=>false
def Fq (ops:Array Oper):Bool:=
 Region.noSelect ops&&
 (let r:=ahU ops.toList []
  (bP ops.size).all fun j=>match ops[j]? with
   |none=>true
   |some oj=>(yg oj).all (· <j)&&(bP j).all fun i=>match ops[i]? with
    |none=>true
    |some oi=>(r.getD j 0).testBit i||(oi.apart ops oj&& !(Af oi.op&&Af oj.op)))
structure Tr where
 j:Nat
 n:Nat
 e:ux
def FL(a b:List Nat):Bool:=a.all fun x=> !b.contains x
def Ag(t:Tr)(e:ux):Bool:=
 FL (t.e.up.map (·.1)) (e.rd++e.up.map (·.1))&&FL (e.up.map (·.1)) t.e.rd&&
 (t.e.nw.isEmpty||(e.nw.isEmpty&&(e.rd++e.up.map (·.1)).all fun l=>decide (l<t.n)))&&
 ((!t.e.whole||(e.up.isEmpty&&e.nw.isEmpty))&&(!e.whole||(t.e.up.isEmpty&&t.e.nw.isEmpty)))
def quiet:Op->Bool
 | .move _| .assign _| .pick _ _ _| .load _ _| .store _ _ _| .binOp _ _ _ _ _| .unOp _ _ _| .fieldAddr _ _ _| .field _ _ _| .indexAddr _ _ _| .index _ _ _| .extract _ _=>true
 |_=>false
def Q3(o:Oper):Bool:=(match o.op with| .alloc _=>true|_=>false)&&o.guard.isNone
def U4 (ops:Array Oper) (i j:Nat):Bool:=
 match ops[i]?,ops[j]? with
 |some oi,some oj=>Q3 oi&&Q3 oj&&(yg oi).isEmpty&&(yg oj).isEmpty&&decide (i<j)&&
  (bP ops.size).all fun k=>k==i||k==j||(match ops[k]? with
    |none=>true
    |some o=>quiet o.op&&(ow ops i k==ow ops j k))
 |_,_=>false
def acK(ops:Array Oper)(i j:Nat):Bool:=ow ops i j||U4 ops i j
def A4(ops:Array Oper)(tr:List Tr)(j:Nat)(e:ux):Bool:=tr.all fun t=>Ag t e||acK ops t.j j
def Jw(P:Program)(f:FuncId)(args:List AV)(σ:jZ)(e:ux):Prop:=
 ((∀l∈e.rd,l<σ.heap.length)/\ ∀l∈e.up.map (·.1),l∈e.rd)/\
 ∀σ':jZ,(∀l∈e.rd,σ'.heap[l]? =σ.heap[l]?)->(e.nw≠[]->σ'.heap.length=σ.heap.length)->(e.whole=true->σ'.heap=σ.heap)->zD P f args σ' (fun o H'=>o= .ret e.val/\H'=lU σ'.heap e.up++e.nw)
def Jw.move{e:ux}(h:Jw P f args σ e)(h1: ∀l∈e.rd,σ'.heap[l]? =σ.heap[l]?)(h2:e.nw≠[]->σ'.heap.length=σ.heap.length)(h3:e.whole=true->σ'.heap=σ.heap):Jw P f args σ' e:=by
 refine⟨⟨fun l hl=> ?_,h.1.2⟩,fun σ2 k1 k2 k3=>h.2 σ2 (fun l hl=>(k1 l hl).trans (h1 l hl)) (fun hn=>(k2 hn).trans (h2 hn)) (fun hw=>(k3 hw).trans (h3 hw))⟩;have hlt:=h.1.1 l hl
 grind
def vL(P:Program)(ops:Array Oper)(o:Oper)(σ:jZ)(S:ux->Prop):Prop:=
 (pm ops o σ=some false/\ ∀e,S e↔e={val:= .raw undef})\/
 (pm ops o σ=some true/\mq σ o.op=none/\ ∃e,k7 P σ o.op=some e/\e.pre/\ ∀e',S e'↔e'=e)\/
 (pm ops o σ=some true/\ ∃f args V,mq σ o.op=some (f,args)/\IR P f args V/\(∃r,V r)/\ ∀e,S e↔ ∃r,V r/\e={val:=r})\/
 (pm ops o σ=some true/\ ∃f args e,mq σ o.op=some (f,args)/\Jw P f args σ e/\ ∀e',S e'↔e'=e)
def Xq(P:Program)(ops:Array Oper)(K:jZ->Prop):List Nat->List Tr->jZ->Prop
 |[],_,σ=>K σ
 |j::rest,tr,σ=> ∃o S,ops[j]? =some o/\vL P ops o σ S/\ ∀e,S e->A4 ops tr j e=true/\Xq P ops K rest (tr++[⟨j,σ.heap.length,e⟩]) (σ.app o.dst e)
section
variable {ops:Array Oper} {K:jZ->Prop}
theorem ajD: ∀{R:List Nat}{tr tr':List Tr}{σ:jZ},(∀t∈tr',t∈tr)->Xq P ops K R tr σ->Xq P ops K R tr' σ
 |[],_,_,_,_,h=>h
 |j::rest,tr,tr',σ,hs,⟨o,S,ho,hst,h⟩=>by
  refine⟨o,S,ho,hst,fun e he=> ?_⟩;obtain⟨hc,hr⟩:=h e he;refine⟨?_,ajD ?_ hr⟩
  all_goals grind [A4]
def vL.nonempty{S:ux->Prop}(h:vL P ops o σ S): ∃e,S e:=by
 rcases h with⟨_,h⟩|⟨_,_,e,_,_,h⟩|⟨_,f,args,V,_,_,⟨r,hr⟩,h⟩|⟨_,f,args,e,_,_,h⟩
 ·exact⟨_,(h _).2 rfl⟩
 ·exact⟨e,(h e).2 rfl⟩
 ·exact⟨_,(h _).2 ⟨r,hr,rfl⟩⟩
 ·exact⟨e,(h e).2 rfl⟩
def vL.det{S:ux->Prop}(h:vL P ops o σ S)(hc:Af o.op=false): ∃e,∀e',S e'↔e'=e:=by
 rcases h with⟨_,h⟩|⟨_,_,e,_,_,h⟩|⟨_,f,args,V,h1,_,_,h⟩|⟨_,f,args,e,_,_,h⟩
 ·exact⟨_,h⟩
 ·exact⟨e,h⟩
 rotate_left
 ·exact⟨e,h⟩
 ·exfalso;unfold mq at h1
  grind [Af]
def vL.eq{S S':ux->Prop}(h:vL P ops o σ S)(h':vL P ops o σ S')(hc:Af o.op=false): ∀e,S e↔S' e:=by
 have nc: ∀{f args},mq σ o.op≠some (f,args):=by
  intro f args h1;unfold mq at h1
  grind [Af]
 rcases h with⟨hw,h⟩|⟨hw,_,e,he,_,h⟩|⟨_,f,args,V,h1,_⟩|⟨_,f,args,_,h1,_⟩
 ·rcases h' with⟨_,h'⟩|⟨hw',_⟩|⟨_,f,args,V,h1,_⟩|⟨_,f,args,_,h1,_⟩
  all_goals grind
 ·rcases h' with⟨hw',_⟩|⟨_,_,e2,he2,_,h'⟩|⟨_,f,args,V,h1,_⟩|⟨_,f,args,_,h1,_⟩
  all_goals grind
 all_goals grind
def Jf(h: ∀j b d,o.guard=some (j,b)->(ops[j]?).bind (·.dst)=some d->σ'.slots[d]? =σ.slots[d]?):pm ops o σ'=pm ops o σ:=by
 grind [pm]
theorem GH{o:Op}(h: ∀x∈o.operands,σ'.ev x=σ.ev x):mq σ' o=mq σ o:=by
 unfold mq;split
 all_goals grind [aa,Call.operands,aK]
def vL.local{S:ux->Prop}(h:vL P ops o σ S)(Q1: ∀x∈o.op.operands,σ'.ev x=σ.ev x)(hw:pm ops o σ'=pm ops o σ)
 (hh: ∀e,S e->((∀l∈e.rd,σ'.heap[l]? =σ.heap[l]?)/\(e.nw≠[]->σ'.heap.length=σ.heap.length))/\(e.whole=true->σ'.heap=σ.heap)):vL P ops o σ' S:=by
 rcases h with⟨h1,h⟩|⟨h1,h2,e,he,hp,h⟩|⟨h1,f,args,V,h2,h3,h4,h⟩|⟨h1,f,args,e,h2,h3,h⟩
 ·exact .inl ⟨by rw[hw];exact h1,h⟩
 ·refine .inr (.inl ⟨by rw[hw];exact h1,by rw[GH Q1];exact h2,e,?_,hp,h⟩)
  grind [ajC]
 ·exact .inr (.inr (.inl ⟨by rw[hw];exact h1,f,args,V,by rw[GH Q1];exact h2,h3,h4,h⟩))
 ·obtain⟨⟨a,b⟩,c⟩:=hh e ((h e).2 rfl);exact .inr (.inr (.inr ⟨by rw[hw];exact h1,f,args,e,by rw[GH Q1];exact h2,h3.move a b c,h⟩))
theorem sF: ∀(ups:List (Nat×kq))(H:List kq),(lU H ups).length=H.length
 |[],_=>rfl
 |(l,x)::r,H=>by simp [lU,sF r]
theorem ZT: ∀(ups:List (Nat×kq))(H:List kq)(l:Nat),l ∉ ups.map (·.1)->(lU H ups)[l]? =H[l]?
 |[],_,_,_=>rfl
 |(k,x)::r,H,l,h=>by
  simp only[bq,aG,not_or] at h;rw[lU,ZT r _ l h.2,List.getElem?_set_ne (fun e=>h.1 e.symm)]
theorem ZU{e:ux}(h1:l ∉ e.up.map (·.1))(h2:l<σ.heap.length):(σ.app dst e).heap[l]? =σ.heap[l]? :=by
 have:(σ.app dst e).heap=lU σ.heap e.up++e.nw:=rfl
 grind [sF,ZT]
theorem amy{e:ux}{x:Operand}(h: ∀d,dst=some d->x≠ .tmp d):(σ.app dst e).ev x=σ.ev x:=by
 cases x with
 |tmp t=>
  cases dst with
  |none=>rfl
  |some d=>
   grind [jZ.ev,jZ.app,jZ.put]
 |const v=>rfl
 |global g=>rfl
 |func f=>rfl
theorem abb{e:ux}{t:Nat}(h: ∀d,dst=some d->t≠d):(σ.app dst e).slots[t]? =σ.slots[t]? :=by
 cases dst with
 |none=>rfl
 |some d=>
  grind [jZ.app,jZ.put]
def arU {o:Op} {e:ux} (h:k7 P σ o=some e):(∀l∈e.rd,l<σ.heap.length)/\ ∀l∈e.up.map (·.1),l<σ.heap.length:=by
 have lt: ∀{l:Nat}{x:kq},σ.heap[l]? =some x->l<σ.heap.length:=fun h=>(ak.1 h).1
 cases o with
 |load t x=>
  simp only[k7] at h;split at h
  ·split at h
   ·rename_i hl;split at h
    ·obtain⟨_,h2,h3⟩:=arT h
     grind
    ·cases h
   ·cases h
  ·grind
  ·grind
  ·unfold adL at h
   grind [aM]
  ·cases h
 |store t x y=>
  simp only[k7] at h
  grind
 |indexAddr t x i=>
  simp only[k7] at h;split at h
  ·grind
  grind [aM]
 |slice t x lo hi mx=>
  simp only[k7] at h;split at h
  ·split at h
   ·cases h
   ·unfold ZJ at h
    grind
  grind
 |call c=>
  obtain⟨cl,args,ts⟩:=c;cases cl with
  |builtin b=>
   simp only[k7] at h;unfold IN at h;split at h
   ·unfold agK at h
    grind
   ·split at h
    ·split at h
     ·split at h
      ·unfold Po at h;split at h
       ·cases h
       ·rename_i rd ys hsrc
        have hrd: ∀l∈rd,l<σ.heap.length:=by
         unfold QY at hsrc
         grind
        grind
      ·cases h
     ·cases h
    ·cases h
   all_goals grind
  |value f=>cases h
  |invoke r m=>cases h
 |move x=>cases h;simp
 |assign x=>cases h;simp
 |makeFunc fn f c=>cases h;simp
 |pick c x y=>simp only[k7] at h;split at h<;>cases h;simp
 |alloc t=>simp only[k7] at h;split at h<;>cases h;simp
 |box t x=>simp only[k7] at h;split at h<;>cases h;simp
 |build t parts=>
  simp only[k7] at h
  grind
 |buildSlice t len parts=>
  simp only[k7] at h
  grind
 |nilCheck x=>simp only[k7] at h;split at h<;>cases h<;>simp
 |binOp op t x y ty=>
  simp only[k7] at h;split at h
  ·cases h;simp
  ·unfold agJ YU at h;split at h
   ·grind
   unfold aa6 at h
   grind
 |unOp op t x=>simp only[k7] at h;split at h<;>cases h<;>simp
 |convert s d x=>
  simp only[k7] at h
  grind
 |makeInterface t x=>simp only[k7] at h;split at h<;>cases h;simp
 |makeSlice t x y=>
  simp only[k7] at h
  grind
 |fieldAddr t x i=>simp only[k7] at h;split at h<;>cases h<;>simp
 |field t x i=>
  simp only[k7] at h
  grind
 |index t x i=>
  simp only[k7] at h
  grind
 |extract x i=>
  simp only[k7] at h
  grind
 |makeMap t r=>
  cases r with
  |some r=>cases h
  |none=>cases h;simp
 |typeAssert x u t ok=>
  cases ok with
  |false=>cases h
  |true=>
   simp only[k7] at h;unfold ahQ at h
   grind
 |lookup t x k ok=>
  cases ok with
  |true=>
   simp only[k7] at h;split at h
   ·unfold aa7 at h;split at h
    ·rename_i hl;split at h
     ·cases h;have:=lt hl;unfold agM;split<;>simp [this]
     ·cases h
    ·cases h
   ·cases h
  |false=>
   simp only[k7] at h;split at h
   ·unfold W6 at h
    grind
   ·cases h
 |range t x=>simp only[k7] at h;split at h<;>cases h;simp
 |next x st=>
  cases st with
  |false=>cases h
  |true=>
   simp only[k7] at h;split at h
   ·unfold W7 at h
    grind
   ·cases h
 |mapUpdate t x k y=>
  simp only[k7] at h;split at h
  ·unfold Ad at h
   grind
  ·cases h
 |insert t x k y=>
  simp only[k7] at h;split at h
  ·unfold Ad at h
   grind
  ·cases h
 |_=>cases h
end
section
variable {ops:Array Oper} {K:jZ->Prop}
theorem SF: ∀(ups:List (Nat×kq))(H N:List kq),(∀l∈ups.map (·.1),l<H.length)->lU (H++N) ups=lU H ups++N
 |[],_,_,_=>rfl
 |(l,x)::r,H,N,h=>by
  simp only[lU];rw[List.set_append_left _ _ (h l (by simp))];exact SF r _ N (fun k hk=>by grind)
theorem ZV: ∀(ups:List (Nat×kq))(H:List kq)(l:Nat)(x:kq),l ∉ ups.map (·.1)->lU (H.set l x) ups=(lU H ups).set l x
 |[],_,_,_,_=>rfl
 |(k,y)::r,H,l,x,h=>by
  simp only[bq,aG,not_or] at h;simp only[lU];rw[List.set_comm _ _ h.1,ZV r _ l x h.2]
theorem Ya: ∀(u v:List (Nat×kq))(H:List kq),(∀l∈u.map (·.1),l ∉ v.map (·.1))->lU (lU H u) v=lU (lU H v) u
 |[],_,_,_=>rfl
 |(l,x)::r,v,H,h=>by
  simp only[lU];rw[Ya r v _ (fun k hk=>h k (by simp at hk ⊢;exact .inr hk)),ZV v H l x (h l (by simp))]
theorem LJ{a b:List Nat}(h:FL a b=true): ∀l∈a,l ∉ b:=by
 grind [FL]
def ajE{d d':Option Tmp}{e e':ux}(hd: ∀x,d=some x->d'≠some x)(hi:Ag ⟨j,σ.heap.length,e⟩ e'=true)
 (h1: ∀l∈e.up.map (·.1),l<σ.heap.length) (h2: ∀l∈e'.up.map (·.1),l<(σ.app d e).heap.length):(σ.app d e).app d' e'=(σ.app d' e').app d e:=by
 unfold Ag at hi;simp only[aS,bh] at hi;obtain⟨⟨⟨i1,i2⟩,i3⟩,_⟩:=hi;have dis: ∀l∈e.up.map (·.1),l ∉ e'.up.map (·.1):=fun l hl QT=>LJ i1 l hl (aF.2 (.inr QT))
 have h2': ∀l∈e'.up.map (·.1),l<σ.heap.length:=by
  grind [jZ.app,sF]
 have ayj:((σ.app d e).app d' e').slots=((σ.app d' e').app d e).slots:=by
  cases d with
  |none=>cases d'<;>rfl
  |some x=>cases d' with
   |none=>rfl
   |some y=>
    grind [jZ.app,jZ.put,List.set_comm]
 have Nl:((σ.app d e).app d' e').heap=((σ.app d' e').app d e).heap:=by
  grind [jZ.app,SF,sF,Ya]
 have ext: ∀(s t:jZ),s.slots=t.slots->s.heap=t.heap->s.low=t.low->s.df=t.df->s=t:=by
  intro s t h h' h'' h3;cases s;cases t;simp_all
 refine ext _ _ ayj Nl ?_ ?_<;>cases d<;>cases d'<;>rfl
def vL.lt{S:ux->Prop}(h:vL P ops o σ S){e:ux}(he:S e):(∀l∈e.rd,l<σ.heap.length)/\ ∀l∈e.up.map (·.1),l<σ.heap.length:=by
 rcases h with⟨_,h⟩|⟨_,_,e',he',_,h⟩|⟨_,f,args,V,_,_,_,h⟩|⟨_,f,args,e',_,hl,h⟩
 ·rw[(h e).1 he];simp
 ·rw[(h e).1 he];exact arU he'
 ·grind
 ·rw[(h e).1 he];exact⟨hl.1.1,fun l hm=>hl.1.1 l (hl.1.2 l hm)⟩
theorem Jg{d:Tmp}(h:d ∉ o.looksAt ops): ∀x∈o.op.operands,x≠ .tmp d:=by
 intro x hx e;subst e;apply h;unfold Oper.looksAt;refine aF.2 (.inl ?_);simp only[List.mem_filterMap];exact⟨.tmp d,by simpa using hx,rfl⟩
theorem Nq{d:Tmp}(h:d ∉ o.looksAt ops){b:Bool}{k:Tmp}(hg:o.guard=some (j,b))(hk:(ops[j]?).bind (·.dst)=some k):k≠d:=by
 grind [Oper.looksAt]
def vL.back {oi:Oper}{S:ux->Prop}{er:ux}(h:vL P ops oi (σ.app or'.dst er) S)(hap: ∀d,or'.dst=some d->d ∉ oi.looksAt ops)
 (hi: ∀e,S e->Ag ⟨j,σ.heap.length,er⟩ e=true):vL P ops oi σ S:=by
 refine h.local (fun x hx=> ?_) (Jf fun k b d hg hd=> ?_) (fun e he=> ?_)
 ·grind [amy,Jg]
 ·grind [abb,Nq]
 ·have hlt:=h.lt he
  grind [Ag,jZ.app,lU,sF,ZU,LJ]
def vL.fwd {oi:Oper}{S:ux->Prop}{ei:ux}(h:vL P ops or' σ S)(hap: ∀d,oi.dst=some d->d ∉ or'.looksAt ops)
 (hi: ∀e,S e->Ag ⟨j,σ.heap.length,e⟩ ei=true):vL P ops or' (σ.app oi.dst ei) S:=by
 refine h.local (fun x hx=> ?_) (Jf fun k b d hg hd=> ?_) (fun e he=> ?_)
 ·grind [amy,Jg]
 ·grind [abb,Nq]
 ·have hlt:=h.lt he
  grind [Ag,jZ.app,lU,ZU,LJ,sF]
def CL(h:Fq ops=true):Region.noSelect ops=true/\ ∀(j:Nat)(oj:Oper),ops[j]? =some oj->(∀d∈yg oj,d<j)/\
 ∀(i:Nat)(oi:Oper),i<j->ops[i]? =some oi->ow ops i j=false->oi.apart ops oj=true/\ ¬ (Af oi.op=true/\Af oj.op=true):=by
 grind [Fq,ow]
theorem apY {n':Nat}{e e':ux}(h:n<=n')(hi:Ag ⟨j,n,e⟩ e'=true):Ag ⟨j,n',e⟩ e'=true:=by
 grind [Ag]
def adV: ∀{R:List Nat}{tr tr':List Tr}{σ:jZ},(∀t'∈tr',∃t∈tr,t.j=t'.j/\t.e=t'.e/\t.n<=t'.n)->Xq P ops K R tr σ->Xq P ops K R tr' σ
 |[],_,_,_,_,h=>h
 |j::rest,tr,tr',σ,hs,⟨o,S,ho,hst,h⟩=>by
  refine⟨o,S,ho,hst,fun e he=> ?_⟩;obtain⟨hc,hr⟩:=h e he;refine⟨?_,adV ?_ hr⟩
  ·unfold A4 at*;rw[bw] at*;intro t' ht';obtain⟨t,ht,h1,h2,h3⟩:=hs t' ht';have:=hc t ht;simp only[bh] at*;rw[<-h1];refine this.imp (fun hi=> ?_) id;obtain⟨a,b,c⟩:=t;obtain⟨a',b',c'⟩:=t'
   grind [apY]
  grind
def apZ(h:acK ops i j=false):ow ops i j=false:=by
 grind [acK]
def ajF(hok:Fq ops=true){i:Nat}: ∀{R:List Nat}{tr:List Tr}{σ:jZ},Xq P ops K R tr σ->i∈R->R.Pairwise (· < ·)->(∀r∈R,r<i->acK ops r i=false)->
 ∃o S,ops[i]? =some o/\vL P ops o σ S/\ ∀e,S e->A4 ops tr i e=true/\Xq P ops K (R.erase i) tr (σ.app o.dst e)
 |[],_,_,_,hi,_,_=>by simp at hi
 |r::R,tr,σ,⟨or',Sr,hor,hst,h⟩,hi,ZW,ajG=>by
  by_cases e:r=i
  ·grind [ajD]
  ·have hiR:i∈R:=by
    grind
   rw[List.pairwise_cons] at ZW;have hri:r<i:=ZW.1 i hiR;have aAe:acK ops r i=false:=ajG r (by simp) hri;have ih: ∀er,Sr er->_:=fun er her=>ajF hok (h er her).2 hiR ZW.2 (fun q hq hlt=>ajG q (by simp [hq]) hlt)
   obtain⟨er0,aCr⟩:=hst.nonempty;obtain⟨oi,S0,LK,aCs,h0⟩:=ih er0 aCr;obtain⟨_,hspec⟩:=CL hok;obtain⟨adW,aCt⟩:=(hspec i oi LK).2 r or' hri hor (apZ aAe);obtain⟨a1,a2,a3⟩:=Oper.apart_spec adW
   have arV: ∀{er:ux}{S:ux->Prop},(∀e,S e->A4 ops (tr++[⟨r,σ.heap.length,er⟩]) i e=true/\Xq P ops K (R.erase i) (tr++[⟨r,σ.heap.length,er⟩]) ((σ.app or'.dst er).app oi.dst e))->
    ∀e,S e->Ag ⟨r,σ.heap.length,er⟩ e=true:=by
    grind [A4]
   have U5:vL P ops oi σ S0:=aCs.back (j:=r) a1 (arV h0);refine⟨oi,S0,LK,U5,fun ei hei=> ?_⟩
   have same: ∀er,Sr er->A4 ops (tr++[⟨r,σ.heap.length,er⟩]) i ei=true/\Xq P ops K (R.erase i) (tr++[⟨r,σ.heap.length,er⟩]) ((σ.app or'.dst er).app oi.dst ei):=by
    intro er her;obtain⟨oi',S',aAf,aCu,h'⟩:=ih er her;rw[LK] at aAf;cases aAf;by_cases hc:Af oi.op=true
    ·
     have hcr:Af or'.op=false:=by
      grind
     obtain⟨ex,hex⟩:=hst.det hcr
     grind
    ·have hc':Af oi.op=false:=by simpa using hc
     have hb':vL P ops oi σ S':=aCu.back (j:=r) a1 (arV h');exact h' ei ((U5.eq hb' hc' ei).1 hei)
   have aCv:vL P ops or' (σ.app oi.dst ei) Sr:=by
    refine hst.fwd (j:=r) a3 (fun er her=> ?_)
    grind [A4]
   refine⟨?_,?_⟩
   ·grind [A4]
   ·have hne:(r::R).erase i=r::R.erase i:=List.erase_cons_tail (by simpa using e);rw[hne];refine⟨or',Sr,hor,aCv,fun er her=>⟨(h er her).1,?_⟩⟩;have hs:=same er her
    have hi':Ag ⟨r,σ.heap.length,er⟩ ei=true:=by
     grind [A4]
    have arW:=ajE (d:=or'.dst) (d':=oi.dst) a2 hi' (hst.lt her).2 (by
     intro l hl;have:=(U5.lt hei).2 l hl
     grind [jZ.app,sF])
    rw[<-arW];refine adV ?_ hs.2;intro t' ht';rcases aF.1 ht' with ht'|ht'
    ·grind
    simp_all [jZ.app,sF]
def Pr{f:Nat->Nat}{r:Nat}: ∀(ds:List Nat)(s:Nat),(ds.foldl (fun s d=>s|||2 ^ d|||f d) s).testBit r=true->s.testBit r=true\/ ∃d∈ds,d=r\/(f d).testBit r=true
 |[],s,h=> .inl h
 |d::ds,s,h=>by
  simp only[List.foldl_cons] at h;rcases Pr ds _ h with h|⟨d',hd',h⟩
  all_goals grind
def ace{L:Nat->Prop}{all:List Oper}(hclosed: ∀j o,all[j]? =some o->L j-> ∀d∈yg o,L d): ∀(os:List Oper)(acc:List Nat),all.drop acc.length=os->
 (∀k o,all[k]? =some o->k<acc.length->(∀d∈yg o,L d)-> ∀r,(acc.getD k 0).testBit r=true->L r)->(∀k o,all[k]? =some o-> ∀d∈yg o,d<k)->
 ∀k o,all[k]? =some o->(∀d∈yg o,L d)-> ∀r,((ahU os acc).getD k 0).testBit r=true->L r
 |[],acc,hd,h,_=>by
  intro k o hk BL r hr;refine h k o hk ?_ BL r hr;have h1:all.length<=acc.length:=by simpa using hd
  grind
 |o::os,acc,hd,h,hlt=>by
  refine ace hclosed os _ ?_ ?_ hlt
  ·grind [bn]
  ·intro k o' hk hkl BL r hr
   have ho:all[acc.length]? =some o:=by
    have:=congrArg (fun l:List Oper=>l[0]?) hd;simpa using this
   by_cases e:k<acc.length
   ·rw[aW,aw e,<-aW] at hr;exact h k o' hk e BL r hr
   ·have e2:k=acc.length:=by simp at hkl;omega
    subst e2;rw[ho] at hk;cases hk;rw[aW,br (au _)] at hr;simp only[bY,aL,Option.getD_some] at hr;rcases Pr (f:=fun d=>acc.getD d 0) _ _ hr with h0|⟨d,hd',rfl|h1⟩
    ·simp at h0
    ·exact BL d hd'
    ·have hdl:d<acc.length:=hlt _ _ ho d hd';have aAg:d<all.length:=by grind
     exact h d all[d] (bD aAg) hdl (hclosed d _ (bD aAg) (BL d hd')) r h1
end
theorem nn(m j:Nat):(Array.replicate m false).getD j false=false:=by
 by_cases h:j<m<;>simp [Array.getD,h]
section region
variable {ops:Array Oper} {Q:mM->jZ->Prop}
def IS(S:mo C φ σ a w){E:ux->Prop}(ho:ops[i]? =some o)(h:vL C.P ops o σ E){K:Act->World->Prop}{Q':Exit->Act->World->Prop}
 (hK: ∀e φ' v w',E e->mo C φ' (σ.app o.dst e) (a.put o.dst v) w'->K (a.put o.dst v) w'):wpOpIn (CK ro) 0 C.P ops Q' i K a w:=by
 unfold wpOpIn;simp only[ho];rcases h with⟨hw,h⟩|⟨hw,_,e,he,hp,h⟩|⟨hw,f,args,V,hc,hf,_,h⟩|⟨hw,f,args,e,hc,hf,h⟩
 ·rw[xg S hw];simp only[az,if_false];refine⟨fun _ _=>trivial,hK _ φ undef w ((h _).2 rfl) ?_⟩;rw[GD];exact S.put o.dst rfl
 ·rw[xg S hw];simp only[jU];obtain⟨n,v,w',φ',hr,hn,S'⟩:=Np S he hp;refine⟨fun _ _=>trivial,?_⟩
  grind [aO,ajz,Oper.uponIn_value,Oper.uponIn_skip]
 ·rw[xg S hw];simp only[jU];have uZ:zD C.P f args σ (fun o' H'=> ∃r,V r/\o'= .ret r/\H'=σ.heap):=ZR hf (fun r hr=>⟨r,hr,rfl,rfl⟩);obtain⟨vs,hrun,hr⟩:=GG S hc uZ.1;refine⟨fun _ _=>trivial,?_⟩;rw[aO _ _ _ (Jv hc),hrun,bu];refine⟨fun h=>by simp [CK,aZ] at h,FK.2 ?_⟩;refine(uZ.2 C φ a w rfl S vs hr).mono fun en w' ⟨o',φ',H',⟨r,hV,ho',hH⟩,S',rF⟩=> ?_
  subst ho' hH;cases en with
  |returned v=>
   refine hK {val:=r} φ' v w' ((h _).2 ⟨r,hV,rfl⟩) ?_;rw[GD];exact S'.put o.dst rF
  |panicked chain=>exact rF.elim
  |outgrown=>exact rF.elim
 ·rw[xg S hw];simp only[jU];have uZ:=hf.2 σ (fun _ _=>rfl) (fun _=>rfl) (fun _=>rfl);obtain⟨vs,hrun,hr⟩:=GG S hc uZ.1;refine⟨fun _ _=>trivial,?_⟩;rw[aO _ _ _ (Jv hc),hrun,bu];refine⟨fun h=>by simp [CK,aZ] at h,FK.2 ?_⟩;refine(uZ.2 C φ a w rfl S vs hr).mono fun en w' ⟨o',φ',H',⟨ho',hH⟩,S',rF⟩=> ?_
  subst ho' hH;cases en with
  |returned v=>
   refine hK e φ' v w' ((h _).2 rfl) ?_;have:=S'.put o.dst rF
   have e1:({σ with heap:=lU σ.heap e.up++e.nw}:jZ).put o.dst e.val=σ.app o.dst e:=by
    cases hd:o.dst<;>rfl
   rw[e1] at this;exact this
  |panicked chain=>exact rF.elim
  |outgrown=>exact rF.elim
end region
end Go.Abs
