/- A part of the proof: abstract states and the rules for them. -/
import Derived.KernelRfl
import Derived.Calls
import Derived.Orders
import Derived.Laws.Sem
import Derived.Laws.CopyRow
import Derived.Laws.Cells
import Derived.Laws.Small
import Derived.RangeFuncRecord
import Derived.MapKept
import Derived.Lib.SliceRun
import Derived.Scope
import Derived.Deep.LoopGhost
import Derived.OrdersIn
set_option linter.all false
open Go.Op renaming operands → aa,bytesLess → bW
open Nat renaming lt_of_lt_of_le → ae,mul_le_mul_right → ar,le_refl → au,add_mul → ax,le_trans → bz,not_lt_zero → bF,add_assoc → bQ,sub_self → bY,one_mul → bZ
open Go.Result renaming andThen_ok → af,andThen → aA
open List renaming eq_nil_of_length_eq_zero → ah,getElem?_eq_some_iff → ak,replicate → am,getElem?_append_left → aw,flatten_cons → aC,mem_append → aF,mem_cons → aG,map_congr_left → aK,getElem?_cons_zero → aL,getElem?_set_self → aP,append_assoc → aQ,drop_drop → aR,getD_eq_getElem?_getD → aW,drop_take → aY,length_cons → a8,take_left' → bc,drop_left' → be,drop_append_of_le_length → bi,flatten_append → bl,tail_drop → bn,map_cons → bq,getElem?_append_right → br,all_eq_true → bw,length_take → bA,getElem?_eq_getElem → bD,getElem?_cons_succ → bE,drop_of_length_le → bH,take_take → bI,getElem?_toArray → bJ,length_replicate → bM,mem_cons_of_mem → bN,mem_of_getElem? → bO,range → bP,take_add → bS,replicate_succ → bU
open Go.Sem renaming run_bind → ai,run_pure → aq
open Option.some renaming injEq → aj
open Go.Builtin renaming firstCells → an,append_ → ap,nextslicecap → bf,zeroCells → bt,len_ → bB,growBy → bL,lenOf → bR
open Go.Instr renaming sureAddr → av,sliceBound → ay,sliceBounds → aD,indexAt → aH,buildSlice → aI,loadAt → aJ,fieldAt → aN,sliceAt → aT,findNow → aV,lookup → aX,makeSlice → bg,storeAt → bp,mapUpdate → bG,sameNow → bT
open Bool renaming false_eq_true → az,and_eq_true → aS,or_eq_true → bh,not_false → bK
open List.cons renaming injEq → aB
open Prod.mk renaming injEq → aE
open Option renaming bind_eq_some_iff → aM,isSome_none → bX
open Go.Oper renaming semAt_eq → aO,uponIn_enter → bu
open Array renaming getElem?_eq_some_iff → aU,length_toList → bj,range → bo,toList_map → bC,toList_append → bV
open Go.Fence renaming wide → aZ
namespace Go.Abs
variable {a:Act}{parts:Array (Nat×Operand)}{c us:Array Value}{g tt:Bool}{s:ByteArray}{R:Ending->World->Prop}{f:FuncId}{k:IntKind}{ds:List Deferred}{rd:List Nat}{b i j l n off:Nat}{φ φ':Nat->Value}{o or':Oper}{ox:Operand}{base:Option Addr}{ro:Option Nat}{hi lo:Option Operand}{dst:Option Tmp}{P:Program}{p:Prop}{α β:Type}{d:TypeDesc}{t ty:TypeId}{h h' u v:Value}{w w':World}
theorem ju {α:Sort _} (a b:α):cond true a b=a:=rfl
theorem jv {α:Sort _} (a b:α):cond false a b=b:=rfl
theorem jw [Decidable p] (h:p):decide p=true:=decide_eq_true h
theorem jx [Decidable p] (h:¬p):decide p=false:=decide_eq_false h
def jy [Decidable p] (h:decide p=true):p:=of_decide_eq_true h
def jz [Decidable p] (h:decide p=false):¬p:=of_decide_eq_false h
theorem jA [Decidable p]:(decide p=true)=p:=decide_eq_true_eq
theorem jB {α:Type _} [BEq α] [LawfulBEq α] {a b:α}:(a==b)=true↔a=b:=beq_iff_eq
theorem jC {α:Type _} [BEq α] [LawfulBEq α] {a b:α}:(a==b)=false↔a≠b:=beq_eq_false_iff_ne
def jD {α:Sort _} {_:Decidable True} (t e:α):(if True then t else e)=t:=if_true t e
def jE {α:Sort _} {a b:α} (h:a=b:=by kernel_rfl):a=b:=h
def ab4(o:Nat):Int:=if o=32\/(9<=o/\o<=13) then 1 else 0
def apJ(o:Nat):Option Int:=if o<256 then some (ab4 o) else none
def asp(b o:Nat):Prop:=(b=1/\o=0)\/(b=0/\o<256)
def asq(b o:Nat)(v:Value):Prop:=(b=1-> ∃m,v= .int .i64 m)/\(b=0->v= .int .u8 (ab4 o))
def avN(t k:Nat):Bool:=bif t==26 then(bif k==5 then false else true) else bif t==27 then(bif k==5 then false else true) else bif t==78 then(bif k==98 then false else bif k==24 then false else bif k==11 then false else bif k==34 then false else bif k==25 then false else true) else true
def asr(t k:Nat):Bool:=bif t==78 then(bif k==24 then true else bif k==11 then true else bif k==34 then true else bif k==25 then true else false) else bif t==27 then(bif k==46 then true else false) else bif t==25 then(bif k==100 then true else false) else false
def ass(b:Nat):Option IntKind:=if b=0 then some .u8 else none
def amR(b o:Nat):Option Int:=if b=0 then apJ o else none
def ast {o:Nat}{n:Int}(h:ass b=some k)(h2:amR b o=some n):asp b o/\ ∀v,asq b o v->v= .int k n:=by
 unfold ass at h;split at h
 ·rename_i hb;cases h;unfold amR at h2;rw[if_pos hb] at h2;unfold apJ at h2;split at h2
  ·rename_i ho;cases h2;exact⟨.inr ⟨hb,ho⟩,fun v hv=>hv.2 hb⟩
  ·cases h2
 ·cases h
def ahD(w:World)(M:Nat->Nat->Prop):Prop:= ∀b o,asp b o-> ∃v,w.cell? ⟨b,o,none⟩=some v/\asq b o v/\ ¬ M b o
inductive AV where
 |any
 |bool (b:Bool)
 |int (k:IntKind) (n:Int)
 |str (s:ByteArray)
 |raw (v:Value)
 |agg (cs:List AV)
 |EQ (cs:List AV)
 |lI (tight:Bool) (sz:Nat) (rows:List (List AV))
 |acc (l n:Nat)
 |own (l off len cap sz:Nat)
 |ptr (l off:Nat)
 |map (l:Nat)
 |pp (cs:List AV)
 |func (fn:Fn) (first captured:List AV)
 |iface (t:TypeId) (x:AV)
variable {x y:AV}{es:List (AV×AV)}{df:List (FuncId×List AV)}{rows ys:List (List AV)}{args cs r z:List AV}
instance:Inhabited AV:=⟨.any⟩
structure Env where
 w:World
 mu:Nat->Nat->Prop
 φ:Nat->Value
 ln:Nat->Option Nat
 n:Nat
variable {E E':Env}
def hdl:Value->Option Nat
 | .map r=>r
 | .func (.yield r) _ _=>some r
 |_=>none
mutual
def nr(E:Env):AV->Value->Prop
 | .any,_=>True
 | .bool b,v=>v= .bool b
 | .int k n,v=>v= .int k n
 | .str s,v=>v= .string s
 | .raw u,v=>v=u
 | .agg cs,v=> ∃vs:Array Value,v= .agg vs/\kf E cs vs.toList
 | .EQ cs,v=> ∃vs:Array Value,v= .tuple vs/\kf E cs vs.toList
 | .lI t sz rows,v=> ∃base cap,v= .slice base rows.length cap/\rows.length<=cap/\(t=true->cap=rows.length)/\(base=none->cap=0)/\
     (∀a,base=some a->(rows≠[]->a.spot=none))/\(∀a,base=some a->mr E sz a.block a.off rows)
 | .acc l n,v=>l<E.n/\(∃b m c,v= .slice b m c)/\ ∀k,E.ln l=some k->n<=k/\(n=k->v=E.φ l)
 | .own l i n o sz,v=>l<E.n/\(∃a,v= .pointer (some a))/\ ∀k,E.ln l=some k->n<=k/\(n=k-> ∃b off m c,E.φ l= .slice (some ⟨b,off,none⟩) m c/\v= .pointer (some ⟨b,off+i*sz+o,none⟩))
 | .ptr l off,v=>l<E.n/\ ∃b,E.φ l= .pointer (some ⟨b,0,none⟩)/\v= .pointer (some ⟨b,off,none⟩)
 | .map l,v=>l<E.n/\v=E.φ l/\ ∃r,hdl (E.φ l)=some r
 | .pp cs,v=> ∃b off,v= .pointer (some ⟨b,off,none⟩)/\mE E b off cs
 | .func fn f c,v=> ∃f' c':Array Value,v= .func fn f' c'/\kf E f f'.toList/\kf E c c'.toList
 | .iface t x,v=> ∃u,v= .iface t u/\nr E x u
def kf(E:Env):List AV->List Value->Prop
 |[],vs=>vs=[]
 |c::cs,vs=> ∃u us,vs=u::us/\nr E c u/\kf E cs us
def mE(E:Env)(b off:Nat):List AV->Prop
 |[]=>True
 |c::cs=>(¬ E.mu b off/\ ∃u,E.w.cell? ⟨b,off,none⟩=some u/\u.oneCell'=true/\nr E c u)/\mE E b (off+1) cs
def mr(E:Env)(sz b off:Nat):List (List AV)->Prop
 |[]=>True
 |r::rs=>r.length=sz/\mE E b off r/\mr E sz b (off+sz) rs
end
structure Env.Le(N:Nat)(E E':Env):Prop where
 n:N<=E'.n
 names: ∀l,l<N->(E'.φ l=E.φ l/\(E'.ln l=E.ln l\/E'.ln l=none))\/
  ((∃k,E.ln l=some k/\ ∀k',E'.ln l=some k'->k<k')/\(∀a,E.φ l≠ .pointer a)/\hdl (E.φ l)=none)
 mem: ∀b o u,¬ E.mu b o->E.w.cell? ⟨b,o,none⟩=some u-> ¬ E'.mu b o/\E'.w.cell? ⟨b,o,none⟩=some u
mutual
def AV.nb(N:Nat):AV->Prop
 | .agg cs| .EQ cs| .pp cs=>uB N cs
 | .lI _ _ rows=>LK N rows
 | .acc l _| .own l _ _ _ _| .ptr l _| .map l=>l<N
 | .func _ f c=>uB N f/\uB N c
 | .iface _ x=>x.nb N
 | .any| .bool _| .int _ _| .str _| .raw _=>True
def uB(N:Nat):List AV->Prop
 |[]=>True
 |c::cs=>c.nb N/\uB N cs
def LK(N:Nat):List (List AV)->Prop
 |[]=>True
 |r::rs=>uB N r/\LK N rs
end
section
variable {N:Nat}
mutual
def nr.mono(h:E.Le N E'): ∀(x:AV)(v:Value),x.nb N->nr E x v->nr E' x v
 | .any,_,_,_=>trivial
 | .bool _,_,_,r=>r
 | .int _ _,_,_,r=>r
 | .str _,_,_,r=>r
 | .raw _,_,_,r=>r
 | .agg cs,_,hb,⟨vs,hv,hr⟩=>⟨vs,hv,kf.mono h cs _ hb hr⟩
 | .EQ cs,_,hb,⟨vs,hv,hr⟩=>⟨vs,hv,kf.mono h cs _ hb hr⟩
 | .lI _ _ rows,_,hb,⟨base,cap,h1,h2,h3,h4,h5,h6⟩=>⟨base,cap,h1,h2,h3,h4,h5,fun a ha=>mr.mono h rows _ hb (h6 a ha)⟩
 | .acc l n,v,hb,⟨_,XQ,r⟩=>by
   refine⟨ae hb h.n,XQ,fun k' hk'=> ?_⟩;rcases h.names l hb with⟨hφ,hl|hl⟩|⟨⟨k,hk,hlt⟩,_⟩
   ·rw[hl] at hk';rw[hφ];exact r k' hk'
   ·rw[hl] at hk';cases hk'
   ·have:=hlt k' hk';have:=r k hk;exact⟨by omega,fun e=>by omega⟩
 | .own l i n o sz,v,hb,⟨_,XQ,r⟩=>by
   refine⟨ae hb h.n,XQ,fun k' hk'=> ?_⟩;rcases h.names l hb with⟨hφ,hl|hl⟩|⟨⟨k,hk,hlt⟩,_⟩
   ·rw[hl] at hk';rw[hφ];exact r k' hk'
   ·rw[hl] at hk';cases hk'
   ·have:=hlt k' hk';have:=r k hk;exact⟨by omega,fun e=>by omega⟩
 | .ptr l off,v,hb,⟨_,b,hφ,hv⟩=>by
   refine⟨ae hb h.n,b,?_,hv⟩;rcases h.names l hb with⟨h1,_⟩|⟨_,h2,_⟩
   ·rw[h1];exact hφ
   ·exact absurd hφ (h2 _)
 | .map l,v,hb,⟨_,hv,r,hφ⟩=>by
   refine⟨ae hb h.n,?_,r,?_⟩
   all_goals rcases h.names l hb with⟨h1,_⟩|⟨_,_,h2⟩
   ·rw[h1];exact hv
   ·rw[h2] at hφ;cases hφ
   ·rw[h1];exact hφ
   ·rw[h2] at hφ;cases hφ
 | .pp cs,_,hb,⟨b,off,hv,r⟩=>⟨b,off,hv,mE.mono h cs _ hb r⟩
 | .func _ f c,_,hb,⟨f',c',hv,r1,r2⟩=>⟨f',c',hv,kf.mono h f _ hb.1 r1,kf.mono h c _ hb.2 r2⟩
 | .iface _ x,_,hb,⟨u,hv,r⟩=>⟨u,hv,nr.mono h x _ hb r⟩
def kf.mono(h:E.Le N E'): ∀(cs:List AV)(vs:List Value),uB N cs->kf E cs vs->kf E' cs vs
 |[],_,_,r=>r
 |c::cs,_,hb,⟨u,us,hv,r1,r2⟩=>⟨u,us,hv,nr.mono h c _ hb.1 r1,kf.mono h cs _ hb.2 r2⟩
def mE.mono(h:E.Le N E'){b:Nat}: ∀(cs:List AV)(off:Nat),uB N cs->mE E b off cs->mE E' b off cs
 |[],_,_,_=>trivial
 |c::cs,off,hb,⟨⟨hm,u,hu,h1,r1⟩,r2⟩=>
  let ⟨m,c'⟩:=h.mem b off u hm hu
  ⟨⟨m,u,c',h1,nr.mono h c _ hb.1 r1⟩,mE.mono h cs _ hb.2 r2⟩
def mr.mono(h:E.Le N E'){sz b:Nat}: ∀(rs:List (List AV))(off:Nat),LK N rs->mr E sz b off rs->mr E' sz b off rs
 |[],_,_,_=>trivial
 |r::rs,off,hb,⟨hl,r1,r2⟩=>⟨hl,mE.mono h r _ hb.1 r1,mr.mono h rs _ hb.2 r2⟩
end
mutual
theorem nr.nb: ∀(x:AV)(v:Value),nr E x v->x.nb E.n
 | .any,_,_| .bool _,_,_| .int _ _,_,_| .str _,_,_| .raw _,_,_=>trivial
 | .agg cs,_,⟨_,_,hr⟩=>kf.nb cs _ hr
 | .EQ cs,_,⟨_,_,hr⟩=>kf.nb cs _ hr
 | .lI _ _ rows,_,⟨base,cap,h1,h2,h3,h4,h5,h6⟩=>by
   cases base with
   |none=>
    have:rows.length=0:=by have:=h4 rfl;omega
    have:rows=[]:=ah this;subst this;trivial
   |some a=>exact mr.nb rows _ (h6 a rfl)
 | .acc _ _,_,⟨h,_⟩=>h
 | .own _ _ _ _ _,_,⟨h,_⟩=>h
 | .ptr _ _,_,⟨h,_⟩=>h
 | .map _,_,⟨h,_⟩=>h
 | .pp cs,_,⟨_,_,_,r⟩=>mE.nb cs _ r
 | .func _ f c,_,⟨_,_,_,r1,r2⟩=>⟨kf.nb f _ r1,kf.nb c _ r2⟩
 | .iface _ x,_,⟨_,_,r⟩=>nr.nb x _ r
theorem kf.nb: ∀(cs:List AV)(vs:List Value),kf E cs vs->uB E.n cs
 |[],_,_=>trivial
 |c::cs,_,⟨_,_,_,r1,r2⟩=>⟨nr.nb c _ r1,kf.nb cs _ r2⟩
theorem mE.nb{b:Nat}: ∀(cs:List AV)(off:Nat),mE E b off cs->uB E.n cs
 |[],_,_=>trivial
 |c::cs,_,⟨⟨_,_,_,_,r1⟩,r2⟩=>⟨nr.nb c _ r1,mE.nb cs _ r2⟩
theorem mr.nb{sz b:Nat}: ∀(rs:List (List AV))(off:Nat),mr E sz b off rs->LK E.n rs
 |[],_,_=>trivial
 |r::rs,_,⟨_,r1,r2⟩=>⟨mE.nb r _ r1,mr.nb rs _ r2⟩
end
mutual
def AV.aar{M:Nat}(h:N<=M): ∀x:AV,x.nb N->x.nb M
 | .any,_| .bool _,_| .int _ _,_| .str _,_| .raw _,_=>trivial
 | .agg cs,r=>sn h cs r
 | .EQ cs,r=>sn h cs r
 | .pp cs,r=>sn h cs r
 | .lI _ _ rows,r=>af0 h rows r
 | .acc _ _,r=>ae r h
 | .own _ _ _ _ _,r=>ae r h
 | .ptr _ _,r=>ae r h
 | .map _,r=>ae r h
 | .func _ f c,r=>⟨sn h f r.1,sn h c r.2⟩
 | .iface _ x,r=>AV.aar h x r
def sn{M:Nat}(h:N<=M): ∀cs:List AV,uB N cs->uB M cs
 |[],_=>trivial
 |c::cs,r=>⟨AV.aar h c r.1,sn h cs r.2⟩
def af0{M:Nat}(h:N<=M): ∀rs:List (List AV),LK N rs->LK M rs
 |[],_=>trivial
 |r::rs,q=>⟨sn h r q.1,af0 h rs q.2⟩
end
end
section lists

theorem kf.length: ∀{cs:List AV}{vs:List Value},kf E cs vs->vs.length=cs.length
 |[],_,rfl=>rfl
 |_::_,_,⟨_,_,rfl,_,r2⟩=>by simp [kf.length r2]
def kf.get: ∀{cs:List AV}{vs:List Value}{i:Nat}{c:AV},kf E cs vs->cs[i]? =some c-> ∃v,vs[i]? =some v/\nr E c v
 |c::cs,_,0,_,⟨u,us,rfl,r1,r2⟩,h=>by
  simp at h;subst h;exact⟨u,by simp,r1⟩
 |c::cs,_,i+1,_,⟨u,us,rfl,r1,r2⟩,h=>by
  simp at h;obtain⟨v,hv,r⟩:=kf.get r2 h;exact⟨v,by simpa using hv,r⟩
theorem kf.set: ∀{cs:List AV}{vs:List Value}{i:Nat}{c:AV}{v:Value},kf E cs vs->nr E c v->kf E (cs.set i c) (vs.set i v)
 |[],_,_,_,_,rfl,_=>rfl
 |_::_,_,0,_,v,⟨_,us,rfl,_,r2⟩,r=>⟨v,us,rfl,r,r2⟩
 |_::_,_,i+1,_,v,⟨u,us,rfl,r1,r2⟩,r=>⟨u,us.set i v,rfl,r1,kf.set r2 r⟩
theorem kf.append: ∀{cs ds:List AV}{vs us:List Value},kf E cs vs->kf E ds us->kf E (cs++ds) (vs++us)
 |[],_,_,_,rfl,r=>r
 |_::_,_,_,_,⟨u,us,rfl,r1,r2⟩,r=>⟨u,us++_,rfl,r1,kf.append r2 r⟩
theorem kf.take: ∀{cs:List AV}{vs:List Value}(k:Nat),kf E cs vs->kf E (cs.take k) (vs.take k)
 |[],_,_,rfl=>by simp [kf]
 |_::_,_,0,_=>by simp [kf]
 |_::_,_,k+1,⟨u,us,rfl,r1,r2⟩=>⟨u,us.take k,by simp,r1,kf.take k r2⟩
theorem kf.drop: ∀{cs:List AV}{vs:List Value}(k:Nat),kf E cs vs->kf E (cs.drop k) (vs.drop k)
 |[],_,_,rfl=>by simp [kf]
 |_::_,_,0,h=>by simpa using h
 |_::_,_,k+1,⟨u,us,rfl,r1,r2⟩=>by simpa using kf.drop k r2
def kf.Be: ∀(vs:List Value),kf E (am vs.length .any) vs
 |[]=>rfl
 |v::vs=>⟨v,vs,rfl,trivial,kf.Be vs⟩
theorem mE.drop: ∀{cs:List AV}{off:Nat}(k:Nat),mE E b off cs->mE E b (off+k) (cs.drop k)
 |[],_,_,_=>by simp [mE]
 |_::_,_,0,h=>by simpa using h
 |_::_,off,k+1,⟨_,r⟩=>by
  have:=mE.drop k r
  grind
def mr.get {sz:Nat}: ∀{rs:List (List AV)}{off i:Nat}{r:List AV},mr E sz b off rs->rs[i]? =some r->
 r.length=sz/\mE E b (off+i*sz) r
 |_::_,off,0,_,⟨hl,m,_⟩,h=>by grind
 |_::_,off,i+1,_,⟨_,_,r⟩,h=>by
  simp at h;obtain⟨h1,h2⟩:=mr.get r h
  grind
theorem mr.drop {sz:Nat}: ∀{rs:List (List AV)}{off:Nat}(k:Nat),k<=rs.length->mr E sz b off rs->mr E sz b (off+k*sz) (rs.drop k)
 |[],_,_,_,_=>by simp [mr]
 |_::_,_,0,_,h=>by simpa using h
 |_::_,off,k+1,hk,⟨_,_,r⟩=>by
  have:=mr.drop k (by simpa using hk) r
  grind
theorem mr.take {sz:Nat}: ∀{rs:List (List AV)}{off:Nat}(k:Nat),mr E sz b off rs->mr E sz b off (rs.take k)
 |[],_,_,_=>by simp [mr]
 |_::_,_,0,_=>by simp [mr]
 |_::_,_,k+1,⟨h1,h2,r⟩=>⟨h1,h2,mr.take k r⟩
theorem mE.append: ∀{cs ds:List AV}{off:Nat},mE E b off cs->mE E b (off+cs.length) ds->mE E b off (cs++ds)
 |[],_,_,_,h=>by simpa using h
 |c::cs,_,off,⟨h1,h3⟩,h=>by
  refine⟨h1,mE.append h3 ?_⟩
  grind
end lists
structure u5 where
 ps:Array Tmp
 assign:Code
 body:Code
 js:List (Int×Code)
def amS:List (Int×Code)->Int->Option Code
 |[],_=>none
 |(k,c)::cs,j=>match cs with
  |[]=>some c
  |_::_=>bif j==k then some c else amS cs j
def om(js:List (Int×Code))(j:Int):Option Code:=bif j==0 then none else amS js j
inductive jS where
 |cells (cs:List AV)
 |acc (qT:Bool) (sz:Nat) (rows:List (List AV))
 |map (es:List (AV×AV))
 |loop (k:u5) (slots:List AV) (st:LoopState) (qP:Int)
 |iter (s:ByteArray) (pos:Nat)
 |dead
variable {H H':List jS}
structure jI where
 slots:List AV
 heap:List jS
 low:Nat:=0
 df:List (FuncId×List AV):=[]
variable {σ σ':jI}
def PD:Value->AV
 | .int k n=> .int k n
 | .bool b=> .bool b
 | .string s=> .str s
 | .slice none 0 0=> .lI true 0 []
 |v=> .raw v
def jI.ev(σ:jI):Operand->AV
 | .tmp t=>σ.slots.getD t .any
 | .const v=>PD v
 | .global g=> .raw (.pointer (some ⟨g,0,none⟩))
 | .func f=> .func (.func f) [] []
def jI.put(σ:jI)(dst:Option Tmp)(x:AV):jI:=
 match dst with
 |some d=>{σ with slots:=σ.slots.set d x}
 |none=>σ
def jS.w5:jS->Value->Nat->Nat->Prop
 | .cells _,.pointer (some a),b,_=>b=a.block
 | .acc qT sz _,.slice (some a) n cap,b,o=>(b=a.block/\cap≠0)/\(qT=true->a.off+n*sz<=o)
 | .map _,.map (some r),b,_=>b=r
 | .loop _ _ _ _,.func (.yield r) _ _,b,_=>b=r\/b+1=r
 | .iter _ _,.pointer (some a),b,_=>b=a.block
 |_,_,_,_=>False
def jS.block:jS->Value->Nat->Prop
 | .cells _,.pointer (some a),b=>b=a.block
 | .acc _ _ _,.slice (some a) _ cap,b=>b=a.block/\cap≠0
 | .map _,.map (some r),b=>b=r
 | .loop _ _ _ _,.func (.yield r) _ _,b=>b=r\/b+1=r
 | .iter _ _,.pointer (some a),b=>b=a.block
 |_,_,_=>False
theorem jS.mK{x:jS}{o:Nat}(m:x.w5 h b o):x.block h b:=by
 unfold jS.w5 at m;grind [jS.block]
def Dq(φ:Nat->Value)(H:List jS)(b o:Nat):Prop:= ∃(l:Nat)(x:jS),H[l]? =some x/\x.w5 (φ l) b o
def lr:Option jS->Option Nat
 |some (.acc _ _ rows)=>some rows.length
 |_=>none
structure o9 where
 P:Program
 w0:World
 M0:Nat->Nat->Prop
 A:Nat->Nat->Prop
 hA: ∀b o,A b o->b<w0.heap.size
 hk:ahD w0 M0
 N0:Nat:=0
 φ0:Nat->Value:=fun _=> .tuple #[]
 ln0:Nat->Option Nat:=fun _=>none
variable {C:o9}
def o9.env(C:o9)(φ:Nat->Value)(H:List jS)(w:World):Env:=
 {w,mu:=fun b o=>Dq φ H b o\/C.A b o,φ,ln:=fun l=>lr H[l]?,n:=H.length}
def pX(E:Env):List (AV×AV)->List MapEntry->Prop
 |[],es=>es=[]
 |(k,v)::r,es=> ∃e s,es=e::s/\nr E k e.key/\nr E v e.val/\pX E r s
def mN(E:Env):jS->Value->Prop
 | .cells cs,h=> ∃b c t,h= .pointer (some ⟨b,0,none⟩)/\E.w.heap[b]? =some (.cells c t (0,0))/\kf E cs c.toList/\ ∀u∈c.toList,u.oneCell'=true
 | .acc _ sz rows,h=> ∃base cap,h= .slice base rows.length cap/\rows.length<=cap/\(base=none->cap=0)/\(∀r∈rows,r.length=sz)/\
     ∀a,base=some a->cap≠0->a.spot=none/\ ∃c t,E.w.heap[a.block]? =some (.cells c t (0,0))/\a.off+cap*sz<=c.size/\
      kf E rows.flatten ((c.toList.drop a.off).take (rows.length*sz))/\ ∀u∈(c.toList.drop a.off).take (rows.length*sz),u.oneCell'=true
 | .map es,h=> ∃r entries clock,h= .map (some r)/\E.w.heap[r]? =some (.map entries clock)/\pX E es entries.toList
 | .loop k slots st qP,h=> ∃D rec,h= .func (.yield (D+1)) #[] #[]/\E.w.heap[D+1]? =some (.loop rec)/\E.w.heap[D]? =some (.deferred (some []))/\
     (rec.params=k.ps/\rec.assign=k.assign/\rec.body=k.body/\rec.state=st/\rec.pending=om k.js qP/\rec.defers=D)/\kf E slots rec.tmps.toList
 | .iter s p,h=> ∃b,h= .pointer (some ⟨b,0,none⟩)/\E.w.heap[b]? =some (.stringIter s p)
 | .dead,_=>True
def asu(C:o9)(φ:Nat->Value)(H:List jS):Prop:= ∀l,l<C.N0->(φ l=C.φ0 l/\(lr H[l]? =C.ln0 l\/lr H[l]? =none))\/
 ((∃k,C.ln0 l=some k/\ ∀k',lr H[l]? =some k'->k<k')/\(∀a,C.φ0 l≠ .pointer a)/\hdl (C.φ0 l)=none)
def XR(d:Deferred):Bool:=match d.target with
 | .collected _=>true
 |_=>false
def Iy(E:Env):List (FuncId×List AV)->List Deferred->Prop
 |[],ds=>ds=[]
 |(f,xs)::r,ds=> ∃d s cap,ds=d::s/\d.target= .fn (.func f) cap/\kf E xs (d.args++cap).toList/\Iy E r s
def Iy.imp(h: ∀(xs:List AV)(vs:List Value),kf E xs vs->kf E' xs vs): ∀{df:List (FuncId×List AV)}{ds:List Deferred},Iy E df ds->Iy E' df ds
 |[],_,r=>r
 |_::_,_,⟨d,s,cap,h1,h2,h3,h4⟩=>⟨d,s,cap,h1,h2,h _ _ h3,Iy.imp h h4⟩
def Iy.mono(h:E.Le E.n E')(r:Iy E df ds):Iy E' df ds:=
 r.imp fun _ _ r=>kf.mono h _ _ (kf.nb _ _ r) r
theorem Iy.nb: ∀{df:List (FuncId×List AV)}{ds:List Deferred},Iy E df ds-> ∀p∈df,uB E.n p.2
 |[],_,_,_,h=>by cases h
 |q::r,_,⟨_,_,_,_,_,h3,h4⟩,p,hp=>by
  rcases aG.1 hp with rfl|hp
  ·exact kf.nb _ _ h3
  ·exact Iy.nb h4 p hp
def qh(C:o9)(φ:Nat->Value)(H:List jS)(w:World)(df:List (FuncId×List AV))(ds:List Deferred):Prop:=
 (ds.filter XR).Nodup/\(∀d∈ds,XR d=true-> ∃D,d=⟨.collected D,#[]⟩/\w.heap[D]? =some (.deferred (some []))/\C.w0.heap.size<=D/\ ∀(l:Nat)(x:jS),H[l]? =some x-> ¬ x.block (φ l) D)/\
   Iy (C.env φ H w) df (ds.filter fun d=> !XR d)
theorem qh.nil:qh C φ H w [] []:=⟨List.nodup_nil,fun _ h _=>(by cases h),rfl⟩
def qh.ahE(h:qh C φ H w df ds)
 (hr: ∀(xs:List AV)(vs:List Value),(∃f,(f,xs)∈df)->kf (C.env φ H w) xs vs->kf (C.env φ' H' w') xs vs)
 (Mc: ∀b,b<w.heap.size->(∀(l:Nat)(x:jS),H[l]? =some x-> ¬ x.block (φ l) b)->w'.heap[b]? =w.heap[b]?)
 (Hw: ∀(l:Nat)(x:jS)(b:Nat),H'[l]? =some x->x.block (φ' l) b->(∃(k:Nat)(y:jS),H[k]? =some y/\y.block (φ k) b)\/w.heap.size<=b):qh C φ' H' w' df ds:=by
 refine⟨h.1,fun d hd hm=> ?_,?_⟩
 ·obtain⟨D,h1,h2,h3,h4⟩:=h.2.1 d hd hm
  grind
 ·have key: ∀(df':List (FuncId×List AV))(ds':List Deferred),(∀p∈df',p∈df)->Iy (C.env φ H w) df' ds'->Iy (C.env φ' H' w') df' ds':=by
   intro df';induction df' with
   |nil=>intro _ _ r;exact r
   |cons p r ih=>
    intro ds' hp ⟨d,s,cap,h1,h2,h3,h4⟩;exact⟨d,s,cap,h1,h2,hr _ _ ⟨p.1,hp p (List.mem_cons_self ..)⟩ h3,ih _ (fun q hq=>hp q (bN _ hq)) h4⟩
  exact key df _ (fun _ h=>h) h.2.2
theorem qh.step(h:qh C φ H w df ds)(le:(C.env φ H w).Le H.length (C.env φ' H' w'))
 (Mc: ∀b,b<w.heap.size->(∀(l:Nat)(x:jS),H[l]? =some x-> ¬ x.block (φ l) b)->w'.heap[b]? =w.heap[b]?)
 (Hw: ∀(l:Nat)(x:jS)(b:Nat),H'[l]? =some x->x.block (φ' l) b->(∃(k:Nat)(y:jS),H[k]? =some y/\y.block (φ k) b)\/w.heap.size<=b):qh C φ' H' w' df ds:=
 h.ahE (fun xs vs _ r=>kf.mono le _ _ (kf.nb _ _ r) r) Mc Hw
def qh.same(h:qh C φ H w df ds)(le:(C.env φ H w).Le H.length (C.env φ H w'))(Mc: ∀b,b<w.heap.size->w'.heap[b]? =w.heap[b]?):qh C φ H w' df ds:=
 h.step le (fun b hb _=>Mc b hb) (fun l x b hx hb=> .inl ⟨l,x,hx,hb⟩)
structure lQ(C:o9)(φ:Nat->Value)(σ:jI)(a:Act)(w:World):Prop where
 slots:kf (C.env φ σ.heap w) σ.slots a.tmps.toList
 defers:qh C φ σ.heap w σ.df a.defers
 mV: ∀(l:Nat)(x:jS),σ.heap[l]? =some x->mN (C.env φ σ.heap w) x (φ l)
 apart: ∀(l l':Nat)(x x':jS)(b:Nat),σ.heap[l]? =some x->σ.heap[l']? =some x'->x.block (φ l) b->x'.block (φ l') b->l=l'
 rz: ∀(l:Nat)(x:jS)(b o:Nat),σ.heap[l]? =some x->x.block (φ l) b-> ¬ C.A b o
 size:C.w0.heap.size<=w.heap.size
 old: ∀b o,b<C.w0.heap.size-> ¬ C.M0 b o->w.cell? ⟨b,o,none⟩=C.w0.cell? ⟨b,o,none⟩
 mF: ∀b,b<C.w0.heap.size->(∀o,¬ C.M0 b o)->w.heap[b]? =C.w0.heap[b]?
 Bi: ∀(l:Nat)(x:jS)(b o:Nat),σ.heap[l]? =some x->x.w5 (φ l) b o->b<C.w0.heap.size->C.M0 b o
 tX: ∀a,a.block<C.w0.heap.size->w.frozen? a=C.w0.frozen? a
 rest:w.output=C.w0.output/\w.os=C.w0.os
 low:C.N0=σ.low/\σ.low<=σ.heap.length
 names:asu C φ σ.heap
section basics

def aeY(E:Env)(v:Value):nr E (PD v) v:=by
 unfold PD;split
 ·rfl
 ·rfl
 ·rfl
 ·exact⟨none,0,rfl,au _,fun _=>rfl,fun _=>rfl,(by intro a h;cases h),(by intro a h;cases h)⟩
 ·rfl
theorem lQ.ev(S:lQ C φ σ a w)(x:Operand):nr (C.env φ σ.heap w) (σ.ev x) (a.eval x):=by
 cases x with
 |tmp t=>
  simp only[jI.ev,Act.eval,List.getD];cases h:σ.slots[t]? with
  |none=>exact trivial
  |some c=>
   obtain⟨v,hv,r⟩:=S.slots.get h
   simp_all
 |const v=>exact aeY _ v
 |global g=>rfl
 |func f=>exact⟨#[],#[],rfl,rfl,rfl⟩
theorem lQ.put(S:lQ C φ σ a w)(dst:Option Tmp)(r:nr (C.env φ σ.heap w) x v):lQ C φ (σ.put dst x) (a.put dst v) w:=by
 cases dst with
 |none=>exact S
 |some d=>
  refine {S with slots:= ?_,defers:=S.defers};have:=S.slots.set (i:=d) r
  grind [jI.put,Act.put]
def o9.z8(hn:H.length<=H'.length)
 (hφ: ∀l,l<H.length->φ' l=φ l/\lr H'[l]? =lr H[l]?)
 (azs: ∀b o u,¬ (Dq φ H b o\/C.A b o)->w.cell? ⟨b,o,none⟩=some u-> ¬ (Dq φ' H' b o\/C.A b o)/\w'.cell? ⟨b,o,none⟩=some u):
 (C.env φ H w).Le H.length (C.env φ' H' w'):=
 ⟨hn,fun l hl=> .inl ⟨(hφ l hl).1,.inl (hφ l hl).2⟩,azs⟩
theorem El {o:Nat}(h:w.cell? ⟨b,o,none⟩=some u):b<w.heap.size:=by
 grind [World.cell?]
def lQ.know(S:lQ C φ σ a w):ahD w (Dq φ σ.heap):=fun b o h=>by
 obtain⟨v,hc,hv,hm⟩:=C.hk b o h;have hb:=El hc;refine⟨v,by rw[S.old b o hb hm];exact hc,hv,?_⟩;rintro⟨l,x,hx,Xf⟩;exact hm (S.Bi l x b o hx Xf hb)
def World.more(w:World)(o:Obj):World:={w with heap:=w.heap.push o}
@[simp] theorem Kw(w:World)(o:Obj):(World.more w o).heap.size=w.heap.size+1:=by simp [World.more]
theorem vT(w:World)(o:Obj)(h:b<w.heap.size):(World.more w o).heap[b]? =w.heap[b]? :=by
 grind [World.more]
theorem FC(w:World)(o:Obj):(World.more w o).heap[w.heap.size]? =some o:=by
 show(w.heap.push o)[w.heap.size]? =some o;simp
theorem Bf(w:World)(o:Obj)(h:b<w.heap.size):(World.more w o).cell? ⟨b,i,none⟩=w.cell? ⟨b,i,none⟩:=by
 grind [World.cell?,vT]
theorem adY(w:World)(c:Array Value)(t:TypeId)(i:Nat):(World.more w (.cells c t)).cell? ⟨w.heap.size,i,none⟩=c[i]? :=by
 grind [World.cell?,FC]
theorem tg(w:World)(o:Obj)(ho: ∀c t lo hi,o= .cells c t (lo,hi)->lo=0/\hi=0)(a:Addr):(World.more w o).frozen? a=w.frozen? a:=by
 grind [World.frozen?,World.more]
def mN.py{x:jS}(r:mN E x h)(hb:x.block h b):b<E.w.heap.size:=by
 cases x with
 |cells cs=>
  obtain⟨b',c,t,rfl,hh,_⟩:=r
  grind [jS.block]
 |acc qT sz rows=>
  obtain⟨base,cap,rfl,_,_,_,hh⟩:=r;cases base with
  |none=>simp [jS.block] at hb
  |some a0=>
   grind [jS.block]
 |map es=>
  obtain⟨r',en,cl,rfl,hh,_⟩:=r
  grind [jS.block]
 |loop k slots st qP=>
  obtain⟨D,rec,rfl,h1,h2,_⟩:=r
  grind [jS.block]
 |iter s p=>
  obtain⟨b',rfl,hh⟩:=r
  grind [jS.block]
 |dead=>simp [jS.block] at hb
def pX.mono{N:Nat}(h:E.Le N E'): ∀{es:List (AV×AV)}{xs:List MapEntry},(∀p∈es,p.1.nb N/\p.2.nb N)->pX E es xs->pX E' es xs
 |[],_,_,r=>r
 |(k,v)::_,_,hb,⟨e,s,he,r1,r2,r3⟩=>
  ⟨e,s,he,nr.mono h k _ (hb (k,v) (by simp)).1 r1,nr.mono h v _ (hb (k,v) (by simp)).2 r2,pX.mono h (fun p hp=>hb p (by simp [hp])) r3⟩
theorem pX.nb: ∀{es:List (AV×AV)}{xs:List MapEntry},pX E es xs-> ∀p∈es,p.1.nb E.n/\p.2.nb E.n
 |[],_,_=>by simp
 |(k,v)::_,_,⟨e,s,he,r1,r2,r3⟩=>by
  intro p hp;simp only[aG] at hp;rcases hp with rfl|hp
  ·exact⟨nr.nb _ _ r1,nr.nb _ _ r2⟩
  ·exact pX.nb r3 p hp
def mN.mono{x:jS}{hd:Value}(r:mN E x hd)(h:E.Le E.n E')(hs: ∀b,x.block hd b->E'.w.heap[b]? =E.w.heap[b]?):mN E' x hd:=by
 cases x with
 |cells cs=>
  obtain⟨b,c,t,rfl,hh,rl,h1⟩:=r;exact⟨b,c,t,rfl,by rw[hs b rfl,hh],kf.mono h _ _ (kf.nb _ _ rl) rl,h1⟩
 |acc qT sz rows=>
  obtain⟨base,cap,rfl,h1,h2,h3,hh⟩:=r;refine⟨base,cap,rfl,h1,h2,h3,fun a0 ha hc=> ?_⟩;obtain⟨h4,c,t,h5,h6,rl,h1⟩:=hh a0 ha hc;subst ha;exact⟨h4,c,t,by rw[hs _ ⟨rfl,hc⟩,h5],h6,kf.mono h _ _ (kf.nb _ _ rl) rl,h1⟩
 |map es=>
  obtain⟨r',en,cl,rfl,hh,rp⟩:=r;exact⟨r',en,cl,rfl,by rw[hs r' rfl,hh],pX.mono h (pX.nb rp) rp⟩
 |loop k slots st qP=>
  obtain⟨D,rec,rfl,h1,h2,h3,rl⟩:=r;exact⟨D,rec,rfl,by rw[hs (D+1) (.inl rfl),h1],by rw[hs D (.inr rfl),h2],h3,kf.mono h _ _ (kf.nb _ _ rl) rl⟩
 |iter s p=>
  obtain⟨b,rfl,hh⟩:=r;exact⟨b,rfl,by rw[hs b rfl,hh]⟩
 |dead=>trivial
theorem lQ.more(S:lQ C φ σ a w)(o:Obj)(ho: ∀c t lo hi,o= .cells c t (lo,hi)->lo=0/\hi=0):lQ C φ σ a (World.more w o):=by
 have le:(C.env φ σ.heap w).Le σ.heap.length (C.env φ σ.heap (World.more w o)):=
  o9.z8 (au _) (fun _ _=>⟨rfl,rfl⟩) (fun b i u hm hc=>⟨hm,by grind [Bf,El]⟩)
 refine {slots:=kf.mono le _ _ (kf.nb _ _ S.slots) S.slots,defers:=S.defers.same le (fun b hb=>vT w o hb),mV:= ?_,apart:=S.apart,rz:=S.rz,size:= ?_,old:= ?_,mF:= ?_,Bi:=S.Bi,tX:= ?_,rest:=S.rest,low:=S.low,names:=S.names}
 ·intro l x hx;have r:=S.mV l x hx;exact mN.mono r le (fun b hb=>vT w o (r.py hb))
 ·have:=S.size;simp;omega
 ·intro b i hb hm;rw[Bf w o (ae hb S.size)];exact S.old b i hb hm
 ·intro b hb hm;rw[vT w o (ae hb S.size)];exact S.mF b hb hm
 ·intro x hx;rw[tg w o ho];exact S.tX x hx
def lQ.drew(S:lQ C φ σ a w)(n:Nat):lQ C φ σ a {w with drawn:=n}:=by
 have le:(C.env φ σ.heap w).Le σ.heap.length (C.env φ σ.heap {w with drawn:=n}):=
  o9.z8 (au _) (fun _ _=>⟨rfl,rfl⟩) (fun b i u hm hc=>⟨hm,hc⟩)
 exact {slots:=kf.mono le _ _ (kf.nb _ _ S.slots) S.slots,defers:=S.defers.same le (fun _ _=>rfl),mV:=fun l x hx=>mN.mono (S.mV l x hx) le (fun _ _=>rfl),apart:=S.apart,rz:=S.rz,size:=S.size,old:=S.old,mF:=S.mF,Bi:=S.Bi,tX:=S.tX,rest:=S.rest,low:=S.low,names:=S.names}
def lQ.asv(_S:lQ C φ σ a w)(o:Obj):(C.env φ σ.heap w).Le σ.heap.length (C.env φ σ.heap (World.more w o)):=
 o9.z8 (au _) (fun _ _=>⟨rfl,rfl⟩) (fun b i u hm hc=>⟨hm,by grind [Bf,El]⟩)
def ahF(S:lQ C φ σ a w)(hb:w.heap.size<=b)(o:Nat): ¬ (Dq φ σ.heap b o\/C.A b o):=by
 rintro(⟨l,x,hx,hm⟩|hA)
 ·have:=(S.mV l x hx).py (jS.mK hm);simp only[o9.env] at this;omega
 ·have:=C.hA _ _ hA;have:=S.size;omega
def ab5(S:lQ C φ σ a w)(c:Array Value)(t:TypeId)(h1: ∀u∈c.toList,u.oneCell'=true): ∀(cs:List AV)(off:Nat),kf (C.env φ σ.heap w) cs ((c.toList.drop off).take cs.length)->
 mE (C.env φ σ.heap (World.more w (.cells c t))) w.heap.size off cs
 |[],_,_=>trivial
 |x::cs,off,r=>by
  obtain⟨u,us,hu,r1,r2⟩:=r
  have hc:c[off]? =some u:=by
   have:(c.toList.drop off)[0]? =some u:=by
    have:=congrArg (fun l:List Value=>l[0]?) hu;simpa using this
   simpa using this
  have htl:us=(c.toList.drop (off+1)).take cs.length:=by
   have h1:=congrArg List.tail hu;simp only[List.tail_cons] at h1;rw[<-h1];cases hd:c.toList.drop off with
   |nil=>rw[hd] at hu;simp at hu
   |cons y ys=>
    grind [bn]
  refine⟨⟨ahF S (au _) _,u,by grind [o9.env,adY],h1 u (bO (by simpa using hc)),nr.mono (S.asv _) _ _ (nr.nb _ _ r1) r1⟩,ab5 S c t h1 cs (off+1) (by rw[<-htl];exact r2)⟩
theorem aas(S:lQ C φ σ a w)(c:Array Value)(t:TypeId)(h1: ∀u∈c.toList,u.oneCell'=true)(sz:Nat): ∀(rs:List (List AV))(off:Nat),(∀r∈rs,r.length=sz)->kf (C.env φ σ.heap w) rs.flatten ((c.toList.drop off).take (rs.length*sz))->
 mr (C.env φ σ.heap (World.more w (.cells c t))) sz w.heap.size off rs
 |[],_,_,_=>trivial
 |r::rs,off,hl,h=>by
  have hr:r.length=sz:=hl r (by simp);simp only[aC] at h;have h3:=kf.take r.length h;have h2:=kf.drop r.length h;simp only[bc,be,bI,aY,aR] at h3 h2;refine⟨hr,ab5 S c t h1 r off ?_,aas S c t h1 sz rs (off+sz) (fun q hq=>hl q (by simp [hq])) ?_⟩
  all_goals grind [ax]
theorem lQ.name(S:lQ C φ σ a w)(c:Array Value)(t:TypeId)(r:kf (C.env φ σ.heap w) cs c.toList)(h1: ∀u∈c.toList,u.oneCell'=true):
 lQ C (fun l=>if l=σ.heap.length then .pointer (some ⟨w.heap.size,0,none⟩) else φ l) {σ with heap:=σ.heap++[.cells cs]} a (World.more w (.cells c t))/\
 (C.env φ σ.heap w).Le σ.heap.length (C.env (fun l=>if l=σ.heap.length then .pointer (some ⟨w.heap.size,0,none⟩) else φ l) (σ.heap++[.cells cs]) (World.more w (.cells c t))):=by
 let φ':Nat->Value:=fun l=>if l=σ.heap.length then .pointer (some ⟨w.heap.size,0,none⟩) else φ l
 have hφ: ∀l,l<σ.heap.length->φ' l=φ l:=fun l hl=>by grind
 have mH: ∀(l:Nat)(x:jS),(σ.heap++[.cells cs])[l]? =some x->(l<σ.heap.length/\σ.heap[l]? =some x)\/(l=σ.heap.length/\x= .cells cs):=by
  grind
 have Jr: ∀b o,Dq φ' (σ.heap++[.cells cs]) b o->b=w.heap.size\/Dq φ σ.heap b o:=by
  rintro b o ⟨l,x,hx,hm⟩;rcases mH l x hx with⟨hl,hx⟩|⟨rfl,rfl⟩
  ·rw[hφ l hl] at hm;exact .inr ⟨l,x,hx,hm⟩
  grind [jS.w5]
 have le:(C.env φ σ.heap w).Le σ.heap.length (C.env φ' (σ.heap++[.cells cs]) (World.more w (.cells c t))):=by
  refine o9.z8 (by simp) (fun l hl=>⟨hφ l hl,by rw[aw hl]⟩) (fun b i u hm hc=> ?_)
  grind [El,Bf]
 have Aa:qh C φ' (σ.heap++[.cells cs]) (World.more w (.cells c t)) σ.df a.defers:=by
  refine S.defers.step le (fun b hb _=>vT w _ hb) (fun l x b hx hb=> ?_)
  grind [jS.block]
 refine⟨{slots:=kf.mono le _ _ (kf.nb _ _ S.slots) S.slots,defers:=Aa,mV:= ?_,apart:= ?_,rz:= ?_,size:= ?_,old:= ?_,mF:= ?_,Bi:= ?_,tX:= ?_,rest:=S.rest,low:=⟨S.low.1,by have:=S.low.2;simp;omega⟩,names:= ?_},le⟩
 ·intro l x hx;rcases mH l x hx with⟨hl,hx⟩|⟨rfl,rfl⟩
  ·have r0:=S.mV l x hx;have:mN (C.env φ' (σ.heap++[.cells cs]) (World.more w (.cells c t))) x (φ l):=mN.mono r0 le (fun b hb=>vT w _ (r0.py hb))
   grind
  ·exact⟨w.heap.size,c,t,by simp,FC w _,kf.mono le _ _ (kf.nb _ _ r) r,h1⟩
 ·intro l l' x x' b hx hx' hb hb';rcases mH l x hx with⟨hl,hx⟩|⟨rfl,rfl⟩<;>rcases mH l' x' hx' with⟨Kc,hx'⟩|⟨rfl,rfl⟩
  ·rw[show(if l=σ.heap.length then _ else φ l)=φ l from hφ l hl] at hb;rw[show(if l'=σ.heap.length then _ else φ l')=φ l' from hφ l' Kc] at hb';exact S.apart l l' x x' b hx hx' hb hb'
  ·rw[show(if l=σ.heap.length then _ else φ l)=φ l from hφ l hl] at hb;have:=(S.mV l x hx).py hb
   grind [jS.block,o9.env]
  ·rw[show(if l'=σ.heap.length then _ else φ l')=φ l' from hφ l' Kc] at hb';have:=(S.mV l' x' hx').py hb'
   grind [jS.block,o9.env]
  ·rfl
 ·intro l x b o hx hb;rcases mH l x hx with⟨hl,hx⟩|⟨rfl,rfl⟩
  ·rw[show(if l=σ.heap.length then _ else φ l)=φ l from hφ l hl] at hb;exact S.rz l x b o hx hb
  ·simp only[jD,jS.block] at hb;intro hA;have:=C.hA _ _ hA;have:=S.size;omega
 ·have:=S.size;simp;omega
 ·intro b i hb hm;rw[Bf w _ (ae hb S.size)];exact S.old b i hb hm
 ·intro b hb hm;rw[vT w _ (ae hb S.size)];exact S.mF b hb hm
 ·intro l x b o hx hm hb;rcases mH l x hx with⟨hl,hx⟩|⟨rfl,rfl⟩
  ·rw[show(if l=σ.heap.length then _ else φ l)=φ l from hφ l hl] at hm;exact S.Bi l x b o hx hm hb
  ·simp only[jD,jS.w5] at hm;have:=S.size;omega
 ·intro x hx;rw[tg w _ (by grind)];exact S.tX x hx
 ·intro l hl;have hlt:l<σ.heap.length:=by have:=S.low;omega
  have:=S.names l hl
  grind
end basics
structure tL where
 val:AV
 rd:List Nat:=[]
 up:List (Nat×jS):=[]
 nw:List jS:=[]
 pre:Prop:=True
 whole:Bool:=false
variable {ef:tL}
def lu:List jS->List (Nat×jS)->List jS
 |H,[]=>H
 |H,(l,x)::r=>lu (H.set l x) r
def jI.app(σ:jI)(dst:Option Tmp)(e:tL):jI:=
 {σ.put dst e.val with heap:=lu σ.heap e.up++e.nw}
def oF(P:Program)(t:TypeId):Option (Bool×Nat):=
 match P.info? t with
 |none=>none
 |some i=>match P.underlying t with
  |some (.struct _)=>some (true,i.size)
  |some (.array _ _)=>some (true,i.size)
  |some _=>some (false,i.size)
  |none=>none
def n4(P:Program)(t:TypeId):Option (List AV):=
 match P.info? t with
 |none=>none
 |some i=>match i.zero with
  |some v=>if v.cells.toList.all Value.oneCell' then some (v.cells.toList.map PD) else none
  |none=>none
def vU(P:Program)(t:TypeId)(i:Nat):Option (Nat×TypeId):=
 match P.underlying t with
 |some (.struct fs)=>match fs[i]? with
  |some f=>match P.info? f.type with
   |some j=>if j.size=0 then none else some (f.offset,f.type)
   |none=>none
  |none=>none
 |_=>none
def nu(P:Program)(t:TypeId):Option (TypeId×Nat×Nat):=
 match P.underlying t with
 |some (.slice e)=>match P.info? e with
  |some i=>some (e,i.size,i.bytes)
  |none=>none
 |_=>none
def ahG(P:Program)(t:TypeId):Option (Nat×Nat):=
 match P.underlying t with
 |some (.array n e)=>match P.info? e with
  |some i=>some (n,i.size)
  |none=>none
 |_=>none
def tj(P:Program)(t:TypeId):Bool:=
 match P.underlying t with
 |some .string=>true
 |_=>false
def af1(P:Program)(t:TypeId):Option IntKind:=
 match P.underlying t with
 |some (.int k)=>some k
 |_=>none
def nM(P:Program)(t:TypeId):Bool:=
 match P.underlying t with
 |some (.int _)=>false
 |some _=>true
 |none=>false
def p7(P:Program)(t:TypeId):Bool:=
 match P.underlying t with
 |some (.interface _)=>false
 |some _=>true
 |none=>false
def AV.scalar:AV->Bool
 | .any| .agg _| .EQ _=>false
 | .raw v=>v.oneCell'
 |_=>true
def cellsOf:AV->Option (List AV)
 | .agg cs=>if cs.all AV.scalar then some cs else none
 |x=>if x.scalar then some [x] else none
def lG(g:Bool)(n:Nat)(cs:List AV):Option AV:=
 match g with
 |true=>if n<=cs.length then some (.agg (cs.take n)) else none
 |false=>match cs with
  |c::_=>some c
  |[]=>none
def tM(cs:List AV)(off:Nat)(xs:List AV):List AV:=cs.take off++xs++cs.drop (off+xs.length)
def PE(place:Nat->Option (Nat×Nat))(cs:List AV):List (Nat×AV)->Option (List AV)
 |[]=>some cs
 |(i,x)::rest=>match place i,cellsOf x with
  |some (off,size),some xs=>if xs.length=size/\off+size<=cs.length then PE place (tM cs off xs) rest else none
  |_,_=>none
def Md(P:Program)(t:TypeId):Option (Nat->Option (Nat×Nat)):=
 match P.underlying t with
 |some (.array _ e)=>match P.info? e with
  |some ie=>some fun i=>some (i*ie.size,ie.size)
  |none=>none
 |some (.struct fields)=>match fields.toList.mapM (fun f=>(P.info? f.type).map fun i=>(f.offset,i.size)) with
  |some places=>some fun i=>places.toArray[i]?
  |none=>none
 |_=>none
def Ab(P:Program)(t:TypeId):Bool:=(Md P t).isSome
def mO(P:Program)(t:TypeId)(i:Nat):Option (Nat×Nat):=
 match Md P t with
 |some f=>f i
 |none=>none
def rowsOf(sz:Nat)(rows:List (List AV)):List (Nat×AV)->Option (List (List AV))
 |[]=>some rows
 |(i,x)::rest=>match cellsOf x with
  |some xs=>if i<rows.length/\xs.length=sz then rowsOf sz (rows.set i xs) rest else none
  |none=>none
def apK(k:IntKind)(f:BitVec k.bits->BitVec k.bits->BitVec k.bits)(a b:Int):Int:=k.wrap (f (BitVec.ofInt k.bits a) (BitVec.ofInt k.bits b)).toNat
def aeZ(op:BinOp)(x y:AV):Option AV:=
 match x,y with
 | .int k a,.int k' b=>
   if k≠k' then none else
   match op with
   | .add=>some (.int k (k.wrap (a+b)))
   | .sub=>some (.int k (k.wrap (a-b)))
   | .mul=>some (.int k (k.wrap (a*b)))
   | .eql=>some (.bool (a==b))
   | .neq=>some (.bool (a !=b))
   | .lss=>some (.bool (decide (a<b)))
   | .leq=>some (.bool (decide (a<=b)))
   | .gtr=>some (.bool (decide (b<a)))
   | .geq=>some (.bool (decide (b<=a)))
   | .quo=>if b=0 then none else some (.int k (k.wrap (a.tdiv b)))
   | .rem=>if b=0 then none else some (.int k (a.tmod b))
   | .and=>some (.int k (apK k (· &&& ·) a b))
   | .or=>some (.int k (apK k (· ||| ·) a b))
   | .xor=>some (.int k (apK k (· ^^^ ·) a b))
   | .andNot=>some (.int k (apK k (fun x y=>x&&& ~~~y) a b))
   |_=>none
 | .str a,.str b=>
   match op with
   | .eql=>some (.bool (a.toList==b.toList))
   | .neq=>some (.bool (!(a.toList==b.toList)))
   | .add=>if a.size+b.size<=9223372036854775807 then some (.str (a++b)) else none
   | .lss=>some (.bool (bW a.toList b.toList))
   | .leq=>some (.bool (bW a.toList b.toList||a.toList==b.toList))
   | .gtr=>some (.bool (!(bW a.toList b.toList||a.toList==b.toList)))
   | .geq=>some (.bool (!bW a.toList b.toList))
   |_=>none
 |_,_=>none
def eq1:AV->AV->Bool
 | .int _ a,.int _ b=>a==b
 | .str a,.str b=>a.toList==b.toList
 | .bool a,.bool b=>a==b
 |_,_=>false
def eqB:List AV->List AV->Bool
 |[],[]=>true
 |x::xs,y::ys=>eq1 x y&&eqB xs ys
 |_,_=>false
def ae0(P:Program)(t:TypeId)(cs ds:List AV):Prop:=
 ∀ (E:Env) (vs us:Array Value) (w:World) (x y:Operand),kf E cs vs.toList->kf E ds us.toList->
   (do eqGuard .eql t x y (.agg vs) (.agg us);binOp .eql t (.agg vs) (.agg us):Sem Value).run P w= .ok (.bool (eqB cs ds)) w/\
   (do eqGuard .neq t x y (.agg vs) (.agg us);binOp .neq t (.agg vs) (.agg us):Sem Value).run P w= .ok (.bool (!eqB cs ds)) w
def tbl(P:Program)(t:TypeId):Bool:=
 match P.underlying t with
 |some .bool=>true
 |_=>false
def aky(P:Program)(t:TypeId):Bool:=
 match P.underlying t with
 |some (.interface ms)=>ms.isEmpty
 |_=>false
def Zt(P:Program)(op:BinOp)(t:TypeId)(x y:AV):Option tL:=
 match op,x,y with
 | .eql,.agg cs,.agg ds=>some {val:= .bool (eqB cs ds),pre:=ae0 P t cs ds}
 | .neq,.agg cs,.agg ds=>some {val:= .bool (!eqB cs ds),pre:=ae0 P t cs ds}
 | .eql,.bool a,.bool b=>if tbl P t then some {val:= .bool (a==b)} else none
 | .neq,.bool a,.bool b=>if tbl P t then some {val:= .bool (!(a==b))} else none
 | .eql,.iface _ _,.raw .nilIface=>if aky P t then some {val:= .bool false} else none
 | .neq,.iface _ _,.raw .nilIface=>if aky P t then some {val:= .bool true} else none
 | .eql,.raw .nilIface,.raw .nilIface=>if aky P t then some {val:= .bool true} else none
 | .neq,.raw .nilIface,.raw .nilIface=>if aky P t then some {val:= .bool false} else none
 |_,_,_=>none
def Xg(P:Program)(op:BinOp)(t:TypeId)(x:AV)(y:Operand):Option tL:=
 match op,x,y with
 | .eql,.raw (.slice a _ _),.const (.slice none 0 0)=>if (nu P t).isSome then some {val:= .bool a.isNone} else none
 | .eql,.lI _ _ rows,.const (.slice none 0 0)=>if rows.isEmpty=false/\(nu P t).isSome then some {val:= .bool false} else none
 |_,_,_=>none
def ae1(P:Program)(op:BinOp)(t:TypeId)(y:Operand)(a b:AV):Option tL:=
 match Xg P op t a y with
 |some e=>some e
 |none=>Zt P op t a b
def bound(σ:jI)(d:Nat):Option Operand->Option Int
 |none=>some d
 |some x=>match σ.ev x with
  | .int _ n=>some n
  |_=>none
def Vr(mx:Option Operand)(t:Bool)(h n m:Int):Bool:=
 match mx with
 |none=>t&&decide (h=n)
 |some _=>decide (h=m)
def XS (σ:jI) (sz:Nat) (x:AV) (lo hi mx:Option Operand):Option tL:=
 match x with
 | .lI t JP rows=>
   match bound σ 0 lo,bound σ rows.length hi,bound σ rows.length mx with
   |some l,some h,some m=>if (JP=sz\/rows.length=0)/\0<=l/\l<=h/\h<=m/\m<=rows.length then
     some {val:= .lI (Vr mx t h rows.length m) sz ((rows.take h.toNat).drop l.toNat)} else none
   |_,_,_=>none
 | .acc k n=>match σ.heap[k]? with
   |some (.acc true JP rows)=>
    match bound σ 0 lo,bound σ rows.length hi,bound σ rows.length mx with
    |some l,some h,some m=>if JP=sz/\rows.length=n/\0<=l/\l<=h/\h<=m/\m<=rows.length then
      some {val:= .lI (Vr mx false h rows.length m) sz ((rows.take h.toNat).drop l.toNat),rd:=[k]} else none
    |_,_,_=>none
   |_=>none
 |_=>none
def PF(σ:jI)(sz:Nat):AV->Option (List Nat×List (List AV))
 | .lI _ JP rows=>if JP=sz\/rows.length=0 then some ([],rows) else none
 | .acc l n=>match σ.heap[l]? with
   |some (.acc true JP rows)=>if JP=sz/\rows.length=n then some ([l],rows) else none
   |_=>none
 | .raw (.slice _ 0 _)=>some ([],[])
 |_=>none
def room(n bytes:Nat):Prop:=n*bytes<=2 ^ 44
def N3 (im:Bool) (σ:jI) (sz bytes:Nat) (x y:AV):Option tL:=
 match PF σ sz y with
 |none=>none
 |some (rd,ys)=>match x with
  | .acc l n=>match σ.heap[l]? with
    |some (.acc qT JP rows)=>if JP=sz/\rows.length=n then
      some {val:= .acc l (rows++ys).length,rd:=l::rd,up:=[(l,.acc qT sz (rows++ys))],pre:=room (rows.length+ys.length) bytes} else none
    |_=>none
  | .lI true JP rows=>if JP=sz\/rows.length=0 then
      (if rows.length=0\/0<ys.length then some {val:= .acc σ.heap.length (rows++ys).length,rd:=rd,nw:=[.acc im sz (rows++ys)],pre:=room (rows.length+ys.length) bytes}
        else some {val:= .lI true JP rows,rd:=rd}) else none
  |_=>none
def ae2(P:Program)(σ:jI)(t:TypeId):AV->Option tL
 | .str s=>if tj P t then some {val:= .int .i64 s.size} else none
 | .lI _ _ rows=>if (nu P t).isSome then some {val:= .int .i64 rows.length} else none
 | .acc l n=>if (nu P t).isSome then match σ.heap[l]? with
   |some (.acc _ _ rows)=>if rows.length=n then some {val:= .int .i64 n,rd:=[l]} else none
   |_=>none else none
 |_=>none
def ae3:List Operand->Nat
 | .tmp t::_=>t
 |_=>0
def Hx (P:Program) (σ:jI) (b:Builtin) (ops:List Operand) (ts:List TypeId) (xs:List AV):Option tL:=
 match b,ts,xs with
 | .len,[t],[x]=>ae2 P σ t x
 | .append,[t,u],[x,y]=>match nu P t,nM P u with
   |some (e,sz,bytes),true=>match n4 P e with
    |some z=>if z.length=sz/\0<sz/\0<bytes then N3 (avN t (ae3 ops)) σ sz bytes x y else none
    |none=>none
   |_,_=>none
 | .max,[_,_],[.int k m,.int _ n]=>some {val:= .int k (if n>m then n else m)}
 | .min,[_,_],[.int k m,.int _ n]=>some {val:= .int k (if n<m then n else m)}
 |_,_,_=>none
def vwL (H:List jS):List AV->Option (List AV×List Nat)
 |[]=>some ([],[])
 | .acc l n::cs=>match H[l]? with
   |some (.acc qT sz rows)=>if rows.length=n then match vwL H cs with
    |some (ds,ns)=>some ((bif qT then .lI false sz rows else .acc l n)::ds,l::ns)
    |none=>none else none
   |_=>none
 |c::cs=>match vwL H cs with
  |some (ds,ns)=>some (c::ds,ns)
  |none=>none
def ldV(H:List jS)(l:Nat):AV->Option tL
 | .agg cs=>match vwL H cs with
   |some (ds,ns)=>some {val:= .agg ds,rd:=l::ns}
   |none=>none
 |v=>some {val:=v,rd:=[l]}
def ab6(sz:Nat):Nat->List AV->Option (List AV)
 |0,cs=>if sz<=cs.length then some (cs.take sz) else none
 |n+1,cs=>ab6 sz n (cs.drop sz)
def tz1(P:Program)(t:TypeId):Option AV:=
 match P.info? t with
 |some i=>match i.zero with
  |some (.bool b)=>some (.bool b)
  |some (.int k n)=>some (.int k n)
  |some (.string s)=>some (.str s)
  |some (.agg vs)=>some (.agg (vs.toList.map PD))
  |_=>none
 |none=>none
def SF(P:Program)(t:TypeId):Option AV:=
 match P.underlying t with
 |some (.map k e)=>match P.underlying k with
  |some .string=>tz1 P e
  |_=>none
 |_=>none
def Js:List (AV×AV)->Bool
 |[]=>true
 |(.str _,_)::es=>Js es
 |_=>false
def vm(s:ByteArray):List (AV×AV)->Option AV
 |(.str k,v)::es=>bif s==k then some v else vm s es
 |_=>none
def Hy(s:ByteArray)(v:AV):List (AV×AV)->List (AV×AV)
 |(.str k,u)::es=>bif s==k then(.str k,v)::es else(.str k,u)::Hy s v es
 |_=>[(.str s,v)]
def Vs(z:AV)(l:Nat)(s:ByteArray):Option jS->Option tL
 |some (.map es)=>if Js es=true then some {val:=(vm s es).getD z,rd:=[l]} else none
 |_=>none
def ae4(z:AV)(l:Nat):Option AV->tL
 |some v=>{val:= .EQ [v,.bool true],rd:=[l]}
 |none=>{val:= .EQ [z,.bool false],rd:=[l]}
def Zu(z:AV)(l:Nat)(s:ByteArray):Option jS->Option tL
 |some (.map es)=>if Js es=true then some (ae4 z l (vm s es)) else none
 |_=>none
def af2(P:Program)(t:TypeId):AV->Option tL
 | .iface t' x=>if t'=t/\p7 P t=true then some {val:= .EQ [x,.bool true]} else none
 |_=>none
def yG(l:Nat)(s:ByteArray)(v:AV):Option jS->Option tL
 |some (.map es)=>if Js es=true then some {val:= .any,rd:=[l],up:=[(l,.map (Hy s v es))]} else none
 |_=>none
def ab7:Value->Option tL
 | .pointer (some ⟨b,o,none⟩)=>match ass b with
   |some k=>(amR b o).bind fun m=>some {val:= .int k m}
   |none=>none
 |_=>none
def Vt(l:Nat):Option jS->Option tL
 |some (.iter s p)=>if p<s.size then some {val:= .EQ [.bool true,.int .i64 p,.int .i32 (Utf8.decode s p).1],rd:=[l],up:=[(l,.iter s (p+(Utf8.decode s p).2))]}
   else some {val:= .EQ [.bool false],rd:=[l]}
 |_=>none
def kI (P:Program) (σ:jI):Op->Option tL
 | .move x=>some {val:=σ.ev x}
 | .assign x=>some {val:=σ.ev x}
 | .pick c x y=>match σ.ev c with
   | .bool b=>some {val:=bif b then σ.ev x else σ.ev y}
   |_=>none
 | .alloc t=>match n4 P t with
   |some z=>some {val:= .ptr σ.heap.length 0,nw:=[.cells z]}
   |none=>none
 | .box _ x=>match cellsOf (σ.ev x) with
   |some cs=>some {val:= .ptr σ.heap.length 0,nw:=[.cells cs]}
   |none=>none
 | .build t parts=>match Ab P t,n4 P t with
   |true,some z=>match PE (mO P t) z (parts.toList.map fun p=>(p.1,σ.ev p.2)) with
    |some cs=>some {val:= .agg cs}
    |none=>none
   |_,_=>none
 | .buildSlice t len parts=>match nu P t with
   |some (e,sz,_)=>match n4 P e with
    |some z=>if z.length=sz/\len*sz<=16777216 then
      match rowsOf sz (am len z) (parts.toList.map fun p=>(p.1,σ.ev p.2)) with
      |some rows=>bif asr t (ae3 (parts.toList.map (·.2))) then some {val:= .acc σ.heap.length rows.length,nw:=[.acc (avN t (ae3 (parts.toList.map (·.2)))) sz rows]} else some {val:= .lI true sz rows}
      |none=>none
     else none
    |none=>none
   |none=>none
 | .load t x=>match oF P t,σ.ev x with
   |some (g,n),.ptr l off=>match σ.heap[l]? with
    |some (.cells cs)=>match lG g n (cs.drop off) with
     |some v=>ldV σ.heap l v
     |none=>none
    |_=>none
   |some (g,n),.pp cs=>match lG g n cs with
    |some v=>some {val:=v}
    |none=>none
   |some (g,n),.own l i m o sz=>match σ.heap[l]? with
    |some (.acc false JP rows)=>if JP=sz/\rows.length=m then match rows[i]? with
     |some r=>match lG g n (r.drop o) with
      |some v=>some {val:=v,rd:=[l]}
      |none=>none
     |none=>none else none
    |_=>none
   |some (false,_),.raw v=>ab7 v
   |_,_=>none
 | .store t x y=>match oF P t,σ.ev x,cellsOf (σ.ev y) with
   |some (_,n),.ptr l off,some ys=>match σ.heap[l]? with
    |some (.cells cs)=>if ys.length=n/\off+n<=cs.length then some {val:= .any,rd:=[l],up:=[(l,.cells (tM cs off ys))]} else none
    |_=>none
   |some (_,n),.own l i m o sz,some ys=>match σ.heap[l]? with
    |some (.acc false JP rows)=>if JP=sz/\rows.length=m then match rows[i]? with
     |some r=>if ys.length=n/\o+n<=sz then some {val:= .any,rd:=[l],up:=[(l,.acc false sz (rows.set i (tM r o ys)))]} else none
     |none=>none else none
    |_=>none
   |_,_,_=>none
 | .binOp op t x y _=>match aeZ op (σ.ev x) (σ.ev y) with
   |some v=>some {val:=v}
   |none=>ae1 P op t y (σ.ev x) (σ.ev y)
 | .unOp op _ x=>match op,σ.ev x with
   | .not,.bool b=>some {val:= .bool (!b)}
   | .neg,.int k n=>some {val:= .int k (k.wrap (0-n))}
   | .xor,.int k n=>some {val:= .int k (apK k (· ^^^ ·) (if k.signed then-1 else k.max) n)}
   |_,_=>none
 | .fieldAddr t x i=>match vU P t i,σ.ev x with
   |some (o,_),.ptr l off=>some {val:= .ptr l (off+o)}
   |some (o,_),.pp cs=>some {val:= .pp (cs.drop o)}
   |some (o,_),.own l i m o' sz=>some {val:= .own l i m (o'+o) sz}
   |_,_=>none
 | .field t x i=>match vU P t i,σ.ev x with
   |some (o,u),.agg cs=>match oF P u with
    |some (g,n)=>match lG g n (cs.drop o) with
     |some v=>some {val:=v}
     |none=>none
    |none=>none
   |_,_=>none
 | .indexAddr t x i=>match nu P t with
   |some (_,sz,_)=>match σ.ev x,σ.ev i with
    | .lI _ JP rows,.int _ n=>if JP=sz/\0<=n then match rows[n.toNat]? with
      |some r=>some {val:= .pp r}
      |none=>none else none
    | .acc l m,.int _ n=>match σ.heap[l]? with
      |some (.acc true JP rows)=>if JP=sz/\0<=n/\rows.length=m then match rows[n.toNat]? with
       |some r=>some {val:= .pp r,rd:=[l]}
       |none=>none else none
      |some (.acc false JP rows)=>if JP=sz/\0<=n/\rows.length=m/\n<m then some {val:= .own l n.toNat m 0 sz,rd:=[l]} else none
      |_=>none
    |_,_=>none
   |none=>match ahG P t with
    |some (len,sz)=>match σ.ev x,σ.ev i with
     | .ptr l off,.int _ n=>if 0<=n/\n<len then some {val:= .ptr l (off+n.toNat*sz)} else none
     | .pp cs,.int _ n=>if 0<=n/\n<len then(ab6 sz n.toNat cs).bind fun ds=>some {val:= .pp ds} else none
     | .raw (.pointer (some ⟨b,o,none⟩)),.int _ n=>if 0<=n/\n<len then some {val:= .raw (.pointer (some ⟨b,o+n.toNat*sz,none⟩))} else none
     |_,_=>none
    |none=>none
 | .index t x i=>match tj P t,σ.ev x,σ.ev i with
   |true,.str s,.int _ n=>if 0<=n then match s[n.toNat]? with
    |some b=>some {val:= .int .u8 b.toNat}
    |none=>none else none
   |_,_,_=>none
 | .slice t x lo hi mx=>match nu P t with
   |some (_,sz,_)=>if mx.isSome&&hi.isNone then none else XS σ sz (σ.ev x) lo hi mx
   |none=>match tj P t,σ.ev x,mx with
    |true,.str s,none=>match bound σ 0 lo,bound σ s.size hi with
     |some l,some h=>if 0<=l/\l<=h/\h<=s.size then some {val:= .str (s.extract l.toNat h.toNat)} else none
     |_,_=>none
    |_,_,_=>none
 | .nilCheck x=>match σ.ev x with
   | .ptr l off=>some {val:= .ptr l off}
   | .pp cs=>some {val:= .pp cs}
   | .func (.func f) fs cs=>some {val:= .func (.func f) fs cs}
   |_=>none
 | .convert s d x=>match σ.ev x with
   | .str v=>if tj P s&&tj P d then some {val:= .str v} else none
   | .int _ n=>match af1 P s,af1 P d with
     |some _,some k=>some {val:= .int k (k.wrap n)}
     |some _,none=>if tj P d then some {val:= .str (Utf8.encode n)} else none
     |_,_=>none
   |_=>none
 | .makeInterface t x=>if p7 P t then some {val:= .iface t (σ.ev x)} else none
 | .makeSlice t x y=>match nu P t,σ.ev x,σ.ev y with
   |some (e,sz,bytes),.int .i64 n,.int .i64 m=>match n4 P e with
    |some z=>if z.length=sz/\0<sz/\0<=n/\n=m then
      some {val:= .acc σ.heap.length n.toNat,nw:=[.acc false sz (am n.toNat z)],pre:=room n.toNat bytes/\n<2 ^ 62} else none
    |none=>none
   |_,_,_=>none
 | .call {callee:= .builtin b,args,argTypes}=>Hx P σ b args.toList argTypes.toList (args.toList.map σ.ev)
 | .extract x i=>match σ.ev x with
   | .EQ vs=>match vs[i]? with
     |some v=>some {val:=v}
     |none=>none
   |_=>none
 | .makeFunc fn f c=>some {val:= .func fn (f.toList.map σ.ev) (c.toList.map σ.ev)}
 | .range t x=>match tj P t,σ.ev x with
   |true,.str s=>some {val:= .ptr σ.heap.length 0,nw:=[.iter s 0]}
   |_,_=>none
 | .next x true=>match σ.ev x with
   | .ptr l 0=>Vt l σ.heap[l]?
   |_=>none
 | .makeMap _ none=>some {val:= .map σ.heap.length,nw:=[.map []]}
 | .lookup t x k false=>match SF P t,σ.ev x,σ.ev k with
   |some z,.map l,.str s=>Vs z l s σ.heap[l]?
   |_,_,_=>none
 | .lookup t x k true=>match SF P t,σ.ev x,σ.ev k with
   |some z,.map l,.str s=>Zu z l s σ.heap[l]?
   |_,_,_=>none
 | .typeAssert x _ t true=>af2 P t (σ.ev x)
 | .mapUpdate t x k y=>match SF P t,σ.ev x,σ.ev k with
   |some _,.map l,.str s=>yG l s (σ.ev y) σ.heap[l]?
   |_,_,_=>none
 | .insert t x k y=>match SF P t,σ.ev x,σ.ev k with
   |some _,.map l,.str s=>yG l s (σ.ev y) σ.heap[l]?
   |_,_,_=>none
 |_=>none
section sound

def wN(C:o9)(σ:jI)(a:Act)(w:World)(dst:Option Tmp)(r:Result Next)(e:tL):Prop:=
 ∃n v w' φ',r= .ok n w'/\(n= .value v\/(n= .skip/\v=undef))/\lQ C φ' (σ.app dst e) (a.put dst v) w'
def Hz(h:oF C.P t=some (g,n)):(isAgg t).run C.P w= .ok g w/\(sizeOf t).run C.P w= .ok n w:=by
 unfold oF at h;cases hi:C.P.info? t with
 |none=>simp [hi] at h
 |some i=>
  simp only[hi] at h;cases hu:C.P.underlying t with
  |none=>simp [hu] at h
  |some d=>
   simp only[hu] at h;constructor
   ·cases d<;>simp_all [isAgg,run_underlying hu]
   ·simp only[sizeOf,typeInfo];cases d<;>simp_all
def ab8{c:AV}(h:c.scalar=true)(r:nr E c v):v.oneCell'=true:=by
 cases c with
 |any|agg _|EQ _=>simp [AV.scalar] at h
 |bool b|int k n|str s=>simp only[nr] at r;subst r;rfl
 |raw u=>simp only[nr] at r;subst r;exact h
 |lI t sz rows=>obtain⟨_,_,rfl,_⟩:=r;rfl
 |acc l n=>obtain⟨_,⟨_,_,_,rfl⟩,_⟩:=r;rfl
 |own l i n o sz=>obtain⟨_,⟨_,rfl⟩,_⟩:=r;rfl
 |ptr l off=>obtain⟨_,_,_,rfl⟩:=r;rfl
 |map l=>
  obtain⟨_,rfl,_,h2⟩:=r;revert h2;generalize E.φ l=h;intro h2;unfold hdl at h2;split at h2<;>first|rfl|cases h2
 |pp cs=>obtain⟨_,_,rfl,_⟩:=r;rfl
 |func fn f c=>obtain⟨_,_,rfl,_⟩:=r;rfl
 |iface t x=>obtain⟨_,rfl,_⟩:=r;rfl
def aat{E:Env}: ∀{cs:List AV}{vs:List Value},cs.all AV.scalar=true->kf E cs vs-> ∀v∈vs,v.oneCell'=true
 |[],_,_,rfl=>by simp
 |c::cs,_,h,⟨u,us,rfl,r1,r2⟩=>by
  simp only[List.all_cons,aS] at h;intro v hv;simp only[aG] at hv;rcases hv with rfl|hv
  ·exact ab8 h.1 r1
  ·exact aat h.2 r2 v hv
end sound
section sound

def ahH(E:Env)(b off:Nat)(cs:List AV):Prop:= ∃us:List Value,kf E cs us/\ ∀j u,us[j]? =some u->E.w.cell? ⟨b,off+j,none⟩=some u
def Jt{E:Env}{b:Nat}: ∀{cs:List AV}{off:Nat},mE E b off cs->ahH E b off cs
 |[],_,_=>⟨[],rfl,by simp⟩
 |c::cs,off,⟨⟨_,u,hu,_,r⟩,r2⟩=>by
  obtain⟨us,rl,h⟩:=Jt r2;refine⟨u::us,⟨u,us,rfl,r,rl⟩,fun j v hj=> ?_⟩
  grind
def ab9{fr:Nat×Nat}(hh:E.w.heap[b]? =some (.cells c t fr))(r:kf E cs c.toList)(off:Nat):
 ahH E b off (cs.drop off):=
 ⟨c.toList.drop off,r.drop off,fun j u hj=>by
   grind [World.cell?]⟩
theorem add_plain(b off j:Nat):(⟨b,off,none⟩:Addr).add j=⟨b,off+j,none⟩:=by
 unfold Addr.add;split<;>simp_all
theorem adZ{a:Addr}{m:Mode}(h:w.cell? a=some u):(load a m).run P w= .ok u w:=by rw[run_load,h]
def PH(hm:ahH E b off cs)(ha:(isAgg t).run P E.w= .ok g E.w)(hs:(sizeOf t).run P E.w= .ok n E.w)(hl:lG g n cs=some x):
 ∃v,(loadVar t ⟨b,off,none⟩).run P E.w= .ok v E.w/\nr E x v:=by
 obtain⟨us,rl,h⟩:=hm;unfold lG at hl;cases g with
 |true=>
  simp only at hl;split at hl
  ·rename_i hn;cases hl;have hlen:=rl.length;refine⟨.agg (us.take n).toArray,?_,(us.take n).toArray,rfl,by simpa using rl.take n⟩
   have:=run_loadCells_list (P:=P) E.w ⟨b,off,none⟩ (us.take n) (fun j v hj=>by
    grind [add_plain])
   simp_all [loadVar]
  ·cases hl
 |false=>
  simp only at hl;split at hl
  ·rename_i c cs;cases hl;obtain⟨u,us',rfl,r1,_⟩:=rl;have:=h 0 u (by simp)
   grind [loadVar,ai,af,adZ]
  ·cases hl
def DK{xs:List AV}(h:cellsOf x=some xs)(r:nr E x v):kf E xs v.cells.toList/\ ∀u∈v.cells.toList,u.oneCell'=true:=by
 unfold cellsOf at h;split at h
 ·rename_i cs;split at h
  ·rename_i hs;cases h;obtain⟨vs,rfl,rl⟩:=r;exact⟨rl,aat hs rl⟩
  ·cases h
 ·split at h
  ·rename_i hs;cases h;have h1:=ab8 hs r;have:v.cells= #[v]:=by cases v<;>first|rfl|(simp [Value.oneCell'] at h1)
   rw[this];exact⟨⟨v,[],rfl,r,rfl⟩,by simpa using h1⟩
  ·cases h
def PI(E:Env): ∀vs:List Value,kf E (vs.map PD) vs
 |[]=>rfl
 |v::vs=>⟨v,vs,rfl,aeY E v,PI E vs⟩
def Vu(h:n4 P t=some z): ∃v,(zeroValue t).run P w= .ok v w/\(∀E,kf E z v.cells.toList)/\ ∀u∈v.cells.toList,u.oneCell'=true:=by
 unfold n4 at h;cases hi:P.info? t with
 |none=>simp [hi] at h
 |some i=>
  simp only[hi] at h;cases hz:i.zero with
  |none=>simp [hz] at h
  |some v=>
   simp only[hz] at h;split at h
   ·rename_i h1;cases h;exact⟨v,by simp [zeroValue,typeInfo,hi,hz],fun E=>PI E _,bw.1 h1⟩
   ·cases h
def lQ.write(S:lQ C φ σ a w){cs':List AV}{c':Array Value}(hl:σ.heap[l]? =some (.cells cs))(hφ:φ l= .pointer (some ⟨b,0,none⟩))
 (hh:w.heap[b]? =some (.cells c t (0,0))) (hr:kf (C.env φ σ.heap w) cs' c'.toList) (h1: ∀u∈c'.toList,u.oneCell'=true):lQ C φ {σ with heap:=σ.heap.set l (.cells cs')} a (w.setRow b c'):=by
 have hlt:l<σ.heap.length:=(ak.1 hl).1
 have mH: ∀(k:Nat)(x:jS),(σ.heap.set l (.cells cs'))[k]? =some x->(k=l/\x= .cells cs')\/(k≠l/\σ.heap[k]? =some x):=by
  grind
 have Jr: ∀b' o,Dq φ (σ.heap.set l (.cells cs')) b' o->Dq φ σ.heap b' o:=by
  rintro b' o ⟨k,x,hx,hm⟩;rcases mH k x hx with⟨rfl,rfl⟩|⟨_,hx⟩
  ·exact⟨k,_,hl,by rw[hφ] at hm ⊢;exact hm⟩
  ·exact⟨k,x,hx,hm⟩
 have hmb: ∀o,Dq φ σ.heap b o:=fun o=>⟨l,_,hl,by rw[hφ];rfl⟩
 have le:(C.env φ σ.heap w).Le σ.heap.length (C.env φ (σ.heap.set l (.cells cs')) (w.setRow b c')):=by
  refine o9.z8 (by simp) (fun k hk=>⟨rfl,?_⟩) (fun b' o u hm hc=> ?_)
  ·by_cases e:k=l
   ·subst e;rw[aP hlt,hl];rfl
   grind
  grind [cell_setRow_other]
 have Aa:qh C φ (σ.heap.set l (.cells cs')) (w.setRow b c') σ.df a.defers:=by
  refine S.defers.step le (fun b' _ hno=> ?_) (fun k x b' hx hb=> ?_)
  ·refine setRow_other w b b' c' (fun e=> ?_);subst e;exact hno l _ hl (by rw[hφ];rfl)
  ·rcases mH k x hx with⟨rfl,rfl⟩|⟨hne,hx⟩
   ·exact .inl ⟨k,_,hl,by rw[hφ] at hb ⊢;exact hb⟩
   ·exact .inl ⟨k,x,hx,hb⟩
 refine {slots:=kf.mono le _ _ (kf.nb _ _ S.slots) S.slots,defers:=Aa,mV:= ?_,apart:= ?_,rz:= ?_,size:=by simpa using S.size,old:= ?_,mF:= ?_,Bi:= ?_,tX:= ?_,rest:=S.rest,low:=⟨S.low.1,by simpa using S.low.2⟩,names:= ?_}
 ·intro k x hx;rcases mH k x hx with⟨rfl,rfl⟩|⟨hne,hx⟩
  ·exact⟨b,c',t,hφ,setRow_heap w b c c' t _ hh,kf.mono le _ _ (kf.nb _ _ hr) hr,h1⟩
  ·refine mN.mono (S.mV k x hx) le (fun b' hb'=> ?_);refine setRow_other w b b' c' (fun e=> ?_);subst e;exact hne (S.apart k l x _ b' hx hl hb' (by rw[hφ];rfl))
 ·intro k k' x x' b' hx hx' hb hb';rcases mH k x hx with⟨rfl,rfl⟩|⟨hne,hx1⟩<;>rcases mH k' x' hx' with⟨rfl,rfl⟩|⟨akz,LM⟩
  ·rfl
  ·exact S.apart k k' _ x' b' hl LM (by rw[hφ] at hb ⊢;exact hb) hb'
  ·exact S.apart k k' x _ b' hx1 hl hb (by rw[hφ] at hb' ⊢;exact hb')
  ·exact S.apart k k' x x' b' hx1 LM hb hb'
 ·intro k x b' o hx hb;rcases mH k x hx with⟨rfl,rfl⟩|⟨hne,hx⟩
  ·exact S.rz k _ b' o hl (by rw[hφ] at hb ⊢;exact hb)
  ·exact S.rz k x b' o hx hb
 ·intro b' o hb' hm;by_cases e:b'=b
  ·subst e;exact absurd (S.Bi l _ b' o hl (by rw[hφ];rfl) hb') hm
  ·rw[cell_setRow_other w b c' _ e];exact S.old b' o hb' hm
 ·intro b' hb' hm;by_cases e:b'=b
  ·subst e;exact absurd (S.Bi l _ b' 0 hl (by rw[hφ];rfl) hb') (hm 0)
  ·rw[setRow_other w b b' c' e];exact S.mF b' hb' hm
 ·intro k x b' o hx hm hb';rcases mH k x hx with⟨rfl,rfl⟩|⟨hne,hx⟩
  ·exact S.Bi k _ b' o hl (by rw[hφ] at hm ⊢;exact hm) hb'
  ·exact S.Bi k x b' o hx hm hb'
 ·intro x hx;rw[<-S.tX x hx];by_cases e:x.block=b
  ·simp only[World.frozen?];rw[e,setRow_heap w b c c' t _ hh,hh]
  grind [World.frozen?,setRow_other]
 ·intro k hk;have:=S.names k hk;by_cases e:k=l
  ·subst e;rw[aP hlt];rw[hl] at this;exact this
  grind
def ahI(S:lQ C φ σ a w){ys:List AV}(ht:oF C.P t=some (g,n))(hl:σ.heap[l]? =some (.cells cs))
 (hr:kf (C.env φ σ.heap w) ys v.cells.toList) (h1: ∀u∈v.cells.toList,u.oneCell'=true) (hn:ys.length=n) (hoff:off+n<=cs.length) {p:Value}
 (hp:nr (C.env φ σ.heap w) (.ptr l off) p):
 ∃w',(bp t p v).run C.P w= .ok () w'/\lQ C φ {σ with heap:=σ.heap.set l (.cells (tM cs off ys))} a w':=by
 obtain⟨_,b,hφ,rfl⟩:=hp;simp only[o9.env] at hφ;obtain⟨b2,c,t2,hφ2,hh,rl,hone⟩:=S.mV l _ hl;have e:b2=b:=by grind
 subst e;simp only[o9.env] at hh;have hcl:c.size=cs.length:=by have:=rl.length;simpa using this
 have hvl:v.cells.size=n:=by have:=hr.length;simp at this;omega
 have hst:=run_storeCells_at C.P b2 off t2 v.cells.toList 0 c w hh (by simp;omega) h1;refine⟨_,?_,S.write hl hφ hh (c':=(c.toList.take off++v.cells.toList++c.toList.drop (off+v.cells.toList.length)).toArray) ?_ ?_⟩
 ·have hs:=(Hz (C:=C) (w:=w) ht).2
  grind [bp,av,storeVar,ai,af]
 ·have e1:v.cells.toList.length=ys.length:=hr.length;rw[e1];exact((rl.take off).append hr).append (rl.drop _)
 grind
theorem XT(off:Nat): ∀(xs:List Value)(k:Nat)(cs:Array Value),off+k+xs.length<=cs.size->
 (((xs.zipIdx k).foldl (fun cs p=>cs.setIfInBounds (off+p.2) p.1) cs).toList=cs.toList.take (off+k)++xs++cs.toList.drop (off+k+xs.length))
 |[],k,cs,_=>by simp
 |x::xs,k,cs,h=>by
  simp only[List.zipIdx_cons,List.foldl_cons];rw[XT off xs (k+1) _ (by simp at h ⊢;omega)];have e:=list_seg_step cs.toList (off+k) x xs (by simp at h ⊢;omega)
  simp_all [bQ]
def Xh{E:Env}(place:Nat->Option (Nat×Nat)): ∀(ps:List (Nat×AV))(qs:List (Nat×Value))(cs:List AV)(vs:Array Value)(out:List AV),
 kf E cs vs.toList->(∀u∈vs.toList,u.oneCell'=true)->qs.map (·.1)=ps.map (·.1)->kf E (ps.map (·.2)) (qs.map (·.2))->PE place cs ps=some out->
 ∃us,Instr.fill place vs qs=some us/\kf E out us.toList/\ ∀u∈us.toList,u.oneCell'=true
 |[],[],cs,vs,out,r,h1,_,_,h=>by
  simp only[PE] at h;cases h;exact⟨vs,rfl,r,h1⟩
 |[],_::_,_,_,_,_,_,h,_,_=>by simp at h
 |_::_,[],_,_,_,_,_,h,_,_=>by simp at h
 |(i,x)::ps,(j,v)::qs,cs,vs,out,r,h1,hi,hr,h=>by
  simp only[bq,aB] at hi;obtain⟨rfl,hi⟩:=hi;obtain⟨u,us,hus,r1,r2⟩:=hr;simp only[bq,aB] at hus;obtain⟨rfl,rfl⟩:=hus;simp only[PE] at h;split at h
  ·rename_i off size xs hp hx;split at h
   ·rename_i hc;obtain⟨hrl,hone⟩:=DK hx r1;have hlen:=hrl.length;have hcl:=r.length;have hsz:v.cells.size=size:=by simp at hlen;omega
    have hsp:off+v.cells.size<=vs.size:=by simp at hcl;omega
    have hf:=XT off v.cells.toList 0 vs (by simpa using hsp);simp only[Nat.add_zero] at hf
    have avO:(v.cells.zipIdx.foldl (fun cs (c,j)=>cs.setIfInBounds (off+j) c) vs).toList=vs.toList.take off++v.cells.toList++vs.toList.drop (off+v.cells.toList.length):=by
     rw[<-hf,<-Array.foldl_toList];simp
    obtain⟨us',apL,hr',ho'⟩:=Xh place ps qs (tM cs off xs) (v.cells.zipIdx.foldl (fun cs (c,j)=>cs.setIfInBounds (off+j) c) vs) out (by
     rw[avO,hlen];exact((r.take off).append hrl).append (r.drop _)) (by
     grind) hi r2 h
    grind [Instr.fill]
   ·cases h
  ·cases h
theorem ahJ(S:lQ C φ σ a w)(hb:Ab C.P t=true)(hz:n4 C.P t=some z)
 (hf:PE (mO C.P t) z (parts.toList.map fun p=>(p.1,σ.ev p.2))=some cs):
 ∃v,(Instr.build t (parts.map fun(i,x)=>(i,a.eval x))).run C.P w= .ok v w/\nr (C.env φ σ.heap w) (.agg cs) v:=by
 have PJ: ∀ps:List (Nat×Operand),kf (C.env φ σ.heap w) ((ps.map fun p=>(p.1,σ.ev p.2)).map (·.2)) ((ps.map fun p=>(p.1,a.eval p.2)).map (·.2)):=by
  intro ps;induction ps with
  |nil=>rfl
  |cons p ps ih=>exact⟨_,_,rfl,S.ev p.2,ih⟩
 unfold n4 at hz;cases hi:C.P.info? t with
 |none=>simp [hi] at hz
 |some it=>
  simp only[hi] at hz;cases hz0:it.zero with
  |none=>simp [hz0] at hz
  |some zv=>
   simp only[hz0] at hz;split at hz
   case isFalse=>cases hz
   rename_i hone;cases hz;obtain⟨us,hus,hr,_⟩:=Xh (mO C.P t) _ (parts.toList.map fun p=>(p.1,a.eval p.2)) _ zv.cells cs (PI (C.env φ σ.heap w) zv.cells.toList) (bw.1 hone) (by simp) (PJ _) hf;refine⟨.agg us,run_build w t _ us ?_,us,rfl,hr⟩;have asw:(parts.map fun(i,x)=>(i,a.eval x)).toList=parts.toList.map fun p=>(p.1,a.eval p.2):=by simp
   rw[asw];unfold Ab at hb;unfold Program.built;cases hu:C.P.underlying t with
   |none=>simp [Md,hu] at hb
   |some d=>
    cases d<;>try (simp [Md,hu] at hb;done)
    case array n e=>
     cases he:C.P.info? e with
     |none=>simp [Md,hu,he] at hb
     |some ie=>
      have:mO C.P t=fun i=>some (i*ie.size,ie.size):=by grind [mO,Md]
      grind
    case struct fs=>
     cases hp:fs.toList.mapM (fun f=>(C.P.info? f.type).map fun i=>(f.offset,i.size)) with
     |none=>simp [Md,hu,hp] at hb
     |some pl=>
      have:mO C.P t=fun i=>pl.toArray[i]? :=by grind [mO,Md]
      grind
end sound
section sound

def KD {e:TypeId}{sz bytes:Nat}(h:nu P t=some (e,sz,bytes)):P.underlying t=some (.slice e)/\ ∃i,P.info? e=some i/\i.size=sz/\i.bytes=bytes:=by
 grind [nu]
theorem WA(z:List Value): ∀n,(bP (n*z.length)).map (fun i=>z.toArray[i % z.length]!)=(am n z).flatten
 |0=>by simp
 |n+1=>by
  rw[ax,bZ,Nat.add_comm,List.range_add,List.map_append,List.map_map,bU,aC,<-WA z n];congr 1
  ·apply List.ext_getElem?
   grind [Nat.mod_eq_of_lt]
  simp_all
theorem yH{α:Type}{sz:Nat}: ∀{rows:List (List α)},(∀r∈rows,r.length=sz)->rows.flatten.length=rows.length*sz
 |[],_=>by simp
 |r::rows,h=>by
  simp only[aC,List.length_append,a8,ax,bZ];rw[yH (fun q hq=>h q (by simp [hq])),h r (by simp)];omega
theorem aau{sz:Nat}: ∀{rows:List (List AV)}{i:Nat}{xs:List AV},(∀r∈rows,r.length=sz)->i<rows.length->xs.length=sz->
 (rows.set i xs).flatten=tM rows.flatten (i*sz) xs
 |[],_,_,_,h,_=>by simp at h
 |r::rows,0,xs,hl,_,hx=>by
  grind [tM]
 |r::rows,i+1,xs,hl,hi,hx=>by
  have hr:=hl r (by simp);have ih:=aau (rows:=rows) (i:=i) (xs:=xs) (fun q hq=>hl q (bN _ hq)) (by simpa using hi) hx;simp only[List.set_cons_succ,aC,ih,tM];have e1:(i+1)*sz=r.length+i*sz:=by rw[ax,hr];omega
  have e2:(i+1)*sz+xs.length=r.length+(i*sz+xs.length):=by omega
  rw[e2,e1,List.take_length_add_append,List.drop_length_add_append];simp
def aav{sz:Nat}: ∀{ps:List (Nat×AV)}{rows out:List (List AV)},(∀r∈rows,r.length=sz)->rowsOf sz rows ps=some out->
 PE (fun i=>some (i*sz,sz)) rows.flatten ps=some out.flatten/\out.length=rows.length/\ ∀r∈out,r.length=sz
 |[],rows,out,hl,h=>by
  simp only[rowsOf] at h;cases h;exact⟨rfl,rfl,hl⟩
 |(i,x)::ps,rows,out,hl,h=>by
  simp only[rowsOf] at h;split at h
  ·rename_i xs hx;split at h
   ·rename_i hc
    have Kc: ∀r∈rows.set i xs,r.length=sz:=by
     grind
    obtain⟨h1,h2,h3⟩:=aav Kc h;refine⟨?_,by simpa using h2,h3⟩;simp only[PE,hx];have hfl:=yH hl
    have:i*sz+sz<=rows.length*sz:=by
     have:(i+1)*sz<=rows.length*sz:=ar _ hc.1;rw[ax] at this;omega
    grind [aau]
   ·cases h
  ·cases h
theorem Ac{E:Env}{z:List AV}{vs:List Value}(r:kf E z vs): ∀n,kf E (am n z).flatten (am n vs).flatten
 |0=>by simp [kf]
 |n+1=>by
  simp only[bU,aC];exact r.append (Ac r n)
theorem XU(zv:Value)(n sz:Nat)(hz:zv.cells.size=sz):
 ((bo (n*sz)).map (fun i=>(if n*sz=0 then(#[]:Array Value) else zv.cells)[i % (if n*sz=0 then(#[]:Array Value) else zv.cells).size]!)).toList=(am n zv.cells.toList).flatten:=by
 have:=WA zv.cells.toList n;simp only[bj,hz] at this;rw[<-this];by_cases h:n*sz=0
 ·simp [h]
 ·simp [h,hz]
def SH(S:lQ C φ σ a w){e:TypeId}{len sz bytes:Nat}(ht:nu C.P t=some (e,sz,bytes))
 (hz:n4 C.P e=some z) (hl:z.length=sz/\len*sz<=16777216) (hf:rowsOf sz (am len z) (parts.toList.map fun p=>(p.1,σ.ev p.2))=some rows):
 ∃us:Array Value,(aI t len (parts.map fun(i,x)=>(i,a.eval x))).run C.P w= .ok (.slice (some ⟨w.heap.size,0,none⟩) len len) (World.more w (.cells us e))/\
  kf (C.env φ σ.heap w) rows.flatten us.toList/\(∀u∈us.toList,u.oneCell'=true)/\rows.length=len/\(∀r∈rows,r.length=sz)/\us.toList.length=len*sz:=by
 obtain⟨hu,i,hi,rfl,rfl⟩:=KD ht
 have PJ: ∀ps:List (Nat×Operand),kf (C.env φ σ.heap w) ((ps.map fun p=>(p.1,σ.ev p.2)).map (·.2)) ((ps.map fun p=>(p.1,a.eval p.2)).map (·.2)):=by
  intro ps;induction ps with
  |nil=>rfl
  |cons p ps ih=>exact⟨_,_,rfl,S.ev p.2,ih⟩
 obtain⟨zv,hzr,apM,axB⟩:=Vu (w:=w) hz;have hzl:zv.cells.size=i.size:=by have:=(apM (C.env φ σ.heap w)).length;simp at this;omega
 have hrl: ∀r∈am len z,r.length=i.size:=by
  grind
 obtain⟨h1,h2,h3⟩:=aav hrl hf
 have hbase:kf (C.env φ σ.heap w) (am len z).flatten ((bo (len*i.size)).map (fun j=>(if len*i.size=0 then(#[]:Array Value) else zv.cells)[j % (if len*i.size=0 then(#[]:Array Value) else zv.cells).size]!)).toList:=by
  grind [XU,Ac]
 obtain⟨us,hus,hr,hone⟩:=Xh (fun j=>some (j*i.size,i.size)) _ (parts.toList.map fun p=>(p.1,a.eval p.2)) _ _ rows.flatten hbase (by
  grind [XU,List.mem_flatten]) (by simp) (PJ _) h1
 have hlen:rows.length=len:=by simpa using h2
 have apL:us.toList.length=len*i.size:=by
  rw[hr.length,yH h3,hlen]
 refine⟨us,?_,hr,hone,hlen,h3,apL⟩;have asw:(parts.map fun(i,x)=>(i,a.eval x)).toList=parts.toList.map fun p=>(p.1,a.eval p.2):=by simp
 have hsz:(sizeOf e).run C.P w= .ok i.size w:=by simp [sizeOf,typeInfo,hi]
 by_cases h0:len*i.size=0
 ·simp only[h0,jD] at hus;simp only[aI,ai,run_underlying hu,af,hsz,h0,jD,asw];simp only[bF,if_false,gt_iff_lt];simp only[hus,newRow,ai,run_newObj,af,aq];rfl
 ·simp only[h0,if_false] at hus;have hle: ¬ (len*i.size>2 ^ 24):=by omega
  simp only[aI,ai,run_underlying hu,af,hsz,h0,if_false,aq,asw,hle,hzr];simp only[hus,newRow,ai,run_newObj,af,aq];rfl
def Zv(S:lQ C φ σ a w){e:TypeId}{len sz bytes:Nat}(ht:nu C.P t=some (e,sz,bytes))
 (hz:n4 C.P e=some z) (hl:z.length=sz/\len*sz<=16777216) (hf:rowsOf sz (am len z) (parts.toList.map fun p=>(p.1,σ.ev p.2))=some rows):
 ∃v c,(aI t len (parts.map fun(i,x)=>(i,a.eval x))).run C.P w= .ok v (World.more w (.cells c e))/\
  nr (C.env φ σ.heap (World.more w (.cells c e))) (.lI true sz rows) v:=by
 obtain⟨us,hrun,hr,hone,hlen,h3,apL⟩:=SH S ht hz hl hf;refine⟨.slice (some ⟨w.heap.size,0,none⟩) len len,us,hrun,some ⟨w.heap.size,0,none⟩,len,by rw[hlen],by omega,fun _=>hlen.symm,by simp,by simp,?_⟩
 grind [aas]
end sound
section sound

def run_append_fits {u e:TypeId}{i:TypeInfo}{sLen sCap:Nat}{x:Value}(hu:P.underlying t=some (.slice e))(hi:P.info? e=some i)
 (hd:P.underlying u=some d) (hni: ∀k,d≠ .int k) (hlen:(bR x).run P w= .ok n w) (hsrc:(an i.size n x).run P w= .ok us w) (hfit:sLen+n<=sCap):
 (ap #[t,u] ty #[.slice base sLen sCap,x]).run P w=
   (match base with|some a=>(storeCells (a.add (sLen*i.size)) us.toList).run P w|none=> .ok () w).andThen fun _ w'=> .ok (.slice base (sLen+n) sCap) w':=by
 have hsz:(sizeOf e).run P w= .ok i.size w:=by simp [sizeOf,typeInfo,hi]
 cases d<;>try (exact absurd rfl (hni _))
 all_goals
  simp only[ap,bJ,aL,bE,ai,run_underlying hu,run_underlying hd,af,hsz,hlen,hfit,jD,aq,az,if_false,bK,hsrc];cases base with
  |none=>rfl
  |some b=>simp only[ai,aq]
theorem ae5(newLen:Nat): ∀(r c:Nat),256<=c->bL newLen r c<=2 ^ r*c
 |0,c,_=>by simp [bL]
 |r+1,c,h=>by
  unfold bL;split
  ·have:1<=2 ^ (r+1):=Nat.one_le_two_pow
   calc c=1*c:=by omega
    _<=_:=ar _ this
  ·have h1:=ae5 newLen r (c+(c+768) / 4) (by omega);have h2:c+(c+768) / 4<=2*c:=by omega
   calc _<=2 ^ r*(c+(c+768) / 4):=h1
    _<=2 ^ r*(2*c):=Nat.mul_le_mul_left _ h2
    _=2 ^ (r+1)*c:=by grind
def akA{need cap:Nat}(h:cap<need):bf need cap<=16*need:=by
 grind [bf,ae5]
def N4 {u e:TypeId}{i:TypeInfo}{sLen sCap:Nat}{x zv:Value}{old:Array Value}(hu:P.underlying t=some (.slice e))(hi:P.info? e=some i)
 (hd:P.underlying u=some d) (hni: ∀k,d≠ .int k) (hlen:(bR x).run P w= .ok n w) (hsrc: ∀k,(an i.size n x).run P {w with drawn:=k}= .ok us {w with drawn:=k})
 (hold: ∀k,(an i.size sLen (.slice base sLen sCap)).run P {w with drawn:=k}= .ok old {w with drawn:=k}) (hz:i.zero=some zv)
 (azt:sCap<sLen+n) (hroom:(sLen+n)*i.bytes<=2 ^ 44) (hb:0<i.bytes):
 ∃cap,sLen+n<=cap/\(ap #[t,u] ty #[.slice base sLen sCap,x]).run P w=
  .ok (.slice (some ⟨w.heap.size,0,none⟩) (sLen+n) cap) (World.more {w with drawn:=w.drawn+1} (.cells (old++us++bt zv.cells (cap-(sLen+n))) e)):=by
 have hsz: ∀w:World,(sizeOf e).run P w= .ok i.size w:=fun w=>by simp [sizeOf,typeInfo,hi]
 have hti: ∀w:World,(typeInfo e).run P w= .ok i w:=fun w=>by simp [typeInfo,hi]
 have hzv: ∀w:World,(zeroValue e).run P w= .ok zv w:=fun w=>by simp [zeroValue,typeInfo,hi,hz]
 have aAx:sLen+n<=2 ^ 44:=bz (Nat.le_mul_of_pos_right _ hb) hroom
 have hcap: ¬ (bf (sLen+n) sCap*i.bytes>2 ^ 48):=by
  have h1:=ar i.bytes (akA azt);rw[Nat.mul_assoc] at h1;omega
 have hb0:i.bytes≠0:=by omega
 have hfit: ¬ (sLen+n<=sCap):=by omega
 refine⟨(sLen+n)+w.tape w.drawn (.appendCap (sLen+n) sCap e) % (2 ^ 63-(sLen+n)),by omega,?_⟩;cases d<;>try (exact absurd rfl (hni _))
 all_goals
  simp only[ap,bJ,aL,bE,ai,run_underlying hu,run_underlying hd,af,hsz,hlen,hfit,if_false,aq,hti,az,hb0,or_self,and_false,hcap,run_choose,Question.forced,Question.cut,run_askRoom,hold,hsrc,hzv,bK,jD,newRow,run_newObj];rfl
def lQ.akB(S:lQ C φ σ a w){sz:Nat}{qT:Bool}(hl:σ.heap[l]? =some (.acc qT sz rows))(hys:0<ys.length\/h'=φ l)
 (hsize:w.heap.size<=w'.heap.size)
 (hcell: ∀b o,b<w.heap.size-> ¬ (jS.acc qT sz rows).w5 (φ l) b o->w'.cell? ⟨b,o,none⟩=w.cell? ⟨b,o,none⟩)
 (Mc: ∀b,b<w.heap.size-> ¬ (jS.acc qT sz rows).block (φ l) b->w'.heap[b]? =w.heap[b]?)
 (apN: ∀x,w'.frozen? x=w.frozen? x) (qD:w'.output=w.output/\w'.os=w.os)
 (KE: ∀b,(jS.acc qT sz (rows++ys)).block h' b->(jS.acc qT sz rows).block (φ l) b\/w.heap.size<=b)
 (aaw: ∀b o,(jS.acc qT sz (rows++ys)).w5 h' b o->(jS.acc qT sz rows).w5 (φ l) b o\/w.heap.size<=b)
 (Ju: ∀E',(C.env φ σ.heap w).Le σ.heap.length E'->E'.w=w'->mN E' (.acc qT sz (rows++ys)) h'):
 lQ C (fun k=>if k=l then h' else φ k) {σ with heap:=σ.heap.set l (.acc qT sz (rows++ys))} a w':=by
 have hlt:l<σ.heap.length:=(ak.1 hl).1
 let φ':Nat->Value:=fun k=>if k=l then h' else φ k
 have hφl:φ' l=h':=by simp [φ']
 have hφk: ∀k,k≠l->φ' k=φ k:=fun k hk=>by simp [φ',hk]
 have mH: ∀(k:Nat)(x:jS),(σ.heap.set l (.acc qT sz (rows++ys)))[k]? =some x->(k=l/\x= .acc qT sz (rows++ys))\/(k≠l/\σ.heap[k]? =some x):=by
  grind
 have aAG: ∀a,φ l≠ .pointer a:=by
  obtain⟨base,cap,hh,_⟩:=S.mV l _ hl;intro a;rw[hh];simp
 have aAy:hdl (φ l)=none:=by
  obtain⟨base,cap,hh,_⟩:=S.mV l _ hl;rw[hh];rfl
 have Jr: ∀b o,Dq φ' (σ.heap.set l (.acc qT sz (rows++ys))) b o->Dq φ σ.heap b o\/w.heap.size<=b:=by
  rintro b o ⟨k,x,hx,hm⟩;rcases mH k x hx with⟨rfl,rfl⟩|⟨hne,hx⟩
  ·rw[hφl] at hm;exact(aaw b o hm).imp (fun h=>⟨k,_,hl,h⟩) id
  ·rw[hφk k hne] at hm;exact .inl ⟨k,x,hx,hm⟩
 have le:(C.env φ σ.heap w).Le σ.heap.length (C.env φ' (σ.heap.set l (.acc qT sz (rows++ys))) w'):=by
  refine⟨by simp [o9.env],fun k hk=> ?_,fun b o u hm hc=> ?_⟩
  ·grind [o9.env,lr]
  ·have hb:=El hc;simp only[o9.env] at hb hm ⊢;refine⟨fun h=> ?_,?_⟩
   ·grind
   ·rw[hcell b o hb (fun h=>hm (.inl ⟨l,_,hl,h⟩))];exact hc
 have Aa:qh C φ' (σ.heap.set l (.acc qT sz (rows++ys))) w' σ.df a.defers:=by
  refine S.defers.step le (fun b hb hno=>Mc b hb (hno l _ hl)) (fun k x b hx hb=> ?_)
  grind
 refine {slots:=kf.mono le _ _ (kf.nb _ _ S.slots) S.slots,defers:=Aa,mV:= ?_,apart:= ?_,rz:= ?_,size:=bz S.size hsize,old:= ?_,mF:= ?_,Bi:= ?_,tX:=fun x hx=>by rw[apN];exact S.tX x hx,rest:=⟨by rw[qD.1];exact S.rest.1,by rw[qD.2];exact S.rest.2⟩,low:=⟨S.low.1,by simpa using S.low.2⟩,names:= ?_}
 ·intro k x hx;rcases mH k x hx with⟨rfl,rfl⟩|⟨hne,hx⟩
  ·have:=Ju _ le rfl;simpa using this
  ·have r0:=S.mV k x hx
   have:mN (C.env φ' (σ.heap.set l (.acc qT sz (rows++ys))) w') x (φ k):=by
    refine mN.mono r0 le (fun b hb=>Mc b (r0.py hb) (fun h=> ?_));exact hne (S.apart k l x _ b hx hl hb h)
   simpa [hne] using this
 ·intro k k' x x' b hx hx' hb hb';rcases mH k x hx with⟨rfl,rfl⟩|⟨hne,hx1⟩<;>rcases mH k' x' hx' with⟨rfl,rfl⟩|⟨akz,LM⟩
  ·rfl
  ·simp only[jD] at hb;simp only[akz,if_false] at hb';rcases KE b hb with h|h
   ·exact S.apart k k' _ x' b hl LM h hb'
   ·have:=(S.mV k' x' LM).py hb';simp only[o9.env] at this;omega
  ·simp only[jD] at hb';simp only[hne,if_false] at hb;rcases KE b hb' with h|h
   ·exact S.apart k k' x _ b hx1 hl hb h
   ·have:=(S.mV k x hx1).py hb;simp only[o9.env] at this;omega
  ·simp only[hne,akz,if_false] at hb hb';exact S.apart k k' x x' b hx1 LM hb hb'
 ·intro k x b o hx hb;rcases mH k x hx with⟨rfl,rfl⟩|⟨hne,hx1⟩
  ·simp only[jD] at hb;rcases KE b hb with h|h
   ·exact S.rz k _ b o hl h
   ·intro hA;have:=C.hA _ _ hA;have:=S.size;omega
  ·simp only[hne,if_false] at hb;exact S.rz k x b o hx1 hb
 ·intro b o hb hm;rw[hcell b o (ae hb S.size) (fun h=>hm (S.Bi l _ b o hl h hb))];exact S.old b o hb hm
 ·intro b hb hm;rw[Mc b (ae hb S.size) (fun h=> ?_)]
  ·exact S.mF b hb hm
  ·obtain⟨base,cap,hh,_⟩:=S.mV l _ hl;rw[hh] at h;cases base with
   |none=>simp [jS.block] at h
   |some a0=>
    simp only[jS.block] at h;exact hm (a0.off+rows.length*sz) (S.Bi l _ b _ hl (by rw[hh];exact⟨h,fun _=>au _⟩) hb)
 ·intro k x b o hx hm hb;rcases mH k x hx with⟨rfl,rfl⟩|⟨hne,hx1⟩
  ·simp only[jD] at hm;rcases aaw b o hm with h|h
   ·exact S.Bi k _ b o hl h hb
   ·have:=S.size;omega
  ·simp only[hne,if_false] at hm;exact S.Bi k x b o hx1 hm hb
 ·intro k hk;have:=S.names k hk
  grind [lr]
def lQ.PK(S:lQ C φ σ a w){qT:Bool}{sz:Nat}
 (hsize:w.heap.size<=w'.heap.size) (Mc: ∀b,b<w.heap.size->w'.heap[b]? =w.heap[b]?)
 (apN: ∀x,w'.frozen? x=w.frozen? x) (qD:w'.output=w.output/\w'.os=w.os)
 (KE: ∀b,(jS.acc qT sz rows).block h' b->w.heap.size<=b)
 (Ju: ∀E',(C.env φ σ.heap w).Le σ.heap.length E'->E'.w=w'->mN E' (.acc qT sz rows) h'):
 lQ C (fun k=>if k=σ.heap.length then h' else φ k) {σ with heap:=σ.heap++[.acc qT sz rows]} a w':=by
 let φ':Nat->Value:=fun k=>if k=σ.heap.length then h' else φ k
 have hφ: ∀l,l<σ.heap.length->φ' l=φ l:=fun l hl=>by grind
 have mH: ∀(l:Nat)(x:jS),(σ.heap++[.acc qT sz rows])[l]? =some x->(l<σ.heap.length/\σ.heap[l]? =some x)\/(l=σ.heap.length/\x= .acc qT sz rows):=by
  grind
 have hcell: ∀b o,b<w.heap.size->w'.cell? ⟨b,o,none⟩=w.cell? ⟨b,o,none⟩:=by
  grind [World.cell?]
 have Jr: ∀b o,Dq φ' (σ.heap++[.acc qT sz rows]) b o->w.heap.size<=b\/Dq φ σ.heap b o:=by
  rintro b o ⟨l,x,hx,hm⟩;rcases mH l x hx with⟨hl,hx⟩|⟨rfl,rfl⟩
  ·rw[hφ l hl] at hm;exact .inr ⟨l,x,hx,hm⟩
  ·simp only[φ',jD] at hm;exact .inl (KE b (jS.mK hm))
 have le:(C.env φ σ.heap w).Le σ.heap.length (C.env φ' (σ.heap++[.acc qT sz rows]) w'):=by
  refine o9.z8 (by simp) (fun l hl=>⟨hφ l hl,by rw[aw hl]⟩) (fun b i u hm hc=> ?_)
  grind [El]
 have Aa:qh C φ' (σ.heap++[.acc qT sz rows]) w' σ.df a.defers:=by
  refine S.defers.step le (fun b hb _=>Mc b hb) (fun l x b hx hb=> ?_)
  grind
 refine {slots:=kf.mono le _ _ (kf.nb _ _ S.slots) S.slots,defers:=Aa,mV:= ?_,apart:= ?_,rz:= ?_,size:=bz S.size hsize,old:= ?_,mF:= ?_,Bi:= ?_,tX:=fun x hx=>by rw[apN];exact S.tX x hx,rest:=⟨by rw[qD.1];exact S.rest.1,by rw[qD.2];exact S.rest.2⟩,low:=⟨S.low.1,by have:=S.low.2;simp;omega⟩,names:= ?_}
 ·intro l x hx;rcases mH l x hx with⟨hl,hx⟩|⟨rfl,rfl⟩
  ·have r0:=S.mV l x hx;have:mN (C.env φ' (σ.heap++[.acc qT sz rows]) w') x (φ l):=mN.mono r0 le (fun b hb=>Mc b (r0.py hb))
   grind
  ·have:=Ju _ le rfl;simpa using this
 ·intro l l' x x' b hx hx' hb hb';rcases mH l x hx with⟨hl,hx1⟩|⟨rfl,rfl⟩<;>rcases mH l' x' hx' with⟨Kc,LM⟩|⟨rfl,rfl⟩
  ·rw[show(if l=σ.heap.length then _ else φ l)=φ l from hφ l hl] at hb;rw[show(if l'=σ.heap.length then _ else φ l')=φ l' from hφ l' Kc] at hb';exact S.apart l l' x x' b hx1 LM hb hb'
  ·rw[show(if l=σ.heap.length then _ else φ l)=φ l from hφ l hl] at hb;have:=(S.mV l x hx1).py hb
   grind [o9.env]
  ·rw[show(if l'=σ.heap.length then _ else φ l')=φ l' from hφ l' Kc] at hb';have:=(S.mV l' x' LM).py hb'
   grind [o9.env]
  ·rfl
 ·intro l x b o hx hb;rcases mH l x hx with⟨hl,hx1⟩|⟨rfl,rfl⟩
  ·rw[show(if l=σ.heap.length then _ else φ l)=φ l from hφ l hl] at hb;exact S.rz l x b o hx1 hb
  ·simp only[jD] at hb;intro hA;have:=C.hA _ _ hA;have:=KE b hb;have:=S.size;omega
 ·intro b i hb hm;rw[hcell b i (ae hb S.size)];exact S.old b i hb hm
 ·intro b hb hm;rw[Mc b (ae hb S.size)];exact S.mF b hb hm
 ·intro l x b o hx hm hb;rcases mH l x hx with⟨hl,hx1⟩|⟨rfl,rfl⟩
  ·rw[show(if l=σ.heap.length then _ else φ l)=φ l from hφ l hl] at hm;exact S.Bi l x b o hx1 hm hb
  ·simp only[jD] at hm;have:=KE b (jS.mK hm);have:=S.size;omega
 ·intro l hl;have hlt:l<σ.heap.length:=by have:=S.low;omega
  have:=S.names l hl
  grind
end sound
section sound

def SI{E:Env}{sz b:Nat}: ∀{rows:List (List AV)}{off:Nat},mr E sz b off rows->mE E b off rows.flatten/\ ∀r∈rows,r.length=sz
 |[],_,_=>⟨trivial,by simp⟩
 |r::rows,off,⟨h1,h2,h3⟩=>by
  obtain⟨m,hl⟩:=SI h3
  grind [mE.append]
def WB{E:Env}{b:Nat}: ∀{cs:List AV}{off:Nat}{us:List Value},mE E b off cs->kf E cs us->(∀j u,us[j]? =some u->E.w.cell? ⟨b,off+j,none⟩=some u)-> ∀u∈us,u.oneCell'=true
 |[],_,_,_,rfl,_=>by simp
 |c::cs,off,_,⟨⟨_,u,hu,h1,_⟩,r2⟩,⟨u',us,rfl,_,rl⟩,hc=>by
  intro v hv;simp only[aG] at hv;rcases hv with rfl|hv
  ·have:=hc 0 v (by simp)
   grind
  ·exact WB r2 rl (fun j w hj=>by rw[<-hc (j+1) w (by simpa using hj)];congr 2;omega) v hv
def Reads(P:Program)(E:Env)(sz:Nat)(rows:List (List AV))(v:Value):Prop:=
 ∃us:List Value,kf E rows.flatten us/\us.length=rows.length*sz/\(∀r∈rows,r.length=sz)/\(∀u∈us,u.oneCell'=true)/\
  ∀k,(an sz rows.length v).run P {E.w with drawn:=k}= .ok us.toArray {E.w with drawn:=k}
def ae6{sz JP:Nat}{t:Bool}(h:JP=sz\/rows.length=0)(r:nr E (.lI t JP rows) v):Reads P E sz rows v:=by
 obtain⟨base,cap,rfl,h2,h3,h4,h5,h6⟩:=r;cases base with
 |none=>
  have h0:rows.length=0:=by have:=h4 rfl;omega
  have:rows=[]:=ah h0;subst this;exact⟨[],rfl,by simp,by simp,by simp,fun k=>by simp [an]⟩
 |some a=>
  by_cases hr:rows=[]
  ·subst hr;exact⟨[],rfl,by simp,by simp,by simp,fun k=>by simp [an,loadCells,loadCellsFrom]⟩
  ·have hsz:JP=sz:=by
    grind
   subst hsz;obtain⟨m,hl⟩:=SI (h6 a rfl);obtain⟨us,rl,hc⟩:=Jt m;have hone:=WB m rl hc;have hlen:us.length=rows.length*JP:=by rw[rl.length,yH hl]
   refine⟨us,rl,hlen,hl,hone,fun k=> ?_⟩;have hsp:=h5 a rfl hr;have ha:a=⟨a.block,a.off,none⟩:=by cases a;simp_all
   have:=run_loadCells_list (P:=P) {E.w with drawn:=k} a us (fun j v hj=>by
    rw[ha,add_plain];exact hc j v hj)
   grind [an]
def ae7(S:lQ C φ σ a w){sz:Nat}{qT:Bool}(hl:σ.heap[l]? =some (.acc qT sz rows)):Reads P (C.env φ σ.heap w) sz rows (φ l):=by
 obtain⟨base,cap,hh,h2,h3,h4,h5⟩:=S.mV l _ hl;rw[hh];cases base with
 |none=>
  have h0:rows.length=0:=by have:=h3 rfl;omega
  have:rows=[]:=ah h0;subst this;exact⟨[],rfl,by simp,by simp,by simp,fun k=>by simp [an]⟩
 |some b=>
  by_cases hcap:cap=0
  ·have h0:rows.length=0:=by omega
   have:rows=[]:=ah h0;subst this;exact⟨[],rfl,by simp,by simp,by simp,fun k=>by simp [an,loadCells,loadCellsFrom]⟩
  ·obtain⟨hsp,c,t,hc,hsz,rl,hone⟩:=h5 b rfl hcap;have hle:rows.length*sz<=cap*sz:=ar _ h2
   have hlen:((c.toList.drop b.off).take (rows.length*sz)).length=rows.length*sz:=by
    grind
   refine⟨_,rl,hlen,h4,hone,fun k=> ?_⟩;have ha:b=⟨b.block,b.off,none⟩:=by cases b;simp_all
   grind [run_loadCells_list,add_plain,World.cell?,an]
def Ie(_S:lQ C φ σ a w){sz:Nat}{qT:Bool}(hl:σ.heap[l]? =some (.acc qT sz rows))(hn:rows.length=n)
 (r:nr (C.env φ σ.heap w) (.acc l n) v):v=φ l:=by
 obtain⟨_,_,h⟩:=r
 grind [o9.env,lr]
def SJ (S:lQ C φ σ a w){sz:Nat} (hl:σ.heap[l]? =some (.acc true sz rows)):nr (C.env φ σ.heap w) (.lI false sz rows) (φ l):=by
 obtain⟨base,cap,hh,h2,h3,h4,h5⟩:=S.mV l _ hl;refine⟨base,cap,hh,h2,(by intro h;cases h),h3,?_,?_⟩
 ·intro b hb hne;have hc:cap≠0:=fun h0=>hne (ah (by omega))
  exact(h5 b hb hc).1
 ·intro b hb;by_cases hc:cap=0
  ·have:rows=[]:=ah (by omega);subst this;trivial
  ·obtain⟨hsp,c,t,hcb,hsz,rl,hone⟩:=h5 b hb hc;subst hb;have hle:rows.length*sz<=cap*sz:=ar _ h2
   have hnm: ∀o,o<b.off+rows.length*sz-> ¬ (Dq φ σ.heap b.block o\/C.A b.block o):=by
    intro o ho Xf;have hbl:(jS.acc true sz rows).block (φ l) b.block:=by rw[hh];exact⟨rfl,hc⟩
    rcases Xf with⟨l',x,hx,hm⟩|hA
    ·have e:=S.apart l' l x _ b.block hx hl (jS.mK hm) hbl;subst e;rw[hl] at hx;cases hx;rw[hh] at hm;have:=hm.2 rfl;omega
    ·exact S.rz l _ b.block o hl hbl hA
   have key: ∀ (rs:List (List AV)) (off:Nat),(∀r∈rs,r.length=sz)->off+rs.length*sz<=b.off+rows.length*sz->
    kf (C.env φ σ.heap w) rs.flatten ((c.toList.drop off).take (rs.length*sz))->(∀u∈(c.toList.drop off).take (rs.length*sz),u.oneCell'=true)->mr (C.env φ σ.heap w) sz b.block off rs:=by
    have mem: ∀(cs:List AV)(off:Nat),off+cs.length<=b.off+rows.length*sz->kf (C.env φ σ.heap w) cs ((c.toList.drop off).take cs.length)->(∀u∈(c.toList.drop off).take cs.length,u.oneCell'=true)->
     mE (C.env φ σ.heap w) b.block off cs:=by
     intro cs;induction cs with
     |nil=>intro _ _ _ _;trivial
     |cons x cs ih=>
      intro off ho r h1;obtain⟨u,us,hu,r1,r2⟩:=r
      have hcu:c[off]? =some u:=by
       have:(c.toList.drop off)[0]? =some u:=by
        have:=congrArg (fun l:List Value=>l[0]?) hu;simpa using this
       simpa using this
      have htl:us=(c.toList.drop (off+1)).take cs.length:=by
       have h1:=congrArg List.tail hu;simp only[List.tail_cons] at h1;rw[<-h1];cases hd:c.toList.drop off with
       |nil=>rw[hd] at hu;simp at hu
       |cons y ys=>
        grind [bn]
      simp only[a8] at ho;simp only[o9.env] at hcb;refine⟨⟨hnm off (by omega),u,by grind [o9.env,World.cell?],h1 u (by rw[hu];simp),r1⟩,ih (off+1) (by omega) (by rw[<-htl];exact r2) (fun v hv=>h1 v (by rw[hu,htl];simp [hv]))⟩
    intro rs;induction rs with
    |nil=>intro _ _ _ _ _;trivial
    |cons r rs ih=>
     intro off Kc ho h h1;have hr:r.length=sz:=Kc r (by simp);simp only[aC] at h;have h3:=kf.take r.length h;have h2:=kf.drop r.length h;simp only[bc,be,bI,aY,aR] at h3 h2
     have e1:min r.length ((r::rs).length*sz)=r.length:=by
      grind [ax]
     have e2:(r::rs).length*sz-r.length=rs.length*sz:=by grind [ax]
     simp only[a8,ax,bZ] at ho;rw[e1] at h3;rw[e2,hr] at h2;refine⟨hr,mem r off (by omega) h3 (fun u hu=>h1 u ?_),ih (off+sz) (fun q hq=>Kc q (by simp [hq])) (by omega) h2 (fun u hu=>h1 u ?_)⟩
     ·have:(c.toList.drop off).take r.length=((c.toList.drop off).take ((r::rs).length*sz)).take r.length:=by rw[bI,e1]
      grind
     ·have:(c.toList.drop (off+sz)).take (rs.length*sz)=((c.toList.drop off).take ((r::rs).length*sz)).drop sz:=by
       grind [aY,aR]
      grind
   grind
def ad0(S:lQ C φ σ a w){sz:Nat}(h:PF σ sz y=some (rd,ys))(r:nr (C.env φ σ.heap w) y v):
 Reads P (C.env φ σ.heap w) sz ys v/\(bR v).run P w= .ok ys.length w:=by
 unfold PF at h;split at h
 ·split at h
  ·rename_i hc;cases h;refine⟨ae6 hc r,?_⟩;obtain⟨_,_,rfl,_⟩:=r;rfl
  ·cases h
 ·split at h
  ·rename_i hl;split at h
   ·rename_i hc;cases h;have hv:=Ie S hl hc.2 r;subst hv;refine⟨hc.1 ▸ ae7 S hl,?_⟩;obtain⟨base,cap,hh,_⟩:=S.mV _ _ hl;rw[hh];rfl
   ·cases h
  ·cases h
 ·cases h;have r:v=_:=r;subst r;exact⟨⟨[],rfl,by simp,by simp,by simp,fun k=>by rename_i base cap;cases base<;>simp [an,loadCells,loadCellsFrom]⟩,rfl⟩
 ·cases h
theorem SK(z:Array Value)(n:Nat):(bt z n).size=n*z.size:=by simp [bt]
def acd {sz cap:Nat}{e:TypeId}{us:List Value}{zs:Array Value}{qT:Bool}(hrows: ∀r∈rows,r.length=sz)
 (hr:kf E' rows.flatten us) (hone: ∀u∈us,u.oneCell'=true) (hw:E'.w.heap[b]? =some (.cells c e (0,0))) (hc:c.toList=us++zs.toList) (hz:zs.size=(cap-rows.length)*sz) (hle:rows.length<=cap):
 mN E' (.acc qT sz rows) (.slice (some ⟨b,0,none⟩) rows.length cap):=by
 have hus:us.length=rows.length*sz:=by rw[hr.length,yH hrows]
 refine⟨some ⟨b,0,none⟩,cap,rfl,hle,by simp,hrows,fun a ha _=> ?_⟩;simp only[aj] at ha;subst ha;refine⟨rfl,c,e,hw,?_,?_⟩
 ·have:c.size=rows.length*sz+(cap-rows.length)*sz:=by grind [bj]
  rw[this,<-ax]
  grind
 grind
theorem ace(σ:jI)(dst:Option Tmp)(x:AV)(rd:List Nat)(l:Nat)(o:jS)(p:Prop):
 σ.app dst {val:=x,rd,up:=[(l,o)],pre:=p}=jI.put {σ with heap:=σ.heap.set l o} dst x:=by
 cases dst<;>simp [jI.app,lu,jI.put]
theorem Zw(σ:jI)(dst:Option Tmp)(x:AV)(rd:List Nat)(o:jS)(p:Prop):
 σ.app dst {val:=x,rd,nw:=[o],pre:=p}=jI.put {σ with heap:=σ.heap++[o]} dst x:=by
 cases dst<;>simp [jI.app,lu,jI.put]
def af3 (S:lQ C φ σ a w){u e:TypeId} {sz bytes:Nat} {vx vy:Value} (ht:nu C.P t=some (e,sz,bytes)) (hu:nM C.P u=true)
 (hz:n4 C.P e=some z) (hzl:z.length=sz/\0<sz/\0<bytes) {im:Bool} (h:N3 im σ sz bytes x y=some ef) (hp:ef.pre)
 (rx:nr (C.env φ σ.heap w) x vx) (ry:nr (C.env φ σ.heap w) y vy):
 ∃v w' φ',(ap #[t,u] ty #[vx,vy]).run C.P w= .ok v w'/\lQ C φ' (σ.app dst ef) (a.put dst v) w':=by
 obtain⟨hut,i,hi,rfl,rfl⟩:=KD ht
 obtain⟨d,hd,hni⟩: ∃d,C.P.underlying u=some d/\ ∀k,d≠ .int k:=by
  grind [nM]
 obtain⟨zv,hzi,hzs⟩: ∃zv,i.zero=some zv/\zv.cells.size=i.size:=by
  grind [n4]
 unfold N3 at h;split at h
 ·cases h
 rename_i rd ys hsrc;obtain⟨⟨us,rus,lus,axC,amT,asx⟩,ahK⟩:=ad0 (P:=C.P) S hsrc ry;simp only[o9.env] at asx;have apO:(an i.size ys.length vy).run C.P w= .ok us.toArray w:=asx w.drawn;split at h
 ·
  rename_i l n;split at h
  ·rename_i qT JP rows hl;split at h
   ·rename_i hc;obtain⟨rfl,hn⟩:=hc;cases h;simp only at hp;have hvx:=Ie S hl hn rx;subst hvx;obtain⟨base,cap,hh,h2,h3,h4,h5⟩:=S.mV l _ hl
    have hrows: ∀r∈rows++ys,r.length=i.size:=by
     grind
    have hlt:l<σ.heap.length:=(ak.1 hl).1
    have fin: ∀{h':Value}{w':World},(∃b m c,h'= .slice b m c)->(ap #[t,u] ty #[φ l,vy]).run C.P w= .ok h' w'->
     lQ C (fun k=>if k=l then h' else φ k) {σ with heap:=σ.heap.set l (.acc qT i.size (rows++ys))} a w'->
     ∃v w' φ',(ap #[t,u] ty #[φ l,vy]).run C.P w= .ok v w'/\
      lQ C φ' (σ.app dst {val:= .acc l (rows++ys).length,rd:=l::rd,up:=[(l,.acc qT i.size (rows++ys))],pre:=room (rows.length+ys.length) i.bytes}) (a.put dst v) w':=by
     intro h' w' XQ hrun hS;refine⟨h',w',(fun k=>if k=l then h' else φ k),hrun,?_⟩
     have:=hS.put dst (x:= .acc l (rows++ys).length) (v:=h') ⟨by simpa [o9.env] using hlt,XQ,fun k hk=>by
      grind [o9.env,lr]⟩
     rw[ace];exact this
    by_cases hfit:rows.length+ys.length<=cap
    ·have hrun:=run_append_fits (w:=w) (ty:=ty) (base:=base) (sLen:=rows.length) (sCap:=cap) hut hi hd hni ahK apO hfit;by_cases hcap:cap=0
     ·
      have hr0:rows=[]:=ah (by omega);have hy0:ys=[]:=ah (by omega);subst hr0 hy0;have hu0:us=[]:=by simpa using lus
      subst hu0;rw[<-hh] at hrun
      have acf:(ap #[t,u] ty #[φ l,vy]).run C.P w= .ok (φ l) w:=by
       rw[hrun,hh];cases base<;>simp [storeCells]
      refine fin ⟨_,_,_,hh⟩ acf (S.akB hl (.inr rfl) (au _) (fun _ _ _ _=>rfl) (fun _ _ _=>rfl) (fun _=>rfl) ⟨rfl,rfl⟩ (fun b hb=> .inl (by simpa using hb)) (fun b o hm=> .inl (by simpa using hm)) ?_);intro E' hle hw;rw[hh];exact⟨base,cap,by simp,by simp,h3,by simp,fun b hb hc=>absurd hcap hc⟩
     ·cases base with
      |none=>exact absurd (h3 rfl) hcap
      |some b=>
       obtain⟨hsp,c,tc,hcb,hsz,rl,axD⟩:=h5 b rfl hcap;simp only[o9.env] at hcb;have hb:b=⟨b.block,b.off,none⟩:=by cases b;simp_all
       have e1:(rows.length+ys.length)*i.size<=cap*i.size:=ar _ hfit;have e2:(rows.length+ys.length)*i.size=rows.length*i.size+ys.length*i.size:=ax ..
       have hst:=run_storeCells_at C.P b.block (b.off+rows.length*i.size) tc us 0 c w hcb (by omega) amT;simp only[Nat.add_zero] at hst
       let c':Array Value:=(c.toList.take (b.off+rows.length*i.size)++us++c.toList.drop (b.off+rows.length*i.size+us.length)).toArray
       have acf:(ap #[t,u] ty #[φ l,vy]).run C.P w= .ok (.slice (some b) (rows.length+ys.length) cap) (w.setRow b.block c'):=by
        grind [add_plain,af]
       have asy: ∀o,o<b.off+rows.length*i.size->c'[o]? =c[o]? :=by
        grind [aw]
       refine fin ⟨_,_,_,rfl⟩ acf (S.akB hl ?_ (by simp) ?_ ?_ ?_ ⟨rfl,rfl⟩ ?_ ?_ ?_)
       ·grind
       ·intro b' o hb' hm;by_cases e:b'=b.block
        ·subst e;simp only[World.cell?];rw[setRow_heap w b.block c c' tc _ hcb,hcb];simp only[bX,az,if_false];apply asy;rw[hh] at hm;cases qT with
         |false=>exact absurd ⟨⟨rfl,hcap⟩,fun h=>by cases h⟩ hm
         |true=>
          by_cases ho:o<b.off+rows.length*i.size
          ·exact ho
          ·exact absurd ⟨⟨rfl,hcap⟩,fun _=>by omega⟩ hm
        grind [cell_setRow_other]
       ·intro b' hb' hbl;rw[hh] at hbl;exact setRow_other w b.block b' c' (fun e=>hbl ⟨e,hcap⟩)
       ·intro x;by_cases e:x.block=b.block
        ·simp only[World.frozen?];rw[e,setRow_heap w b.block c c' tc _ hcb,hcb]
        grind [World.frozen?,setRow_other]
       ·intro b' hb';left;rw[hh];exact hb'
       ·intro b' o hm;left;rw[hh];refine⟨hm.1,fun hi'=> ?_⟩;have:=hm.2 hi';omega
       ·intro E' hle hw;refine⟨some b,cap,by simp,by simpa using hfit,by simp,hrows,fun b0 hb0 _=> ?_⟩;simp only[aj] at hb0;subst hb0;refine⟨hsp,c',tc,by rw[hw];exact setRow_heap w b.block c c' tc _ hcb,?_,?_⟩
        ·have:c'.size=c.size:=by simp [c'];omega
         omega
        ·have rl':=kf.mono hle _ _ (kf.nb _ _ rl) rl;have ru':=kf.mono hle _ _ (kf.nb _ _ rus) rus;have:=rl'.append ru';rw[bl]
         have e3:(c'.toList.drop b.off).take ((rows++ys).length*i.size)=(c.toList.drop b.off).take (rows.length*i.size)++us:=by
          have hcl:b.off+rows.length*i.size<=c.toList.length:=by simp;omega
          have e4:c'.toList=c.toList.take b.off++((c.toList.drop b.off).take (rows.length*i.size)++(us++c.toList.drop (b.off+rows.length*i.size+us.length))):=by
           simp only[c',aQ];rw[<-aQ (c.toList.take b.off),<-bS]
          rw[e4,bi (by simp;omega),aY];simp only[bY,List.take_zero,List.nil_append];rw[<-aQ];apply bc;simp only[List.length_append,bA,List.length_drop,lus,ax];omega
         rw[e3];exact⟨this,fun v hv=>(aF.1 hv).elim (axD v) (amT v)⟩
    ·
     have hold:=(ae7 (P:=C.P) S hl);obtain⟨os,ros,los,_,apP,anU⟩:=hold;rw[hh] at anU;simp only[o9.env] at anU;obtain⟨azu,hle,hrun⟩:=N4 (w:=w) (ty:=ty) hut hi hd hni ahK asx anU hzi (by omega) hp hzl.2.2;rw[<-hh] at hrun;refine fin ⟨_,_,_,rfl⟩ hrun (S.akB hl (.inl (by omega)) (by simp) ?_ ?_ ?_ ⟨rfl,rfl⟩ ?_ ?_ ?_)
     ·intro b o hb _;exact Bf {w with drawn:=w.drawn+1} _ hb
     ·intro b hb _;exact vT {w with drawn:=w.drawn+1} _ hb
     ·intro x;rw[tg {w with drawn:=w.drawn+1} _ (by intro c' t' lo hi h;cases h;exact⟨rfl,rfl⟩)];rfl
     ·intro b hb;right;have:b=w.heap.size:=hb.1;omega
     ·intro b o hm;right;have:b=w.heap.size:=hm.1.1;omega
     ·intro E' hle' hw;have ro':=kf.mono hle' _ _ (kf.nb _ _ ros) ros;have ru':=kf.mono hle' _ _ (kf.nb _ _ rus) rus;have hll:(rows++ys).length=rows.length+ys.length:=by simp
      rw[<-hll];refine acd (us:=os++us) hrows (by rw[bl];exact ro'.append ru') (fun v hv=>(aF.1 hv).elim (apP v) (amT v)) (by rw[hw];exact FC {w with drawn:=w.drawn+1} _) (by simp;rfl) ?_ (by omega);rw[SK,hzs,hll]
   ·cases h
  ·cases h
 ·
  rename_i JP rows;split at h
  ·rename_i hc;split at h
   case isFalse hne=>
    cases h;have hy0:ys=[]:=ah (by omega);subst hy0;have hu0:us=[]:=by simpa using lus
    subst hu0;obtain⟨base,cap,rfl,h2,h3,h4,h5,h6⟩:=id rx;have hcap:=h3 rfl;subst hcap;have hrun:=run_append_fits (w:=w) (ty:=ty) (base:=base) (sLen:=rows.length) (sCap:=rows.length) hut hi hd hni ahK apO (by simp)
    have acf:(ap #[t,u] ty #[.slice base rows.length rows.length,vy]).run C.P w= .ok (.slice base rows.length rows.length) w:=by
     rw[hrun];cases base<;>simp [storeCells]
    refine⟨_,w,φ,acf,?_⟩;have:=S.put dst rx;simpa [jI.app,lu,jI.put] using (by cases dst<;>simpa [jI.put] using this)
   rename_i hne;cases h;have hroom:=hp;obtain⟨os,ros,los,axE,apP,anU⟩:=ae6 (P:=C.P) hc rx;obtain⟨base,cap,rfl,h2,h3,h4,h5,h6⟩:=rx;have hcap:=h3 rfl;subst hcap;simp only[o9.env] at anU
   have hrows: ∀r∈rows++ys,r.length=i.size:=by
    intro r hr;rcases aF.1 hr with hr|hr
    ·exact axE r hr
    ·exact axC r hr
   have fin: ∀{h':Value}{w':World},(∃b m c,h'= .slice b m c)->(ap #[t,u] ty #[.slice base rows.length rows.length,vy]).run C.P w= .ok h' w'->
    lQ C (fun k=>if k=σ.heap.length then h' else φ k) {σ with heap:=σ.heap++[.acc im i.size (rows++ys)]} a w'->
    ∃v w' φ',(ap #[t,u] ty #[.slice base rows.length rows.length,vy]).run C.P w= .ok v w'/\
     lQ C φ' (σ.app dst {val:= .acc σ.heap.length (rows++ys).length,rd:=rd,nw:=[.acc im i.size (rows++ys)],pre:=room (rows.length+ys.length) i.bytes}) (a.put dst v) w':=by
    intro h' w' XQ hrun hS;refine⟨h',w',(fun k=>if k=σ.heap.length then h' else φ k),hrun,?_⟩
    have:=hS.put dst (x:= .acc σ.heap.length (rows++ys).length) (v:=h') ⟨by simp [o9.env],XQ,fun k hk=>by
     simp only[o9.env,br (au _),bY,aL,lr,aj] at hk;exact⟨by omega,fun _=>by simp [o9.env]⟩⟩
    rw[Zw];exact this
   by_cases hfit:rows.length+ys.length<=rows.length
   ·have hy0:ys=[]:=ah (by omega);subst hy0
    have hr0:rows=[]:=by
     rcases hne with h|h
     ·exact ah h
     ·simp at h
    subst hr0;have hu0:us=[]:=by simpa using lus
    subst hu0;have hrun:=run_append_fits (w:=w) (ty:=ty) (base:=base) (sLen:=0) (sCap:=0) hut hi hd hni ahK apO (by simp)
    have acf:(ap #[t,u] ty #[.slice base 0 0,vy]).run C.P w= .ok (.slice base 0 0) w:=by
     rw[hrun];cases base<;>simp [storeCells]
    refine fin ⟨_,_,_,rfl⟩ acf (S.PK (au _) (fun _ _=>rfl) (fun _=>rfl) ⟨rfl,rfl⟩ ?_ ?_)
    ·intro b hb;cases base<;>simp [jS.block] at hb
    ·intro E' _ _;exact⟨base,0,rfl,by simp,fun _=>rfl,by simp,fun b _ h0=>absurd rfl h0⟩
   ·obtain⟨azu,hle,hrun⟩:=N4 (w:=w) (ty:=ty) hut hi hd hni ahK asx anU hzi (by omega) hroom hzl.2.2;refine fin ⟨_,_,_,rfl⟩ hrun (S.PK (by simp) ?_ ?_ ⟨rfl,rfl⟩ ?_ ?_)
    ·intro b hb;exact vT {w with drawn:=w.drawn+1} _ hb
    ·intro x;rw[tg {w with drawn:=w.drawn+1} _ (by intro c' t' lo hi h;cases h;exact⟨rfl,rfl⟩)];rfl
    ·intro b hb;have:b=w.heap.size:=hb.1;omega
    ·intro E' hle' hw;have ro':=kf.mono hle' _ _ (kf.nb _ _ ros) ros;have ru':=kf.mono hle' _ _ (kf.nb _ _ rus) rus;have hll:(rows++ys).length=rows.length+ys.length:=by simp
     rw[<-hll];refine acd (us:=os++us) hrows (by rw[bl];exact ro'.append ru') (fun v hv=>(aF.1 hv).elim (apP v) (amT v)) (by rw[hw];exact FC {w with drawn:=w.drawn+1} _) (by simp;rfl) ?_ (by omega);rw[SK,hzs,hll]
  ·cases h
 ·cases h
end sound
section sound

theorem FD(σ:jI)(dst:Option Tmp)(x:AV)(rd:List Nat)(p:Prop):σ.app dst {val:=x,rd,pre:=p}=σ.put dst x:=by
 cases dst<;>simp [jI.app,lu,jI.put]
theorem kN(S:lQ C φ σ a w){m:Sem Value}(h: ∃v,m.run C.P w= .ok v w/\nr (C.env φ σ.heap w) x v):
 wN C σ a w dst ((do pure (.value (<-m)):Sem Next).run C.P w) {val:=x,rd,pre:=p}:=by
 obtain⟨v,hr,Vv⟩:=h;refine⟨.value v,v,w,φ,by simp [hr],.inl rfl,?_⟩;rw[FD];exact S.put dst Vv
def amU {u:TypeId}{o:Nat}(h:vU P t i=some (o,u)): ∃fs f j,P.underlying t=some (.struct fs)/\fs[i]? =some f/\P.info? f.type=some j/\j.size≠0/\f.offset=o/\f.type=u:=by
 grind [vU]
def lQ.apQ(S:lQ C φ σ a w){cap sz:Nat}{tV:List (List AV)}{c':Array Value}(hl:σ.heap[l]? =some (.acc false sz rows))(hφ:φ l= .slice (some ⟨b,off,none⟩) rows.length cap)(hcap:cap≠0)
 (hle:rows.length<=cap) (hlen:tV.length=rows.length) (hh:w.heap[b]? =some (.cells c t (0,0))) (hsz: ∀r∈tV,r.length=sz) (hfit:off+cap*sz<=c'.size)
 (hr:kf (C.env φ σ.heap w) tV.flatten ((c'.toList.drop off).take (tV.length*sz))) (h1: ∀u∈(c'.toList.drop off).take (tV.length*sz),u.oneCell'=true):
 lQ C φ {σ with heap:=σ.heap.set l (.acc false sz tV)} a (w.setRow b c'):=by
 have hlt:l<σ.heap.length:=(ak.1 hl).1
 have mH: ∀(k:Nat)(x:jS),(σ.heap.set l (.acc false sz tV))[k]? =some x->(k=l/\x= .acc false sz tV)\/(k≠l/\σ.heap[k]? =some x):=by
  grind
 have aaw: ∀b' o,(jS.acc false sz tV).w5 (φ l) b' o->(jS.acc false sz rows).w5 (φ l) b' o:=by
  intro b' o hm;rw[hφ] at hm ⊢;exact⟨hm.1,fun h=>by cases h⟩
 have Hw: ∀b',(jS.acc false sz tV).block (φ l) b'->(jS.acc false sz rows).block (φ l) b':=by
  intro b' hm;rw[hφ] at hm ⊢;exact hm
 have hmb: ∀o,(jS.acc false sz rows).w5 (φ l) b o:=by
  intro o;rw[hφ];exact⟨⟨rfl,hcap⟩,fun h=>by cases h⟩
 have hbb:(jS.acc false sz rows).block (φ l) b:=by rw[hφ];exact⟨rfl,hcap⟩
 have Jr: ∀b' o,Dq φ (σ.heap.set l (.acc false sz tV)) b' o->Dq φ σ.heap b' o:=by
  rintro b' o ⟨k,x,hx,hm⟩;rcases mH k x hx with⟨e,rfl⟩|⟨_,hx⟩
  ·rw[e] at hm;exact⟨l,_,hl,aaw b' o hm⟩
  ·exact⟨k,x,hx,hm⟩
 have ahL: ∀k:Nat,lr (σ.heap.set l (.acc false sz tV))[k]? =lr σ.heap[k]? :=by
  grind [lr]
 have le:(C.env φ σ.heap w).Le σ.heap.length (C.env φ (σ.heap.set l (.acc false sz tV)) (w.setRow b c')):=by
  refine o9.z8 (by simp) (fun k _=>⟨rfl,ahL k⟩) (fun b' o u hm hc=> ?_);have hne:b'≠b:=fun e=>hm (.inl (e ▸ ⟨l,_,hl,hmb o⟩))
  grind [cell_setRow_other]
 have Aa:qh C φ (σ.heap.set l (.acc false sz tV)) (w.setRow b c') σ.df a.defers:=by
  refine S.defers.step le (fun b' _ hno=> ?_) (fun k x b' hx hb=> ?_)
  all_goals grind [setRow_other]
 refine {slots:=kf.mono le _ _ (kf.nb _ _ S.slots) S.slots,defers:=Aa,mV:= ?_,apart:= ?_,rz:= ?_,size:=by simpa using S.size,old:= ?_,mF:= ?_,Bi:= ?_,tX:= ?_,rest:=S.rest,low:=⟨S.low.1,by simpa using S.low.2⟩,names:= ?_}
 ·intro k x hx;rcases mH k x hx with⟨e,rfl⟩|⟨hne,hx⟩
  ·rw[e];refine⟨some ⟨b,off,none⟩,cap,by rw[hlen];exact hφ,by rw[hlen];exact hle,by simp,hsz,?_⟩;intro a0 ha _;simp only[aj] at ha;subst ha;exact⟨rfl,c',t,setRow_heap w b c c' t _ hh,hfit,kf.mono le _ _ (kf.nb _ _ hr) hr,h1⟩
  ·refine mN.mono (S.mV k x hx) le (fun b' hb'=> ?_);refine setRow_other w b b' c' (fun e=> ?_);subst e;exact hne (S.apart k l x _ b' hx hl hb' hbb)
 ·intro k k' x x' b' hx hx' hb hb';rcases mH k x hx with⟨e1,rfl⟩|⟨hne,hx1⟩<;>rcases mH k' x' hx' with⟨e2,rfl⟩|⟨akz,LM⟩
  ·rw[e1,e2]
  ·rw[e1] at hb ⊢;exact S.apart l k' _ x' b' hl LM (Hw b' hb) hb'
  ·rw[e2] at hb' ⊢;exact S.apart k l x _ b' hx1 hl hb (Hw b' hb')
  ·exact S.apart k k' x x' b' hx1 LM hb hb'
 ·intro k x b' o hx hb;rcases mH k x hx with⟨e,rfl⟩|⟨hne,hx⟩
  ·rw[e] at hb;exact S.rz l _ b' o hl (Hw b' hb)
  ·exact S.rz k x b' o hx hb
 ·intro b' o hb' hm;by_cases e:b'=b
  ·subst e;exact absurd (S.Bi l _ b' o hl (hmb o) hb') hm
  ·rw[cell_setRow_other w b c' _ e];exact S.old b' o hb' hm
 ·intro b' hb' hm;by_cases e:b'=b
  ·subst e;exact absurd (S.Bi l _ b' 0 hl (hmb 0) hb') (hm 0)
  ·rw[setRow_other w b b' c' e];exact S.mF b' hb' hm
 ·intro k x b' o hx hm hb';rcases mH k x hx with⟨e,rfl⟩|⟨hne,hx⟩
  ·rw[e] at hm;exact S.Bi l _ b' o hl (aaw b' o hm) hb'
  ·exact S.Bi k x b' o hx hm hb'
 ·intro x hx;rw[<-S.tX x hx];by_cases e:x.block=b
  ·simp only[World.frozen?];rw[e,setRow_heap w b c c' t _ hh,hh]
  grind [World.frozen?,setRow_other]
 ·intro k hk;have:=S.names k hk
  grind
def apR(S:lQ C φ σ a w){o sz:Nat}(hl:σ.heap[l]? =some (.acc false sz rows))(hn:rows.length=n)(hi:rows[i]? =some r)
 (rv:nr (C.env φ σ.heap w) (.own l i n o sz) v): ∃b off cap c t,φ l= .slice (some ⟨b,off,none⟩) rows.length cap/\cap≠0/\rows.length<=cap/\v= .pointer (some ⟨b,off+i*sz+o,none⟩)/\w.heap[b]? =some (.cells c t (0,0))/\
   off+cap*sz<=c.size/\(∀q∈rows,q.length=sz)/\kf (C.env φ σ.heap w) rows.flatten ((c.toList.drop off).take (rows.length*sz))/\ ∀u∈(c.toList.drop off).take (rows.length*sz),u.oneCell'=true:=by
 obtain⟨_,_,h⟩:=rv;obtain⟨b,off,m,cp,hφ,hv⟩:=(h rows.length (by simp [o9.env,hl,lr])).2 hn.symm;obtain⟨base,cap,hh,h2,h3,h4,h5⟩:=S.mV l _ hl;simp only[o9.env] at hφ;rw[hh] at hφ;simp only[Value.slice.injEq] at hφ;obtain⟨hb,_,_⟩:=hφ;subst hb;have hlt:i<rows.length:=(ak.1 hi).1;have hcap:cap≠0:=by omega
 obtain⟨_,c,t,h6,h7,h8,h9⟩:=h5 _ rfl hcap;exact⟨b,off,cap,c,t,hh,hcap,h2,hv,h6,h7,h4,h8,h9⟩
theorem SL{sz:Nat}: ∀{rows:List (List AV)}{i:Nat}{r:List AV},(∀q∈rows,q.length=sz)->rows[i]? =some r->rows.flatten.drop (i*sz)=r++(rows.drop (i+1)).flatten
 |q::rows,0,r,_,h=>by simp at h;subst h;simp
 |q::rows,i+1,r,hl,h=>by
  simp at h;have hq:q.length=sz:=hl q (by simp);have:=SL (fun p hp=>hl p (by simp [hp])) h
  grind [ax,List.drop_append,Nat.add_sub_cancel_left,bH]
theorem apS(S:lQ C φ σ a w){k o sz:Nat}(ht:oF C.P t=some (g,k))(hl:σ.heap[l]? =some (.acc false sz rows))(hn:rows.length=n)
 (hi:rows[i]? =some r) (hx:lG g k (r.drop o)=some x) (rv:nr (C.env φ σ.heap w) (.own l i n o sz) v): ∃u,(aJ t v).run C.P w= .ok u w/\nr (C.env φ σ.heap w) x u:=by
 obtain⟨b,off,cap,c,t2,hφ,hcap,hle,rfl,hh,hfit,hsz,rl,_⟩:=apR S hl hn hi rv;have hrl:=rl.drop (i*sz);rw[SL hsz hi] at hrl;have hr:=hrl.take r.length;rw[bc rfl] at hr;have hr2:=hr.drop o;have hi':=Hz (C:=C) (w:=w) ht
 have hm:ahH (C.env φ σ.heap w) b (off+i*sz+o) (r.drop o):=by
  refine⟨_,hr2,fun j u hj=> ?_⟩
  grind [o9.env,World.cell?]
 obtain⟨u,hu,ru⟩:=PH (P:=C.P) (t:=t) hm hi'.1 hi'.2 hx
 grind [aJ,av,o9.env]
theorem Rd{sz:Nat}: ∀{rows:List (List AV)}{i:Nat}{r q:List AV},(∀p∈rows,p.length=sz)->rows[i]? =some r->q.length=sz->
 (rows.set i q).flatten=rows.flatten.take (i*sz)++q++rows.flatten.drop (i*sz+sz)
 |p::rows,0,r,q,hl,h,hq=>by
  grind
 |p::rows,i+1,r,q,hl,h,hq=>by
  simp at h;have hp:p.length=sz:=hl p (by simp);have ih:=Rd (q:=q) (fun p hp=>hl p (by simp [hp])) h hq;simp only[List.set_cons_succ,aC,ih]
  grind [ax,List.take_append,List.drop_append,bH]
def avP{L V:List α}{p k:Nat}(hV:V.length=k)(h:p+k<=n)(hL:off+n<=L.length):
 ((L.take (off+p)++V++L.drop (off+p+k)).drop off).take n=((L.drop off).take n).take p++V++((L.drop off).take n).drop (p+k):=by
 have e1:L.take (off+p)=L.take off++(L.drop off).take p:=by rw[bS]
 have e2:L.drop (off+p+k)=(L.drop off).drop (p+k):=by rw[aR,bQ]
 have hA:(L.take off).length=off:=by rw[bA];omega
 have hB:((L.drop off).take p).length=p:=by grind
 rw[e1,e2,aQ,aQ,be hA]
 grind [aY,List.take_append,List.take_of_length_le]
def anV(S:lQ C φ σ a w){o k sz:Nat}{ys:List AV}{p:Value}(ht:oF C.P t=some (g,k))(hl:σ.heap[l]? =some (.acc false sz rows))(hn:rows.length=n)
 (hi:rows[i]? =some r) (hr:kf (C.env φ σ.heap w) ys v.cells.toList) (h1: ∀u∈v.cells.toList,u.oneCell'=true) (hk:ys.length=k) (hoff:o+k<=sz) (hp:nr (C.env φ σ.heap w) (.own l i n o sz) p):
 ∃w',(bp t p v).run C.P w= .ok () w'/\lQ C φ {σ with heap:=σ.heap.set l (.acc false sz (rows.set i (tM r o ys)))} a w':=by
 obtain⟨b,off,cap,c,t2,hφ,hcap,hle,rfl,hh,hfit,hsz,rl,hone⟩:=apR S hl hn hi hp;have hlt:i<rows.length:=(ak.1 hi).1;have hrl:r.length=sz:=hsz r (bO hi);have hvl:v.cells.size=k:=by have:=hr.length;simp at this;omega
 have hmul:i*sz+sz<=rows.length*sz:=by
  have:(i+1)*sz<=rows.length*sz:=ar _ hlt
  grind
 have aAz:rows.length*sz<=cap*sz:=ar _ hle;have hst:=run_storeCells_at C.P b (off+i*sz+o) t2 v.cells.toList 0 c w hh (by simp;omega) h1
 have avO:(tM r o ys).length=sz:=by
  grind [tM]
 have hfl:rows.flatten.length=rows.length*sz:=yH hsz
 have axF:(rows.set i (tM r o ys)).flatten=rows.flatten.take (i*sz+o)++ys++rows.flatten.drop (i*sz+o+k):=by
  rw[Rd hsz hi avO];have hd:=SL hsz hi
  have e1:rows.flatten.take (i*sz+o)=rows.flatten.take (i*sz)++r.take o:=by
   rw[bS,hd,List.take_append_of_le_length (by omega)]
  have e2:rows.flatten.drop (i*sz+o+k)=r.drop (o+k)++rows.flatten.drop (i*sz+sz):=by
   have e3:rows.flatten.drop (i*sz+sz)=(rows.drop (i+1)).flatten:=by
    rw[<-aR,hd,<-hrl,be];rfl
   rw[e3,bQ,<-aR,hd,bi (by omega)]
  grind [tM]
 let c':Array Value:=(c.toList.take (off+i*sz+o)++v.cells.toList++c.toList.drop (off+i*sz+o+v.cells.toList.length)).toArray
 have hc':c'.toList=c.toList.take (off+i*sz+o)++v.cells.toList++c.toList.drop (off+i*sz+o+k):=by
  grind
 have hcs:c'.size=c.size:=by
  grind
 have azv:(c'.toList.drop off).take (rows.length*sz)=((c.toList.drop off).take (rows.length*sz)).take (i*sz+o)++v.cells.toList++((c.toList.drop off).take (rows.length*sz)).drop (i*sz+o+k):=by
  rw[hc'];have hcl:c.toList.length=c.size:=by simp
  have:=avP (L:=c.toList) (V:=v.cells.toList) (off:=off) (p:=i*sz+o) (k:=k) (n:=rows.length*sz) (by simpa using hvl) (by omega) (by omega)
  grind
 refine⟨_,?_,S.apQ hl hφ hcap hle (by rw[List.length_set]) hh (c':=c') (hsz:= ?_) (by rw[hcs];exact hfit) ?_ ?_⟩
 ·have hs:=(Hz (C:=C) (w:=w) ht).2
  grind [bp,av,storeVar,ai,af]
 ·grind
 ·rw[axF,List.length_set,azv];exact((rl.take _).append hr).append (rl.drop _)
 grind
theorem aa0(_S:lQ C φ σ a w){u:TypeId}{o:Nat}(h:vU C.P t i=some (o,u))(rx:nr (C.env φ σ.heap w) x v):
 (∀l off,x= .ptr l off-> ∃v',(aN t v i).run C.P w= .ok v' w/\nr (C.env φ σ.heap w) (.ptr l (off+o)) v')/\
 (∀cs,x= .pp cs-> ∃v',(aN t v i).run C.P w= .ok v' w/\nr (C.env φ σ.heap w) (.pp (cs.drop o)) v')/\
 (∀l j n o' sz,x= .own l j n o' sz-> ∃v',(aN t v i).run C.P w= .ok v' w/\nr (C.env φ σ.heap w) (.own l j n (o'+o) sz) v'):=by
 obtain⟨fs,f,j,hu,hf,hj,hs,rfl,rfl⟩:=amU h;have hsz:(sizeOf f.type).run C.P w= .ok j.size w:=by simp [sizeOf,typeInfo,hj]
 have key: ∀b off,(aN t (.pointer (some ⟨b,off,none⟩)) i).run C.P w= .ok (.pointer (some ⟨b,off+f.offset,none⟩)) w:=by
  simp_all [aN,run_underlying,av,fieldPlace,add_plain]
 refine⟨?_,?_,?_⟩
 ·rintro l off rfl;obtain⟨hl,b,hb,rfl⟩:=rx;exact⟨_,key b off,hl,b,hb,rfl⟩
 ·rintro cs rfl;obtain⟨b,off,rfl,rm⟩:=rx;exact⟨_,key b off,b,_,rfl,rm.drop _⟩
 ·rintro l j n o' sz rfl;obtain⟨hl,⟨ad,rfl⟩,hr⟩:=rx
  have azw:(aN t (.pointer (some ad)) i).run C.P w= .ok (.pointer (some (ad.add f.offset))) w:=by
   simp_all [aN,run_underlying,av,fieldPlace]
  refine⟨_,azw,hl,⟨_,rfl⟩,fun k hk=> ?_⟩
  grind
def akC {o:Nat}{vs:Array Value}(ha:(isAgg t).run P w= .ok g w)(hs:(sizeOf t).run P w= .ok n w)
 (r:kf E cs vs.toList) (hl:lG g n (cs.drop o)=some x): ∃v,(part t vs o).run P w= .ok v w/\nr E x v:=by
 unfold lG at hl;cases g with
 |true=>
  simp only at hl;split at hl
  ·cases hl;refine⟨.agg (vs.extract o (o+n)),by simp [part,ha,hs],_,rfl,?_⟩;have:=(r.drop o).take n
   simp_all
  ·cases hl
 |false=>
  cases hd:cs.drop o with
  |nil=>rw[hd] at hl;cases hl
  |cons c cs'=>
   rw[hd] at hl;injection hl with hl
   subst hl
   have h0:cs[o]? =some c:=by
    have:=congrArg (fun l:List AV=>l[0]?) hd;simpa using this
   obtain⟨v,hv,rv⟩:=r.get h0
   simp_all [part]
def WC {e:TypeId}{sz bytes:Nat}{n:Int}(ht:nu C.P t=some (e,sz,bytes))(hn:0<=n)
 (hr:rows[n.toNat]? =some r) (rx:nr (C.env φ σ.heap w) (.lI tt sz rows) v): ∃v',(aH t v (.int k n)).run C.P w= .ok v' w/\nr (C.env φ σ.heap w) (.pp r) v':=by
 obtain⟨hu,i,hi,rfl,rfl⟩:=KD ht;obtain⟨base,cap,rfl,h2,h3,h4,h5,h6⟩:=rx;have hlt:n.toNat<rows.length:=(ak.1 hr).1;have hne:rows≠[]:=by intro h;subst h;simp at hlt
 have hsz:(sizeOf e).run C.P w= .ok i.size w:=by simp [sizeOf,typeInfo,hi]
 cases base with
 |none=>have:=h4 rfl;omega
 |some b=>
  have hb:b=⟨b.block,b.off,none⟩:=by have:=h5 b rfl hne;cases b;simp_all
  obtain⟨_,hm⟩:=mr.get (h6 b rfl) hr;refine⟨.pointer (some ⟨b.block,b.off+n.toNat*i.size,none⟩),?_,b.block,_,rfl,hm⟩;have avQ:0<=n/\n<(rows.length:Int):=⟨hn,by omega⟩;simp only[aH,asIntOf,ai,aq,af,run_underlying hu,avQ,and_self,jD,hsz];rw[hb,add_plain]
def ad1(S:lQ C φ σ a w){e:TypeId}{sz bytes m:Nat}{n:Int}(ht:nu C.P t=some (e,sz,bytes))(hn:0<=n)
 (hl:σ.heap[l]? =some (.acc true sz rows)) (hm:rows.length=m) (hr:rows[n.toNat]? =some r) (rx:nr (C.env φ σ.heap w) (.acc l m) v):
 ∃v',(aH t v (.int k n)).run C.P w= .ok v' w/\nr (C.env φ σ.heap w) (.pp r) v':=by
 have hv:=Ie S hl hm rx;subst hv;exact WC (tt:=false) ht hn hr (SJ S hl)
theorem aax(b:Addr)(h:b.spot=none)(k:Nat):b.add k=⟨b.block,b.off+k,none⟩:=by
 have hb:b=⟨b.block,b.off,none⟩:=by cases b;simp_all
 rw[hb,add_plain]
def run_sliceBound{n:Int}{y:Nat}{c:BoundsCode}(h:0<=n/\n<=y):(ay (.int k n) y c).run P w= .ok n.toNat w:=by
 simp [ay,asIntOf,h]
def ER(S:lQ C φ σ a w){d:Nat}{x:Option Operand}{n:Int}(h:bound σ d x=some n):(x=none/\n=d)\/ ∃y k,x=some y/\a.eval y= .int k n:=by
 unfold bound at h;cases x with
 |none=>grind
 |some y=>
  right;simp only at h;have r:=S.ev y;split at h
  ·rename_i k m hm;cases h;rw[hm] at r;exact⟨y,k,rfl,r⟩
  ·cases h
def Re(S:lQ C φ σ a w){s:Bool}{len cap:Nat}{mx:Option Operand}{l h m:Int}(hl:bound σ 0 lo=some l)(hh:bound σ len hi=some h)(hm:bound σ len mx=some m)
 (hb:0<=l/\l<=h/\h<=m/\m<=len) (hc:len<=cap) (hmx:mx≠none->hi≠none):
 (aD s len cap (lo.map a.eval) (hi.map a.eval) (mx.map a.eval)).run C.P w= .ok (l.toNat,h.toNat,if mx=none then cap else m.toNat) w:=by
 have e0:(0:Int)<=h:=by omega
 rcases ER S hm with⟨rfl,rfl⟩|⟨ym,km,rfl,em⟩
 ·rcases ER S hh with⟨rfl,rfl⟩|⟨yh,kh,rfl,eh⟩
  ·rcases ER S hl with⟨rfl,rfl⟩|⟨yl,kl,rfl,el⟩
   ·simp [aD]
   ·have e3: ∀c,(ay (.int kl l) len c).run C.P w= .ok l.toNat w:=fun c=>run_sliceBound (by omega)
    simp [aD,el,e3]
  ·have e1: ∀c,(ay (.int kh h) cap c).run C.P w= .ok h.toNat w:=fun c=>run_sliceBound (by omega)
   rcases ER S hl with⟨rfl,rfl⟩|⟨yl,kl,rfl,el⟩
   ·simp [aD,eh,e1]
   ·have e3: ∀c,(ay (.int kl l) h.toNat c).run C.P w= .ok l.toNat w:=fun c=>run_sliceBound (by omega)
    simp_all [aD]
 ·rcases ER S hh with⟨rfl,rfl⟩|⟨yh,kh,rfl,eh⟩
  ·grind
  ·have e1: ∀c,(ay (.int kh h) m.toNat c).run C.P w= .ok h.toNat w:=fun c=>run_sliceBound (by omega)
   have e2: ∀c,(ay (.int km m) cap c).run C.P w= .ok m.toNat w:=fun c=>run_sliceBound (by omega)
   rcases ER S hl with⟨rfl,rfl⟩|⟨yl,kl,rfl,el⟩
   ·simp_all [aD]
   ·have e3: ∀c,(ay (.int kl l) h.toNat c).run C.P w= .ok l.toNat w:=fun c=>run_sliceBound (by omega)
    simp_all [aD]
theorem ae8(S:lQ C φ σ a w){e:TypeId}{sz JP bytes:Nat}{mx:Option Operand}{l h m:Int}(ht:nu C.P t=some (e,sz,bytes))
 (hl:bound σ 0 lo=some l) (hh:bound σ rows.length hi=some h) (hm:bound σ rows.length mx=some m) (hsz:JP=sz\/rows.length=0) (hb:0<=l/\l<=h/\h<=m/\m<=rows.length)
 (hmx:(mx.isSome&&hi.isNone)=false) (rx:nr (C.env φ σ.heap w) (.lI tt JP rows) v):
 ∃v',(aT t v (lo.map a.eval) (hi.map a.eval) (mx.map a.eval)).run C.P w= .ok v' w/\
  nr (C.env φ σ.heap w) (.lI (Vr mx tt h rows.length m) sz ((rows.take h.toNat).drop l.toNat)) v':=by
 obtain⟨hu,i,hi',rfl,rfl⟩:=KD ht;obtain⟨base,cap,rfl,h2,h3,h4,h5,h6⟩:=rx;have hsize:(sizeOf e).run C.P w= .ok i.size w:=by simp [sizeOf,typeInfo,hi']
 have hbs:=Re S (s:=true) (cap:=cap) hl hh hm hb h2 (by
  intro h1 h2
  simp_all)
 have hlen:((rows.take h.toNat).drop l.toNat).length=h.toNat-l.toNat:=by
  grind
 obtain⟨m',hm',hm1,hm2⟩: ∃m',(if mx=none then cap else m.toNat)=m'/\(mx=none->m'=cap)/\(mx≠none->m'=m.toNat):=by
  grind
 have hm3:h.toNat<=m':=by
  grind
 rw[hm'] at hbs;clear hm'
 have hrun:(aT t (.slice base rows.length cap) (lo.map a.eval) (hi.map a.eval) (mx.map a.eval)).run C.P w=
  .ok (.slice (if m'=l.toNat then base else base.map (·.add (l.toNat*i.size))) (h.toNat-l.toNat) (m'-l.toNat)) w:=by
  simp_all [aT,run_underlying,Instr.slice]
 refine⟨_,hrun,_,_,by rw[hlen],?_,?_,?_,?_,?_⟩
 ·rw[hlen];omega
 ·intro htt;rw[hlen];cases mx with
  |none=>
   grind [Vr]
  |some y=>
   grind [Vr]
 ·intro hnone;cases base with
  |none=>
   grind
  |some b=>
   grind
 ·intro b hb' hne;cases base with
  |none=>split at hb'<;>simp at hb'
  |some b0=>
   have hrows:rows≠[]:=by intro h0;subst h0;simp at hne
   grind [aax]
 ·intro b hb';by_cases hrows:rows=[]
  ·subst hrows;simp [mr]
  ·have azx:JP=i.size:=by
    grind
   subst azx;cases base with
   |none=>split at hb'<;>simp at hb'
   |some b0=>
    have hsp:=h5 b0 rfl hrows;have rr:=h6 b0 rfl;split at hb'
    ·rename_i heq;have hlh:h.toNat<=l.toNat:=by omega
     have:(rows.take h.toNat).drop l.toNat=[]:=List.drop_eq_nil_of_le (by rw[bA];omega);rw[this];trivial
    grind [aax,mr.drop,mr.take]
theorem anW(S:lQ C φ σ a w){l h:Int}(ht:tj C.P t=true)(hl:bound σ 0 lo=some l)(hh:bound σ s.size hi=some h)(hb:0<=l/\l<=h/\h<=s.size):
 (aT t (.string s) (lo.map a.eval) (hi.map a.eval) none).run C.P w= .ok (.string (s.extract l.toNat h.toNat)) w:=by
 have hu:C.P.underlying t=some .string:=by
  grind [tj]
 have hbs:=Re S (s:=false) (mx:=none) (cap:=s.size) (m:=s.size) hl hh rfl (by omega) (au _) (by intro h;exact absurd rfl h);simp only[Option.map_none] at hbs;simp only[aT,ai,run_underlying hu,af,Instr.slice,bX,az,if_false,hbs,aq]
end sound
section sound

def ahM{op:BinOp}{oy:Operand}{r:AV}{vx vy:Value}(h:aeZ op x y=some r)(rx:nr E x vx)(ry:nr E y vy):
 ∃v,(do eqGuard op t ox oy vx vy;binOp op t vx vy:Sem Value).run C.P w= .ok v w/\nr E r v:=by
 unfold aeZ at h;split at h
 ·rename_i k m k' n;simp only[nr] at rx ry;subst rx ry;split at h
  ·cases h
  ·rename_i hk;have hk':k=k':=by simpa using hk
   subst hk'
   have hg:(eqGuard op t ox oy (.int k m) (.int k n)).run C.P w= .ok () w:=by
    unfold eqGuard;split<;>rfl
   cases op with
   |quo=>
    simp only at h;split at h
    ·cases h
    ·rename_i hz;cases h;exact⟨_,by simp [hg,binOp,Op.intDiv,hz],rfl⟩
   |rem=>
    simp only at h;split at h
    ·cases h
    ·rename_i hz;cases h;exact⟨_,by simp [hg,binOp,Op.intDiv,hz],rfl⟩
   |and=>cases h;exact⟨_,by simp only[ai,hg,af,binOp];rw[if_neg hk];rfl,rfl⟩
   |or=>cases h;exact⟨_,by simp only[ai,hg,af,binOp];rw[if_neg hk];rfl,rfl⟩
   |xor=>cases h;exact⟨_,by simp only[ai,hg,af,binOp];rw[if_neg hk];rfl,rfl⟩
   |andNot=>cases h;exact⟨_,by simp only[ai,hg,af,binOp];rw[if_neg hk];rfl,rfl⟩
   |_=>simp at h<;>subst h<;>refine⟨_,?_,rfl⟩<;>simp [hg,binOp,Op.intArith,Op.intCmp]
 ·rename_i s u;simp only[nr] at rx ry;subst rx ry
  have hg:(eqGuard op t ox oy (.string s) (.string u)).run C.P w= .ok () w:=by
   unfold eqGuard;split<;>rfl
  cases op with
  |add=>
   simp only at h;split at h
   ·rename_i hz;cases h
    have hz': ¬ ((s.size+u.size:Nat):Int)>IntKind.i64.max:=by
     have:IntKind.i64.max=9223372036854775807:=by decide
     rw[this];omega
    exact⟨_,by simp_all [binOp,Op.stringOp],rfl⟩
   ·cases h
  |_=>simp at h<;>subst h<;>refine⟨_,?_,rfl⟩<;>simp [hg,binOp,Op.stringOp]
 ·cases h
def ae9(h:tbl P t=true):P.underlying t=some .bool:=by
 grind [tbl]
def afa{op:BinOp}{oy:Operand}{p q:Bool}:(eqGuard op t ox oy (.bool p) (.bool q)).run P w= .ok () w:=by
 unfold eqGuard;split<;>rfl
def avR{p q:Bool}(h:tbl P t=true):(binOp .eql t (.bool p) (.bool q)).run P w= .ok (.bool (p==q)) w:=by
 simp_all [run_equal_bool,ae9,binOp]
def avS{p q:Bool}(h:tbl P t=true):(binOp .neq t (.bool p) (.bool q)).run P w= .ok (.bool (!(p==q))) w:=by
 simp_all [run_equal_bool,ae9,binOp]
def anX(S:lQ C φ σ a w){r:Result Next}{o:Obj}(ho: ∀c t lo hi,o= .cells c t (lo,hi)->lo=0/\hi=0)
 (hr:r= .ok (.value v) (World.more w o)) (Vv:nr (C.env φ σ.heap (World.more w o)) x v):wN C σ a w dst r {val:=x,rd,pre:=p}:=by
 refine⟨.value v,v,_,φ,hr,.inl rfl,?_⟩;rw[FD];exact(S.more o ho).put dst Vv
def afb(S:lQ C φ σ a w){r:Result Next}(hr:r= .ok (.value (.pointer (some ⟨w.heap.size,0,none⟩))) (World.more w (.cells c t)))
 (Vv:kf (C.env φ σ.heap w) cs c.toList) (h1: ∀u∈c.toList,u.oneCell'=true):wN C σ a w dst r {val:= .ptr σ.heap.length 0,rd,nw:=[.cells cs],pre:=p}:=by
 obtain⟨S',le⟩:=S.name c t Vv h1;refine⟨_,_,_,(fun l=>if l=σ.heap.length then .pointer (some ⟨w.heap.size,0,none⟩) else φ l),hr,.inl rfl,?_⟩;rw[Zw];exact S'.put dst ⟨by simp [o9.env],w.heap.size,by simp [o9.env],rfl⟩
def XV(h:tj P t=true):P.underlying t=some .string:=by
 grind [tj]
def amV(h:af1 P t=some k):P.underlying t=some (.int k):=by
 grind [af1]
def acg(h:(nu P t).isSome=true): ∃e,P.underlying t=some (.slice e):=by
 obtain⟨⟨e,sz,b⟩,hx⟩:=Option.isSome_iff_exists.1 h;exact⟨e,(KD hx).1⟩
def anY(S:lQ C φ σ a w)(h:ae2 C.P σ t x=some ef)(rx:nr (C.env φ σ.heap w) x v):
 ∃y rd,ef={val:=y,rd}/\ ∃u,(bB #[t] ty #[v]).run C.P w= .ok u w/\nr (C.env φ σ.heap w) y u:=by
 unfold ae2 at h;split at h
 ·split at h
  ·rename_i ht;cases h;simp only[nr] at rx;subst rx;exact⟨_,_,rfl,_,by simp [bB,run_underlying (XV ht)];rfl,rfl⟩
  ·cases h
 ·split at h
  ·rename_i ht;obtain⟨e,hu⟩:=acg ht;cases h;obtain⟨b,cap,rfl,_⟩:=rx;exact⟨_,_,rfl,_,by simp [bB,run_underlying hu];rfl,rfl⟩
  ·cases h
 ·split at h
  ·rename_i ht;obtain⟨e,hu⟩:=acg ht;split at h
   ·rename_i hl;split at h
    ·rename_i hn;cases h;have hv:=Ie S hl hn rx;subst hv;obtain⟨b,cap,hh,_⟩:=S.mV _ _ hl;refine⟨_,_,rfl,.int .i64 _,?_,rfl⟩;rw[hh,<-hn];simp [bB,run_underlying hu];rfl
    ·cases h
   ·cases h
  ·cases h
 ·cases h
theorem aa1(S:lQ C φ σ a w){e:TypeId}{sz bytes:Nat}{n:Int}(ht:nu C.P t=some (e,sz,bytes))(hz:n4 C.P e=some z)
 (hc:z.length=sz/\0<sz/\0<=n) (hroom:room n.toNat bytes/\n<2 ^ 62):
 wN C σ a w dst ((do pure (.value (<-bg t (.int .i64 n) (.int .i64 n))):Sem Next).run C.P w)
  {val:= .acc σ.heap.length n.toNat,rd,nw:=[.acc false sz (am n.toNat z)],pre:=p}:=by
 obtain⟨hu,i,hi,rfl,rfl⟩:=KD ht;obtain⟨zv,hzr,apM,axB⟩:=Vu (w:=w) hz;have hzl:zv.cells.size=i.size:=by have:=(apM (C.env φ σ.heap w)).length;simp at this;omega
 have hwrap:IntKind.i64.wrap n=n:=by
  grind [IntKind.wrap,IntKind.bits]
 have hti:(typeInfo e).run C.P w= .ok i w:=by simp [typeInfo,hi]
 have hsz:(sizeOf e).run C.P w= .ok i.size w:=by simp [sizeOf,typeInfo,hi]
 have hb:(i.bytes:Int)*n<=2 ^ 44:=by
  grind [room]
 have qE:kf (C.env φ σ.heap w) (am n.toNat z).flatten ((bo (n.toNat*i.size)).map (fun j=>(if n.toNat*i.size=0 then(#[]:Array Value) else zv.cells)[j % (if n.toNat*i.size=0 then(#[]:Array Value) else zv.cells).size]!)).toList:=by
  grind [XU,Ac]
 have hone: ∀u∈((bo (n.toNat*i.size)).map (fun j=>(if n.toNat*i.size=0 then(#[]:Array Value) else zv.cells)[j % (if n.toNat*i.size=0 then(#[]:Array Value) else zv.cells).size]!)).toList,u.oneCell'=true:=by
  grind [XU,List.mem_flatten]
 generalize hcells:(bo (n.toNat*i.size)).map (fun j=>(if n.toNat*i.size=0 then(#[]:Array Value) else zv.cells)[j % (if n.toNat*i.size=0 then(#[]:Array Value) else zv.cells).size]!)=c at qE hone
 have hzs: ∀r∈am n.toNat z,r.length=i.size:=by
  grind
 have azy:c.size=n.toNat*i.size:=by
  grind
 have amW:(c.toList.drop 0).take (n.toNat*i.size)=c.toList:=by
  grind [bj]
 have S':=S.PK (qT:=false) (sz:=i.size) (rows:=am n.toNat z) (w':=World.more w (.cells c e)) (h':= .slice (some ⟨w.heap.size,0,none⟩) n.toNat n.toNat) (by simp) (fun b hb=>vT w _ hb)
  (tg w _ (by grind)) ⟨rfl,rfl⟩ (by
    rintro b ⟨rfl,_⟩;exact au _) (by
    intro E' le hw;refine⟨some ⟨w.heap.size,0,none⟩,n.toNat,by rw[bM],by grind,by simp,hzs,?_⟩;intro a0 ha _;simp only[aj] at ha;subst ha;refine⟨rfl,c,e,by rw[hw];exact FC w _,by rw[azy];simp,?_,?_⟩
    ·rw[bM,amW];exact kf.mono le _ _ (kf.nb _ _ qE) qE
    grind)
 have S2:=S'.put dst (x:= .acc σ.heap.length n.toNat) (v:= .slice (some ⟨w.heap.size,0,none⟩) n.toNat n.toNat) ⟨by simp [o9.env],⟨_,_,_,rfl⟩,fun k hk=>by
  grind [o9.env,lr]⟩
 have hrun:((do pure (.value (<-bg t (.int .i64 n) (.int .i64 n))):Sem Next).run C.P w)= .ok (.value (.slice (some ⟨w.heap.size,0,none⟩) n.toNat n.toNat)) (World.more w (.cells c e)):=by
  have h1: ¬ (((n<0\/(i.bytes:Int)*n>2 ^ 48)\/n<0)\/n>n):=by omega
  by_cases h0:n.toNat*i.size=0
  ·simp only[h0,jD] at hcells;simp only[bg,ai,run_underlying hu,af,asInt,asIntOf,aq,hti,hwrap,jA,bh,h1,if_false,run_askRoom,hsz,h0,jD,newRow,run_newObj];rw[hcells];rfl
  ·simp only[h0,if_false] at hcells;simp only[bg,ai,run_underlying hu,af,asInt,asIntOf,aq,hti,hwrap,jA,bh,h1,if_false,run_askRoom,hsz,h0,hzr,newRow,run_newObj];rw[hcells];rfl
 rw[<-Zw σ dst _ rd _ p] at S2;exact⟨_,_,_,_,hrun,.inl rfl,S2⟩
theorem XW(S:lQ C φ σ a w){e:TypeId}{len sz bytes:Nat}{qT:Bool}(ht:nu C.P t=some (e,sz,bytes))
 (hz:n4 C.P e=some z) (hl:z.length=sz/\len*sz<=16777216) (hf:rowsOf sz (am len z) (parts.toList.map fun p=>(p.1,σ.ev p.2))=some rows):
 wN C σ a w dst ((do pure (.value (<-aI t len (parts.map fun(i,x)=>(i,a.eval x)))):Sem Next).run C.P w)
  {val:= .acc σ.heap.length rows.length,nw:=[.acc qT sz rows]}:=by
 obtain⟨us,hrun,hr,hone,hlen,h3,apL⟩:=SH S ht hz hl hf;have hsz:us.size=len*sz:=by simpa using apL
 have amW:(us.toList.drop 0).take (rows.length*sz)=us.toList:=by
  grind
 have S':=S.PK (qT:=qT) (sz:=sz) (rows:=rows) (w':=World.more w (.cells us e)) (h':= .slice (some ⟨w.heap.size,0,none⟩) len len) (by simp) (fun b hb=>vT w _ hb)
  (tg w _ (by grind)) ⟨rfl,rfl⟩ (by
    rintro b ⟨rfl,_⟩;exact au _) (by
    intro E' le hw;refine⟨some ⟨w.heap.size,0,none⟩,len,by rw[hlen],by omega,by simp,h3,?_⟩;intro a0 ha _;simp only[aj] at ha;subst ha;refine⟨rfl,us,e,by rw[hw];exact FC w _,by rw[hsz];simp,?_,?_⟩
    ·rw[amW];exact kf.mono le _ _ (kf.nb _ _ hr) hr
    ·rw[amW];exact hone)
 have S2:=S'.put dst (x:= .acc σ.heap.length rows.length) (v:= .slice (some ⟨w.heap.size,0,none⟩) len len) ⟨by simp [o9.env],⟨_,_,_,rfl⟩,fun k hk=>by
  grind [o9.env,lr]⟩
 have axG:((do pure (.value (<-aI t len (parts.map fun(i,x)=>(i,a.eval x)))):Sem Next).run C.P w)= .ok (.value (.slice (some ⟨w.heap.size,0,none⟩) len len)) (World.more w (.cells us e)):=by
  simp_all
 rw[<-Zw σ dst _ [] _ True] at S2;exact⟨_,_,_,_,axG,.inl rfl,S2⟩
def wN.of_eq{r r':Result Next}{e:tL}(h:r=r')(d:wN C σ a w dst r' e):wN C σ a w dst r e:=h ▸ d
def asz{f:α->β}{l:List α}{x:β}(h:l.map f=[x]): ∃y,l=[y]/\f y=x:=by
 simp_all
def af4{f:α->β}{l:List α}{x x':β}(h:l.map f=[x,x']): ∃y y',l=[y,y']/\f y=x/\f y'=x':=by
 cases l with
 |nil=>simp at h
 |cons y l=>cases l with
  |nil=>simp at h
  |cons z l=>cases l with
   |nil=>grind
   |cons _ _=>simp at h
def ad2(S:lQ C φ σ a w){b:Builtin}{args:Array Operand}{ts:Array TypeId}{e:tL}(ho:o.op= .call {callee:= .builtin b,args,argTypes:=ts})
 (h:Hx C.P σ b args.toList ts.toList (args.toList.map σ.ev)=some e) (hp:e.pre):wN C σ a w o.dst ((execOp a.eval o).run C.P w) e:=by
 obtain⟨ts,rfl⟩: ∃l:List TypeId,ts=l.toArray:=⟨ts.toList,by simp⟩;obtain⟨args,rfl⟩: ∃l:List Operand,args=l.toArray:=⟨args.toList,by simp⟩;simp only at h
 have hrun:(execOp a.eval o).run C.P w=(builtin b ts.toArray o.type (args.toArray.map fun| .const _=>true|_=>false) (args.toArray.map a.eval)).run C.P w:=by
  grind [execOp,resolve,invoke]
 refine wN.of_eq hrun ?_;unfold Hx at h;split at h
 ·rename_i t x hx;obtain⟨ox,rfl,rfl⟩:=asz hx;obtain⟨y,rd,rfl,hv⟩:=anY (ty:=o.type) S h (S.ev ox)
  grind [kN,builtin]
 ·rename_i t u x y hx;obtain⟨ox,oy,rfl,rfl,rfl⟩:=af4 hx;split at h
  ·rename_i et sz bytes ht hu;split at h
   ·rename_i z hz;split at h
    ·rename_i hc;obtain⟨v,w',φ',hr,hS⟩:=af3 (dst:=o.dst) (ty:=o.type) S ht hu hz hc h hp (S.ev ox) (S.ev oy);refine⟨.value v,v,w',φ',?_,.inl rfl,hS⟩;simp [builtin,hr]
    ·cases h
   ·cases h
  ·cases h
 ·rename_i t u k m k' n hx;obtain⟨ox,oy,rfl,hx1,LM⟩:=af4 hx;have r1:=S.ev ox;have r2:=S.ev oy;rw[hx1] at r1;rw[LM] at r2;simp only[nr] at r1 r2;cases h;refine wN.of_eq ?_ (kN (rd:=[]) (p:=True) (m:=pure (.int k (if n>m then n else m))) S ⟨_,rfl,rfl⟩);simp [builtin,Builtin.max_,r1,r2,Builtin.max2]
 ·rename_i t u k m k' n hx;obtain⟨ox,oy,rfl,hx1,LM⟩:=af4 hx;have r1:=S.ev ox;have r2:=S.ev oy;rw[hx1] at r1;rw[LM] at r2;simp only[nr] at r1 r2;cases h;refine wN.of_eq ?_ (kN (rd:=[]) (p:=True) (m:=pure (.int k (if n<m then n else m))) S ⟨_,rfl,rfl⟩);simp [builtin,Builtin.min_,r1,r2,Builtin.min2]
 ·cases h
theorem Iz(S:lQ C φ σ a w): ∀xs:List Operand,kf (C.env φ σ.heap w) (xs.map σ.ev) (xs.map a.eval)
 |[]=>rfl
 |x::xs=>⟨_,_,rfl,S.ev x,Iz S xs⟩
end sound
open Go.MapKept
section

def lQ.asB(S:lQ C φ σ a w):
 lQ C (fun l=>if l=σ.heap.length then .map (some w.heap.size) else φ l) {σ with heap:=σ.heap++[.map []]} a (World.more w (.map #[] 0)):=by
 let φ':Nat->Value:=fun l=>if l=σ.heap.length then .map (some w.heap.size) else φ l
 let w':=World.more w (.map #[] 0)
 have hφ: ∀l,l<σ.heap.length->φ' l=φ l:=fun l hl=>by grind
 have hφn:φ' σ.heap.length= .map (some w.heap.size):=by simp [φ']
 have hsz:w'.heap.size=w.heap.size+1:=Kw _ _;have hold: ∀b,b<w.heap.size->w'.heap[b]? =w.heap[b]? :=fun b hb=>vT _ _ hb
 have hL:w'.heap[w.heap.size]? =some (.map #[] 0):=FC _ _
 have mH: ∀(l:Nat)(x:jS),(σ.heap++[.map []])[l]? =some x->(l<σ.heap.length/\σ.heap[l]? =some x)\/(l=σ.heap.length/\x= .map []):=by
  grind
 have hcell: ∀b o,b<w.heap.size->w'.cell? ⟨b,o,none⟩=w.cell? ⟨b,o,none⟩:=by
  grind [World.cell?]
 have hnb: ∀b,(jS.map []).block (φ' σ.heap.length) b->w.heap.size<=b:=by
  intro b hb;rw[hφn] at hb;have hb:b=w.heap.size:=hb;omega
 have Jr: ∀b o,Dq φ' (σ.heap++[.map []]) b o->w.heap.size<=b\/Dq φ σ.heap b o:=by
  rintro b o ⟨l,x,hx,hm⟩;rcases mH l x hx with⟨hl,hx⟩|⟨rfl,rfl⟩
  ·rw[hφ l hl] at hm;exact .inr ⟨l,x,hx,hm⟩
  grind [jS.mK]
 have le:(C.env φ σ.heap w).Le σ.heap.length (C.env φ' (σ.heap++[.map []]) w'):=by
  refine o9.z8 (by simp) (fun l hl=>⟨hφ l hl,by rw[aw hl]⟩) (fun b i u hm hc=> ?_)
  grind [El]
 have Aa:qh C φ' (σ.heap++[.map []]) w' σ.df a.defers:=by
  refine S.defers.step le (fun b hb _=>hold b hb) (fun l x b hx hb=> ?_)
  grind
 refine {slots:=kf.mono le _ _ (kf.nb _ _ S.slots) S.slots,defers:=Aa,mV:= ?_,apart:= ?_,rz:= ?_,size:=by show _<=w'.heap.size;have:=S.size;omega,old:= ?_,mF:= ?_,Bi:= ?_,tX:= ?_,rest:=S.rest,low:=⟨S.low.1,by have:=S.low.2;simp;omega⟩,names:= ?_}
 ·intro l x hx;show mN _ x (φ' l);rcases mH l x hx with⟨hl,hx⟩|⟨rfl,rfl⟩
  ·have r0:=S.mV l x hx;rw[hφ l hl];exact mN.mono r0 le (fun b hb=>hold b (r0.py hb))
  ·rw[hφn];exact⟨w.heap.size,#[],0,rfl,hL,rfl⟩
 ·intro l l' x x' b hx hx' hb hb';have hb:x.block (φ' l) b:=hb;have hb':x'.block (φ' l') b:=hb';rcases mH l x hx with⟨hl,hx⟩|⟨rfl,rfl⟩<;>rcases mH l' x' hx' with⟨Kc,hx'⟩|⟨rfl,rfl⟩
  ·rw[hφ l hl] at hb;rw[hφ l' Kc] at hb';exact S.apart l l' x x' b hx hx' hb hb'
  ·rw[hφ l hl] at hb;have h1:=(S.mV l x hx).py hb
   grind [o9.env]
  ·rw[hφ l' Kc] at hb';have h1:=(S.mV l' x' hx').py hb'
   grind [o9.env]
  ·rfl
 ·intro l x b o hx hb;have hb:x.block (φ' l) b:=hb;rcases mH l x hx with⟨hl,hx⟩|⟨rfl,rfl⟩
  ·rw[hφ l hl] at hb;exact S.rz l x b o hx hb
  ·intro hA;have h1:=C.hA _ _ hA;have h2:=hnb b hb;have:=S.size;omega
 ·intro b i hb hm;rw[hcell b i (ae hb S.size)];exact S.old b i hb hm
 ·intro b hb hm;rw[hold b (ae hb S.size)];exact S.mF b hb hm
 ·intro l x b o hx hm hb;have hm:x.w5 (φ' l) b o:=hm;rcases mH l x hx with⟨hl,hx⟩|⟨rfl,rfl⟩
  ·rw[hφ l hl] at hm;exact S.Bi l x b o hx hm hb
  ·have h2:=hnb b (jS.mK hm);have:=S.size;omega
 ·intro x hx;exact(tg w (.map #[] 0) (by intro c t lo hi h;cases h) x).trans (S.tX x hx)
 ·intro l hl;have hlt:l<σ.heap.length:=by have:=S.low;omega
  have:=S.names l hl
  grind
def lQ.apT(S:lQ C φ σ a w)(s:ByteArray):
 lQ C (fun l=>if l=σ.heap.length then .pointer (some ⟨w.heap.size,0,none⟩) else φ l) {σ with heap:=σ.heap++[.iter s 0]} a (World.more w (.stringIter s 0)):=by
 let φ':Nat->Value:=fun l=>if l=σ.heap.length then .pointer (some ⟨w.heap.size,0,none⟩) else φ l
 let w':=World.more w (.stringIter s 0)
 have hφ: ∀l,l<σ.heap.length->φ' l=φ l:=fun l hl=>by grind
 have hφn:φ' σ.heap.length= .pointer (some ⟨w.heap.size,0,none⟩):=by simp [φ']
 have hsz:w'.heap.size=w.heap.size+1:=Kw _ _;have hold: ∀b,b<w.heap.size->w'.heap[b]? =w.heap[b]? :=fun b hb=>vT _ _ hb
 have hL:w'.heap[w.heap.size]? =some (.stringIter s 0):=FC _ _
 have mH: ∀(l:Nat)(x:jS),(σ.heap++[.iter s 0])[l]? =some x->(l<σ.heap.length/\σ.heap[l]? =some x)\/(l=σ.heap.length/\x= .iter s 0):=by
  grind
 have hcell: ∀b o,b<w.heap.size->w'.cell? ⟨b,o,none⟩=w.cell? ⟨b,o,none⟩:=by
  grind [World.cell?]
 have hnb: ∀b,(jS.iter s 0).block (φ' σ.heap.length) b->w.heap.size<=b:=by
  intro b hb;rw[hφn] at hb;have hb:b=w.heap.size:=hb;omega
 have Jr: ∀b o,Dq φ' (σ.heap++[.iter s 0]) b o->w.heap.size<=b\/Dq φ σ.heap b o:=by
  rintro b o ⟨l,x,hx,hm⟩;rcases mH l x hx with⟨hl,hx⟩|⟨rfl,rfl⟩
  ·rw[hφ l hl] at hm;exact .inr ⟨l,x,hx,hm⟩
  grind [jS.mK]
 have le:(C.env φ σ.heap w).Le σ.heap.length (C.env φ' (σ.heap++[.iter s 0]) w'):=by
  refine o9.z8 (by simp) (fun l hl=>⟨hφ l hl,by rw[aw hl]⟩) (fun b i u hm hc=> ?_)
  grind [El]
 have Aa:qh C φ' (σ.heap++[.iter s 0]) w' σ.df a.defers:=by
  refine S.defers.step le (fun b hb _=>hold b hb) (fun l x b hx hb=> ?_)
  grind
 refine {slots:=kf.mono le _ _ (kf.nb _ _ S.slots) S.slots,defers:=Aa,mV:= ?_,apart:= ?_,rz:= ?_,size:=by show _<=w'.heap.size;have:=S.size;omega,old:= ?_,mF:= ?_,Bi:= ?_,tX:= ?_,rest:=S.rest,low:=⟨S.low.1,by have:=S.low.2;simp;omega⟩,names:= ?_}
 ·intro l x hx;show mN _ x (φ' l);rcases mH l x hx with⟨hl,hx⟩|⟨rfl,rfl⟩
  ·have r0:=S.mV l x hx;rw[hφ l hl];exact mN.mono r0 le (fun b hb=>hold b (r0.py hb))
  ·rw[hφn];exact⟨w.heap.size,rfl,hL⟩
 ·intro l l' x x' b hx hx' hb hb';have hb:x.block (φ' l) b:=hb;have hb':x'.block (φ' l') b:=hb';rcases mH l x hx with⟨hl,hx⟩|⟨rfl,rfl⟩<;>rcases mH l' x' hx' with⟨Kc,hx'⟩|⟨rfl,rfl⟩
  ·rw[hφ l hl] at hb;rw[hφ l' Kc] at hb';exact S.apart l l' x x' b hx hx' hb hb'
  ·rw[hφ l hl] at hb;have h1:=(S.mV l x hx).py hb
   grind [o9.env]
  ·rw[hφ l' Kc] at hb';have h1:=(S.mV l' x' hx').py hb'
   grind [o9.env]
  ·rfl
 ·intro l x b o hx hb;have hb:x.block (φ' l) b:=hb;rcases mH l x hx with⟨hl,hx⟩|⟨rfl,rfl⟩
  ·rw[hφ l hl] at hb;exact S.rz l x b o hx hb
  ·intro hA;have h1:=C.hA _ _ hA;have h2:=hnb b hb;have:=S.size;omega
 ·intro b i hb hm;rw[hcell b i (ae hb S.size)];exact S.old b i hb hm
 ·intro b hb hm;rw[hold b (ae hb S.size)];exact S.mF b hb hm
 ·intro l x b o hx hm hb;have hm:x.w5 (φ' l) b o:=hm;rcases mH l x hx with⟨hl,hx⟩|⟨rfl,rfl⟩
  ·rw[hφ l hl] at hm;exact S.Bi l x b o hx hm hb
  ·have h2:=hnb b (jS.mK hm);have:=S.size;omega
 ·intro x hx;exact(tg w (.stringIter s 0) (by intro c t lo hi h;cases h) x).trans (S.tX x hx)
 ·intro l hl;have hlt:l<σ.heap.length:=by have:=S.low;omega
  have:=S.names l hl
  grind
def lQ.apU(S:lQ C φ σ a w){r:Nat}{es':List (AV×AV)}{xs xs':Array MapEntry}{cl cl':Nat}(hl:σ.heap[l]? =some (.map es))(hφ:φ l= .map (some r))
 (hw:w.heap[r]? =some (.map xs cl)) (hr:pX (C.env φ σ.heap w) es' xs'.toList):lQ C φ {σ with heap:=σ.heap.set l (.map es')} a (w.putObj r (.map xs' cl')):=by
 have hlt:l<σ.heap.length:=(ak.1 hl).1;have apV:=(aU.1 hw).1
 have mH: ∀(j:Nat)(x:jS),(σ.heap.set l (.map es'))[j]? =some x->(j=l/\x= .map es')\/(j≠l/\σ.heap[j]? =some x):=by
  grind
 have hbb:(jS.map es).block (φ l) r:=by rw[hφ];rfl
 have hmb: ∀o,(jS.map es).w5 (φ l) r o:=by intro o;rw[hφ];rfl
 have Ey: ∀b,b≠r->(w.putObj r (.map xs' cl')).heap[b]? =w.heap[b]? :=fun b hb=>World.putObj_heap_other hb
 have hcell: ∀b o,(w.putObj r (.map xs' cl')).cell? ⟨b,o,none⟩=w.cell? ⟨b,o,none⟩:=by
  grind [World.cell?,World.putObj_heap_same]
 have Hw: ∀b,(jS.map es').block (φ l) b->(jS.map es).block (φ l) b:=by intro b hb;rw[hφ] at hb ⊢;exact hb
 have ahN: ∀b o,(jS.map es').w5 (φ l) b o->(jS.map es).w5 (φ l) b o:=by intro b o hb;rw[hφ] at hb ⊢;exact hb
 have Jr: ∀b o,Dq φ (σ.heap.set l (.map es')) b o->Dq φ σ.heap b o:=by
  rintro b o ⟨j,x,hx,hm⟩;rcases mH j x hx with⟨rfl,rfl⟩|⟨_,hx⟩
  ·exact⟨j,_,hl,ahN b o hm⟩
  ·exact⟨j,x,hx,hm⟩
 have hlen: ∀j:Nat,lr (σ.heap.set l (.map es'))[j]? =lr σ.heap[j]? :=by
  intro j;by_cases e:j=l
  ·subst e;rw[aP hlt,hl];rfl
  grind
 have le:(C.env φ σ.heap w).Le σ.heap.length (C.env φ (σ.heap.set l (.map es')) (w.putObj r (.map xs' cl'))):=
  o9.z8 (by simp) (fun j _=>⟨rfl,hlen j⟩) (fun b o u hm hc=>⟨fun h=>hm (h.imp (Jr b o) id),by rw[hcell];exact hc⟩)
 have Aa:qh C φ (σ.heap.set l (.map es')) (w.putObj r (.map xs' cl')) σ.df a.defers:=by
  refine S.defers.step le (fun b _ hno=>Ey b (fun e=>by subst e;exact hno l _ hl hbb)) (fun j x b hx hb=> ?_)
  grind
 refine {slots:=kf.mono le _ _ (kf.nb _ _ S.slots) S.slots,defers:=Aa,mV:= ?_,apart:= ?_,rz:= ?_,size:=by rw[World.putObj_size];exact S.size,old:=fun b o hb hm=>by rw[hcell];exact S.old b o hb hm,mF:= ?_,Bi:= ?_,tX:= ?_,rest:=S.rest,low:=⟨S.low.1,by simpa using S.low.2⟩,names:= ?_}
 ·intro j x hx;rcases mH j x hx with⟨rfl,rfl⟩|⟨hne,hx⟩
  ·exact⟨r,xs',cl',hφ,World.putObj_heap_same apV,pX.mono le (pX.nb hr) hr⟩
  ·exact mN.mono (S.mV j x hx) le (fun b hb=>Ey b (fun e=>by subst e;exact hne (S.apart j l x _ b hx hl hb hbb)))
 ·intro j j' x x' b hx hx' hb hb';rcases mH j x hx with⟨rfl,rfl⟩|⟨hne,hx1⟩<;>rcases mH j' x' hx' with⟨e2,rfl⟩|⟨akz,LM⟩
  ·exact e2.symm
  ·exact S.apart j j' _ x' b hl LM (Hw b hb) hb'
  ·rw[e2] at hb' ⊢;exact S.apart j l x _ b hx1 hl hb (Hw b hb')
  ·exact S.apart j j' x x' b hx1 LM hb hb'
 ·intro j x b o hx hb;rcases mH j x hx with⟨rfl,rfl⟩|⟨_,hx⟩
  ·exact S.rz j _ b o hl (Hw b hb)
  ·exact S.rz j x b o hx hb
 ·intro b hb hm;rw[Ey b (fun e=>by subst e;exact hm 0 (S.Bi l _ b 0 hl (hmb 0) hb))];exact S.mF b hb hm
 ·intro j x b o hx hm hb;rcases mH j x hx with⟨rfl,rfl⟩|⟨_,hx⟩
  ·exact S.Bi j _ b o hl (ahN b o hm) hb
  ·exact S.Bi j x b o hx hm hb
 ·intro x hx;rw[<-S.tX x hx]
  grind [World.frozen?,World.putObj_heap_same]
 ·intro j hj;have:=S.names j hj;rw[hlen j];exact this
def lQ.setIter(S:lQ C φ σ a w){r:Nat}{s':ByteArray}{p p':Nat}(hl:σ.heap[l]? =some (.iter s p))(hφ:φ l= .pointer (some ⟨r,0,none⟩))
 (hw:w.heap[r]? =some (.stringIter s p)):lQ C φ {σ with heap:=σ.heap.set l (.iter s' p')} a (w.putObj r (.stringIter s' p')):=by
 have hlt:l<σ.heap.length:=(ak.1 hl).1;have apV:=(aU.1 hw).1
 have mH: ∀(j:Nat)(x:jS),(σ.heap.set l (.iter s' p'))[j]? =some x->(j=l/\x= .iter s' p')\/(j≠l/\σ.heap[j]? =some x):=by
  grind
 have hbb:(jS.iter s p).block (φ l) r:=by rw[hφ];rfl
 have hmb: ∀o,(jS.iter s p).w5 (φ l) r o:=by intro o;rw[hφ];rfl
 have Ey: ∀b,b≠r->(w.putObj r (.stringIter s' p')).heap[b]? =w.heap[b]? :=fun b hb=>World.putObj_heap_other hb
 have hcell: ∀b o,(w.putObj r (.stringIter s' p')).cell? ⟨b,o,none⟩=w.cell? ⟨b,o,none⟩:=by
  grind [World.cell?,World.putObj_heap_same]
 have Hw: ∀b,(jS.iter s' p').block (φ l) b->(jS.iter s p).block (φ l) b:=by intro b hb;rw[hφ] at hb ⊢;exact hb
 have ahN: ∀b o,(jS.iter s' p').w5 (φ l) b o->(jS.iter s p).w5 (φ l) b o:=by intro b o hb;rw[hφ] at hb ⊢;exact hb
 have Jr: ∀b o,Dq φ (σ.heap.set l (.iter s' p')) b o->Dq φ σ.heap b o:=by
  rintro b o ⟨j,x,hx,hm⟩;rcases mH j x hx with⟨rfl,rfl⟩|⟨_,hx⟩
  ·exact⟨j,_,hl,ahN b o hm⟩
  ·exact⟨j,x,hx,hm⟩
 have hlen: ∀j:Nat,lr (σ.heap.set l (.iter s' p'))[j]? =lr σ.heap[j]? :=by
  intro j;by_cases e:j=l
  ·subst e;rw[aP hlt,hl];rfl
  grind
 have le:(C.env φ σ.heap w).Le σ.heap.length (C.env φ (σ.heap.set l (.iter s' p')) (w.putObj r (.stringIter s' p'))):=
  o9.z8 (by simp) (fun j _=>⟨rfl,hlen j⟩) (fun b o u hm hc=>⟨fun h=>hm (h.imp (Jr b o) id),by rw[hcell];exact hc⟩)
 have Aa:qh C φ (σ.heap.set l (.iter s' p')) (w.putObj r (.stringIter s' p')) σ.df a.defers:=by
  refine S.defers.step le (fun b _ hno=>Ey b (fun e=>by subst e;exact hno l _ hl hbb)) (fun j x b hx hb=> ?_)
  grind
 refine {slots:=kf.mono le _ _ (kf.nb _ _ S.slots) S.slots,defers:=Aa,mV:= ?_,apart:= ?_,rz:= ?_,size:=by rw[World.putObj_size];exact S.size,old:=fun b o hb hm=>by rw[hcell];exact S.old b o hb hm,mF:= ?_,Bi:= ?_,tX:= ?_,rest:=S.rest,low:=⟨S.low.1,by simpa using S.low.2⟩,names:= ?_}
 ·intro j x hx;rcases mH j x hx with⟨rfl,rfl⟩|⟨hne,hx⟩
  ·exact⟨r,hφ,World.putObj_heap_same apV⟩
  ·exact mN.mono (S.mV j x hx) le (fun b hb=>Ey b (fun e=>by subst e;exact hne (S.apart j l x _ b hx hl hb hbb)))
 ·intro j j' x x' b hx hx' hb hb';rcases mH j x hx with⟨rfl,rfl⟩|⟨hne,hx1⟩<;>rcases mH j' x' hx' with⟨e2,rfl⟩|⟨akz,LM⟩
  ·exact e2.symm
  ·exact S.apart j j' _ x' b hl LM (Hw b hb) hb'
  ·rw[e2] at hb' ⊢;exact S.apart j l x _ b hx1 hl hb (Hw b hb')
  ·exact S.apart j j' x x' b hx1 LM hb hb'
 ·intro j x b o hx hb;rcases mH j x hx with⟨rfl,rfl⟩|⟨_,hx⟩
  ·exact S.rz j _ b o hl (Hw b hb)
  ·exact S.rz j x b o hx hb
 ·intro b hb hm;rw[Ey b (fun e=>by subst e;exact hm 0 (S.Bi l _ b 0 hl (hmb 0) hb))];exact S.mF b hb hm
 ·intro j x b o hx hm hb;rcases mH j x hx with⟨rfl,rfl⟩|⟨_,hx⟩
  ·exact S.Bi j _ b o hl (ahN b o hm) hb
  ·exact S.Bi j x b o hx hm hb
 ·intro x hx;rw[<-S.tX x hx]
  grind [World.frozen?,World.putObj_heap_same]
 ·intro j hj;have:=S.names j hj;rw[hlen j];exact this
def akD(S:lQ C φ σ a w){e:tL}(h:Vt l σ.heap[l]? =some e)(hv:nr (C.env φ σ.heap w) (.ptr l 0) v):
 ∃u w',(Instr.next v true ty).run C.P w= .ok u w'/\nr (C.env φ (lu σ.heap e.up) w') e.val u/\lQ C φ {σ with heap:=lu σ.heap e.up} a w'/\e.nw=[]:=by
 unfold Vt at h;split at h
 ·rename_i s p hl;obtain⟨b,hφ,hb⟩:=S.mV l _ hl;have hb:w.heap[b]? =some (.stringIter s p):=hb;obtain⟨hlt,b',hφ',rfl⟩:=hv;have hφ':φ l= .pointer (some ⟨b',0,none⟩):=hφ';have hbb:b'=b:=by grind
  subst hbb;split at h
  ·rename_i hp;cases h;have hb2:=(aU.1 hb).1;refine⟨.tuple #[.bool true,goInt p,.int .i32 (Utf8.decode s p).1],w.putObj b' (.stringIter s (p+(Utf8.decode s p).2)),?_,?_,S.setIter hl hφ hb,rfl⟩
   ·simp [Instr.next,getObj,setObj,Sem.run,hb,hp,World.putObj,aA]
   ·exact⟨_,rfl,_,_,rfl,rfl,_,_,rfl,rfl,_,_,rfl,rfl,rfl⟩
  ·rename_i hp;cases h;refine⟨.tuple #[.bool false],w,?_,⟨_,rfl,_,_,rfl,rfl,rfl⟩,by simpa [lu] using S,rfl⟩;simp [Instr.next,getObj,Sem.run,hb,hp,aA]
 ·cases h
def amX{z:AV}(h:tz1 P t=some z): ∃v,(zeroValue t).run P w= .ok v w/\ ∀E,nr E z v:=by
 unfold tz1 at h;cases hi:P.info? t with
 |none=>simp [hi] at h
 |some i=>
  simp only[hi] at h;split at h
  ·rename_i b hz;cases h;exact⟨.bool b,by simp [zeroValue,typeInfo,hi,hz],fun E=>rfl⟩
  ·rename_i k n hz;cases h;exact⟨.int k n,by simp [zeroValue,typeInfo,hi,hz],fun E=>rfl⟩
  ·rename_i s hz;cases h;exact⟨.string s,by simp [zeroValue,typeInfo,hi,hz],fun E=>rfl⟩
  ·rename_i vs hz;cases h;exact⟨.agg vs,by simp [zeroValue,typeInfo,hi,hz],fun E=>⟨vs,rfl,PI E _⟩⟩
  ·cases h
def ach{z:AV}(h:SF P t=some z): ∃k e,P.underlying t=some (.map k e)/\P.underlying k=some .string/\tz1 P e=some z:=by
 grind [SF]
def abO{E:Env}{s:ByteArray}{v:AV}{u:Value}(hv:nr E v u): ∀(es:List (AV×AV))(xs:List MapEntry)(i:Nat),Js es=true->pX E es xs->
 (∃j x e,vm s es=some x/\aV .string (.string s) xs i=some (some (i+j,e.val))/\xs[j]? =some e/\e.key= .string s/\nr E x e.val/\pX E (Hy s v es) (xs.modify j fun e=>{e with key:= .string s,val:=u}))\/
 (vm s es=none/\aV .string (.string s) xs i=some none/\ ∀b,pX E (Hy s v es) (xs++[{key:= .string s,val:=u,born:=b}]))
 |[],_,i,_,rfl=> .inr ⟨rfl,rfl,fun b=>⟨_,[],rfl,rfl,hv,rfl⟩⟩
 |(k,x)::es,xs,i,hs,⟨e,r,hx,r1,r2,r3⟩=>by
  subst hx;cases k with
  |str b=>
   have hs':Js es=true:=hs;have hk:e.key= .string b:=r1;cases hb:s==b with
   |true=>
    have hsb:s=b:=(bytes_beq s b).1 hb;subst hsb;refine .inl ⟨0,x,e,?_,?_,rfl,hk,r2,?_⟩
    ·simp only[vm,hb,ju]
    ·grind [aV,bT]
    ·simp only[Hy,hb,ju];exact⟨_,r,rfl,rfl,hv,r3⟩
   |false=>
    rcases abO hv es r (i+1) hs' r3 with⟨j,x',e',h1,h2,h3,h4,h5,h6⟩|⟨h1,h2,h3⟩
    ·refine .inl ⟨j+1,x',e',?_,?_,by simpa using h3,h4,h5,?_⟩
     ·grind [vm]
     ·grind [aV,bT]
     ·simp only[Hy,hb,jv,List.modify_succ_cons];exact⟨e,_,rfl,r1,r2,h6⟩
    ·refine .inr ⟨?_,?_,fun q=> ?_⟩
     ·grind [vm]
     ·grind [aV,bT]
     ·simp only[Hy,hb,jv,List.cons_append];exact⟨e,_,rfl,r1,r2,h3 q⟩
  |_=>cases hs
def af5(S:lQ C φ σ a w){z:AV}(ht:SF C.P t=some z)(hl:σ.heap[l]? =some (.map es))(hs:Js es=true)
 (hv:nr (C.env φ σ.heap w) (.map l) v): ∃u,(aX t v (.string s) false).run C.P w= .ok u w/\nr (C.env φ σ.heap w) ((vm s es).getD z) u:=by
 obtain⟨kt,et,hu,hk,hz⟩:=ach ht;obtain⟨zv,hzr,hzE⟩:=amX (w:=w) hz;obtain⟨r,xs,cl,hφ,hb,qE⟩:=S.mV l _ hl;have hb:w.heap[r]? =some (.map xs cl):=hb;obtain⟨_,rfl,_⟩:=hv;have hφ':(C.env φ σ.heap w).φ l= .map (some r):=hφ;rw[hφ'];have hck:=run_checkKey (P:=C.P) (w:=w) hk (d:= .string) (k:= .string s) trivial xs.isEmpty 9999;rcases abO (s:=s) (v:= .any) (u:=undef) (E:=C.env φ σ.heap w) trivial es xs.toList 0 hs qE with⟨j,x,e,h1,h2,_,_,h5,_⟩|⟨h1,h2,_⟩
 ·refine⟨e.val,?_,by rw[h1];exact h5⟩;simp [aX,run_underlying hu,run_getObj_map hb,hck,run_findKey hk h2,aA]
 ·refine⟨zv,?_,by rw[h1];exact hzE _⟩;simp [aX,run_underlying hu,run_getObj_map hb,hck,run_findKey hk h2,hzr,aA]
def aci(S:lQ C φ σ a w){z:AV}(ht:SF C.P t=some z)(hl:σ.heap[l]? =some (.map es))(hs:Js es=true)
 (hv:nr (C.env φ σ.heap w) (.map l) v): ∃u,∃_:Unit,(aX t v (.string s) true).run C.P w= .ok u w/\nr (C.env φ σ.heap w) (ae4 z l (vm s es)).val u:=by
 obtain⟨kt,et,hu,hk,hz⟩:=ach ht;obtain⟨zv,hzr,hzE⟩:=amX (w:=w) hz;obtain⟨r,xs,cl,hφ,hb,qE⟩:=S.mV l _ hl;have hb:w.heap[r]? =some (.map xs cl):=hb;obtain⟨_,rfl,_⟩:=hv;have hφ':(C.env φ σ.heap w).φ l= .map (some r):=hφ;rw[hφ'];have hck:=run_checkKey (P:=C.P) (w:=w) hk (d:= .string) (k:= .string s) trivial xs.isEmpty 9999;rcases abO (s:=s) (v:= .any) (u:=undef) (E:=C.env φ σ.heap w) trivial es xs.toList 0 hs qE with⟨j,x,e,h1,h2,_,_,h5,_⟩|⟨h1,h2,_⟩
 ·refine⟨.tuple #[e.val,.bool true],(),?_,by rw[h1];exact⟨_,rfl,_,_,rfl,h5,_,_,rfl,rfl,rfl⟩⟩;simp [aX,run_underlying hu,run_getObj_map hb,hck,run_findKey hk h2,aA]
 ·refine⟨.tuple #[zv,.bool false],(),?_,by rw[h1];exact⟨_,rfl,_,_,rfl,hzE _,_,_,rfl,rfl,rfl⟩⟩;simp [aX,run_underlying hu,run_getObj_map hb,hck,run_findKey hk h2,hzr,aA]
def Rf(S:lQ C φ σ a w){z:AV}(ht:SF C.P t=some z)(hl:σ.heap[l]? =some (.map es))(hs:Js es=true)
 (hv:nr (C.env φ σ.heap w) (.map l) v) (hy:nr (C.env φ σ.heap w) y u): ∃w',(bG t v (.string s) u).run C.P w= .ok () w'/\lQ C φ {σ with heap:=σ.heap.set l (.map (Hy s y es))} a w':=by
 obtain⟨kt,et,hu,hk,hz⟩:=ach ht;obtain⟨r,xs,cl,hφ,hb,qE⟩:=S.mV l _ hl;have hb:w.heap[r]? =some (.map xs cl):=hb;obtain⟨_,rfl,_⟩:=hv;have hφ':(C.env φ σ.heap w).φ l= .map (some r):=hφ;rw[hφ'];have hck:=run_checkKey (P:=C.P) (w:=w) hk (d:= .string) (k:= .string s) trivial false 9999;rcases abO (s:=s) (v:=y) (u:=u) (E:=C.env φ σ.heap w) hy es xs.toList 0 hs qE with⟨j,x,e,h1,h2,h3,h4,_,h6⟩|⟨h1,h2,h3⟩
 ·have hj:xs[j]? =some e:=by simpa using h3
  have h2':aV .string (.string s) xs.toList 0=some (some (j,e.val)):=by simpa using h2
  refine⟨w.putObj r (.map (xs.modify j fun e=>{e with key:= .string s,val:=u}) cl),?_,S.apU hl hφ hb ?_⟩
  ·simp [bG,run_underlying hu,run_getObj_map hb,hck,run_findKey hk h2',hj,h4,run_keyThatStays (d:= .string) (k:= .string s) trivial,run_setObj_map _ hb,aA,World.putObj]
  grind
 ·refine⟨w.putObj r (.map (xs.push {key:= .string s,val:=u,born:=cl}) (cl+1)),?_,S.apU hl hφ hb ?_⟩
  ·simp [bG,run_underlying hu,run_getObj_map hb,hck,run_findKey hk h2,run_setObj_map _ hb,aA,World.putObj]
  grind
end
section sound

def ahO(S:lQ C φ σ a w)(ht:oF C.P t=some (g,n))(hl:σ.heap[l]? =some (.cells cs))(hx:lG g n (cs.drop off)=some x)
 (r:nr (C.env φ σ.heap w) (.ptr l off) v): ∃u,(aJ t v).run C.P w= .ok u w/\nr (C.env φ σ.heap w) x u:=by
 obtain⟨_,b,hφ,rfl⟩:=r;obtain⟨b2,c,t2,hφ2,hh,rl,_⟩:=S.mV l _ hl;have e:b2=b:=by grind [o9.env]
 subst e;have hi:=Hz (C:=C) (w:=w) ht;obtain⟨u,hu,ru⟩:=PH (P:=C.P) (t:=t) (ab9 hh rl off) hi.1 hi.2 hx
 grind [aJ,av,o9.env]
def Vw(S:lQ C φ σ a w): ∀{cs ds:List AV}{ns:List Nat}{vs:List Value},vwL σ.heap cs=some (ds,ns)->kf (C.env φ σ.heap w) cs vs->kf (C.env φ σ.heap w) ds vs
 |[],_,_,_,h,r=>by grind [vwL]
 |c::cs,ds,ns,vs,h,⟨u,us,hv,r1,r2⟩=>by
  unfold vwL at h;split at h
  ·cases ‹_::_=[]›
  ·rename_i l n cs' heq;simp only[aB] at heq;obtain⟨rfl,rfl⟩:=heq;split at h
   ·rename_i qT sz rows hl;split at h
    ·rename_i hn;split at h
     ·rename_i es ms he;simp only[aj,aE] at h;obtain⟨rfl,_⟩:=h;cases qT with
      |false=>exact⟨u,us,hv,r1,Vw S he r2⟩
      |true=>
       have hu:=Ie S hl hn r1;subst hu;exact⟨_,us,hv,SJ S hl,Vw S he r2⟩
     ·cases h
    ·cases h
   ·cases h
  ·rename_i c' cs' _ heq;simp only[aB] at heq;obtain⟨rfl,rfl⟩:=heq;split at h
   ·rename_i es ms he;simp only[aj,aE] at h;obtain⟨rfl,_⟩:=h;exact⟨u,us,hv,r1,Vw S he r2⟩
   ·cases h
def anZ(S:lQ C φ σ a w){v:AV}{e:tL}(h:ldV σ.heap l v=some e)(r:nr (C.env φ σ.heap w) v u):e.up=[]/\e.nw=[]/\e.pre=True/\nr (C.env φ σ.heap w) e.val u:=by
 unfold ldV at h;split at h
 ·split at h
  ·rename_i ds ns he;cases h;obtain⟨vs,hv,rl⟩:=r;exact⟨rfl,rfl,rfl,vs,hv,Vw S he rl⟩
  ·cases h
 grind
theorem asC(ht:oF C.P t=some (g,n))(hx:lG g n cs=some x)
 (r:nr (C.env φ σ.heap w) (.pp cs) v): ∃u,(aJ t v).run C.P w= .ok u w/\nr (C.env φ σ.heap w) x u:=by
 obtain⟨b,off,rfl,rm⟩:=r;have hi:=Hz (C:=C) (w:=w) ht;obtain⟨u,hu,ru⟩:=PH (P:=C.P) (t:=t) (Jt rm) hi.1 hi.2 hx
 grind [aJ,av,o9.env]
def XX{m:Sem α}{f:α->Sem β}{x:α}{r:Result β}(h1:m.run P w= .ok x w)(h2:(f x).run P w=r):(m>>=f).run P w=r:=by
 rw[ai,h1];exact h2
def IA {t':TypeId}{x y:Operand}(ht:aky P t=true):
 ((∀op,(eqGuard op t x y (.iface t' u) .nilIface).run P w= .ok () w)/\ ∀op,(eqGuard op t x y .nilIface .nilIface).run P w= .ok () w)/\
 ((binOp .eql t (.iface t' u) .nilIface).run P w= .ok (.bool false) w/\(binOp .neq t (.iface t' u) .nilIface).run P w= .ok (.bool true) w)/\
 (binOp .eql t .nilIface .nilIface).run P w= .ok (.bool true) w/\(binOp .neq t .nilIface .nilIface).run P w= .ok (.bool false) w:=by
 unfold aky at ht;split at ht
 ·rename_i ms hu;obtain⟨d,hd⟩: ∃d,Op.maxDepth=d+1:=⟨_,rfl⟩
  have e1:(Op.equal t (.iface t' u) .nilIface).run P w= .ok false w:=by
   simp_all [Op.equal,Op.equalIn,run_underlying]
  have e2:(Op.equal t .nilIface .nilIface).run P w= .ok true w:=by
   unfold Op.equal;simp_all [Op.equalIn,run_underlying]
  have key:(Op.eqGuardIn Op.maxDepth t .nilIface .nilIface).run P w= .ok false w:=by
   simp_all [Op.eqGuardIn,run_underlying]
  have g1: ∀op,(eqGuard op t x y (.iface t' u) .nilIface).run P w= .ok () w:=by
   simp_all [eqGuard]
  have hg: ∀op,(eqGuard op t x y .nilIface .nilIface).run P w= .ok () w:=by
   simp_all [eqGuard]
  exact⟨⟨g1,hg⟩,⟨XX e1 rfl,XX e1 rfl⟩,XX e2 rfl,XX e2 rfl⟩
 ·cases ht
def asD{op:BinOp}{y:Operand}{e:tL}(h:Xg P op t x y=some e)(r:nr E x v):
 ∃b,a.eval y= .slice none 0 0/\(do eqGuard op t ox y v (.slice none 0 0);binOp op t v (.slice none 0 0):Sem Value).run P w= .ok (.bool b) w/\e={val:= .bool b}:=by
 have key: ∀(base:Option Addr)(n c:Nat),(nu P t).isSome=true->(do eqGuard .eql t ox y (.slice base n c) (.slice none 0 0);binOp .eql t (.slice base n c) (.slice none 0 0):Sem Value).run P w= .ok (.bool base.isNone) w:=by
  intro base n c ht
  obtain⟨e',he'⟩: ∃e',P.underlying t=some (.slice e'):=by
   grind [nu]
  exact XX rfl (Lib.run_eql_slice_nil w t e' base n c 0 0 he')
 unfold Xg at h;split at h
 ·rename_i base n c;split at h
  ·rename_i ht;cases h;have r:v=_:=r;subst r;exact⟨_,rfl,key base n c ht,rfl⟩
  ·cases h
 ·split at h
  ·rename_i ht;cases h;obtain⟨base,cap,rfl,h2,_,h4,_⟩:=r;refine⟨_,rfl,key base _ cap ht.2,?_⟩;cases base with
   |none=>
    simp_all
   |some a=>rfl
  ·cases h
 ·cases h
theorem mE.take: ∀{cs:List AV}{off:Nat}(k:Nat),mE E b off cs->mE E b off (cs.take k)
 |[],_,_,_=>by simp [mE]
 |_::_,_,0,_=>by simp [mE]
 |_::_,_,k+1,⟨h,r⟩=>by
  rw[List.take_succ_cons];exact⟨h,mE.take k r⟩
def acj{E:Env}{b sz:Nat}: ∀{n:Nat}{cs ds:List AV}{off:Nat},ab6 sz n cs=some ds->mE E b off cs->mE E b (off+n*sz) ds
 |0,cs,ds,off,h,r=>by
  grind [ab6,mE.take]
 |n+1,cs,ds,off,h,r=>by
  have:=acj (n:=n) h (r.drop sz)
  grind
def Me (S:lQ C φ σ a w) {e:tL} (h:kI C.P σ o.op=some e) (hp:e.pre):wN C σ a w o.dst ((execOp a.eval o).run C.P w) e:=by
 cases ho:o.op with
 |move x=>
  rw[ho] at h;cases h;refine wN.of_eq ?_ (kN (rd:=[]) (p:=True) (m:=pure (a.eval x)) S ⟨_,rfl,S.ev x⟩);simp [execOp,ho]
 |assign x=>
  rw[ho] at h;cases h;refine wN.of_eq ?_ (kN (rd:=[]) (p:=True) (m:=pure (a.eval x)) S ⟨_,rfl,S.ev x⟩);simp [execOp,ho]
 |pick c x y=>
  rw[ho] at h;have hc:=S.ev c;simp only[kI] at h;split at h
  ·rename_i b hb;rw[hb] at hc;simp only[nr] at hc;cases h;refine wN.of_eq ?_ (kN (rd:=[]) (p:=True) (m:=pure (bif b then a.eval x else a.eval y)) S ⟨_,rfl,?_⟩)
   ·grind [execOp,asBool]
   ·cases b
    ·exact S.ev y
    ·exact S.ev x
  ·cases h
 |alloc t=>
  rw[ho] at h;simp only[kI] at h;split at h
  ·rename_i z hz;cases h;obtain⟨v,hv,hr,hone⟩:=Vu (w:=w) hz;refine afb (c:=v.cells) (t:=t) S ?_ (hr _) hone;simp only[execOp,ho,Instr.alloc,ai,hv,af,newVar,newRow,run_newObj,aq];rfl
  ·cases h
 |box t x=>
  rw[ho] at h;simp only[kI] at h;split at h
  ·rename_i cs hc;cases h;refine afb (c:=(a.eval x).cells) (t:=t) S ?_ (DK hc (S.ev x)).1 (DK hc (S.ev x)).2;simp only[execOp,ho,Instr.box,ai,af,newVar,newRow,run_newObj,aq];rfl
  ·cases h
 |build t parts=>
  rw[ho] at h;simp only[kI] at h
  grind [kN,ahJ,execOp]
 |buildSlice t len parts=>
  rw[ho] at h;simp only[kI] at h;split at h
  ·rename_i et sz by' ht;split at h
   ·rename_i z hz;split at h
    ·rename_i hc;split at h
     ·rename_i rows hr;cases asE:asr t (ae3 (parts.toList.map (·.2))) with
      |true=>
       grind [XW,execOp]
      |false=>
      rw[asE] at h;cases h;obtain⟨v,c,hrun,qE⟩:=Zv S ht hz hc hr;refine anX S (o:= .cells c et) (by grind) (v:=v) ?_ qE;simp [execOp,ho,hrun]
     ·cases h
    ·cases h
   ·cases h
  ·cases h
 |load t x=>
  rw[ho] at h;have hx:=S.ev x;simp only[kI] at h;split at h
  ·rename_i g n l off ht hp';rw[hp'] at hx;split at h
   ·rename_i cs hl;split at h
    ·rename_i v hv;obtain⟨u,hu,ru⟩:=ahO S ht hl hv hx;obtain⟨h1,h2,h3,h4⟩:=anZ S h ru;obtain⟨val,rd,up,nw,pre⟩:=e;simp only at h1 h2 h3 h4;subst h1 h2 h3;refine wN.of_eq ?_ (kN (rd:=rd) (p:=True) S ⟨u,hu,h4⟩);simp [execOp,ho]
    ·cases h
   ·cases h
  ·grind [kN,asC,execOp]
  ·grind [kN,apS,execOp]
  ·rename_i n rv ht hp';rw[hp'] at hx;simp only[nr] at hx;unfold ab7 at h;split at h
   case h_2=>cases h
   rename_i b o';split at h
   ·rename_i k hk;rw[aM] at h;obtain⟨m,hm,h⟩:=h;cases h;obtain⟨hd,hkv⟩:=ast hk hm;obtain⟨v,hc,hv,_⟩:=S.know b o' hd;have:=hkv v hv;subst this;have hi:=Hz (C:=C) (w:=w) ht;refine wN.of_eq ?_ (kN (rd:=[]) (p:=True) (m:=aJ t (a.eval x)) S ⟨.int k m,?_,rfl⟩)
    ·simp [execOp,ho]
    ·rw[hx]
     have hM:ahH (C.env φ σ.heap w) b o' [.int k m]:=⟨[.int k m],⟨_,_,rfl,rfl,rfl⟩,fun j u hj=>by
      cases j with
      |zero=>simp at hj;subst hj;exact hc
      |succ j=>simp at hj⟩
     obtain⟨u,hu,ru⟩:=PH (P:=C.P) (t:=t) hM hi.1 hi.2 (x:= .int k m) rfl;have ru:u= .int k m:=ru
     grind [aJ,av,o9.env]
   ·cases h
  ·cases h
 |store t x y=>
  rw[ho] at h;have hx:=S.ev x;simp only[kI] at h;split at h
  ·rename_i g n l off ys ht hp' hc;rw[hp'] at hx;split at h
   ·rename_i cs hl;split at h
    ·rename_i ahP;cases h;obtain⟨hr,h1⟩:=DK hc (S.ev y);obtain⟨w',hrun,hS⟩:=ahI S ht hl hr h1 ahP.1 ahP.2 hx;refine⟨.skip,undef,w',φ,?_,.inr ⟨rfl,rfl⟩,?_⟩
     ·simp [execOp,ho,hrun]
     ·rw[ace];exact hS.put _ trivial
    ·cases h
   ·cases h
  ·rename_i g n l i m o' sz ys ht hp' hc;rw[hp'] at hx;split at h
   ·rename_i JP rows hl;split at h
    ·rename_i hcc;obtain⟨rfl,hm⟩:=hcc;split at h
     ·rename_i r hr';split at h
      ·rename_i ahP;cases h;obtain⟨hr,h1⟩:=DK hc (S.ev y);obtain⟨w',hrun,hS⟩:=anV S ht hl hm hr' hr h1 ahP.1 ahP.2 hx;refine⟨.skip,undef,w',φ,?_,.inr ⟨rfl,rfl⟩,?_⟩
       ·simp [execOp,ho,hrun]
       ·rw[ace];exact hS.put _ trivial
      ·cases h
     ·cases h
    ·cases h
   ·cases h
  ·cases h
 |nilCheck x=>
  rw[ho] at h;have hx:=S.ev x;simp only[kI] at h;split at h
  ·rename_i l off hp';rw[hp'] at hx;cases h;obtain⟨hl,b,hb,hv⟩:=hx;refine wN.of_eq ?_ (kN (rd:=[]) (p:=True) (m:=pure (a.eval x)) S ⟨_,rfl,hl,b,hb,hv⟩);simp [execOp,ho,hv]
  ·rename_i cs hp';rw[hp'] at hx;cases h;obtain⟨b,off,hv,hm⟩:=hx;refine wN.of_eq ?_ (kN (rd:=[]) (p:=True) (m:=pure (a.eval x)) S ⟨_,rfl,b,off,hv,hm⟩);simp [execOp,ho,hv]
  ·rename_i f fs cs hp';rw[hp'] at hx;cases h;obtain⟨f',c',hv,r1,r2⟩:=hx;refine wN.of_eq ?_ (kN (rd:=[]) (p:=True) (m:=pure (a.eval x)) S ⟨_,rfl,f',c',hv,r1,r2⟩);simp [execOp,ho,hv]
  ·cases h
 |binOp op t x y ty=>
  rw[ho] at h;simp only[kI] at h;split at h
  ·rename_i v hv;cases h;refine wN.of_eq ?_ (kN (rd:=[]) (p:=True) S (ahM (t:=t) (ox:=x) (oy:=y) (w:=w) hv (S.ev x) (S.ev y)));simp [execOp,ho]
  ·have hx:=S.ev x;have hy:=S.ev y;unfold ae1 at h;split at h
   ·rename_i e' he;have hq:=asD (a:=a) (w:=w) (ox:=x) he hx;cases h;obtain⟨b,hb,hv,he2⟩:=hq;subst he2;refine wN.of_eq ?_ (kN (rd:=[]) (p:=True) (m:=(do eqGuard op t x y (a.eval x) (a.eval y);binOp op t (a.eval x) (a.eval y):Sem Value)) S ⟨.bool b,?_,rfl⟩)
    all_goals grind [execOp]
   rename_i hnE;clear hnE;unfold Zt at h;split at h
   ·rename_i cs ds h1 h2 _;cases h;rw[h1] at hx;rw[h2] at hy;obtain⟨vs,hvs,r1⟩:=hx;obtain⟨us,hus,r2⟩:=hy;refine wN.of_eq ?_ (kN (rd:=[]) (p:=ae0 C.P t cs ds) S ⟨.bool (eqB cs ds),(hp _ vs us w x y r1 r2).1,rfl⟩);simp [execOp,ho,hvs,hus]
   ·rename_i cs ds h1 h2 _;cases h;rw[h1] at hx;rw[h2] at hy;obtain⟨vs,hvs,r1⟩:=hx;obtain⟨us,hus,r2⟩:=hy;refine wN.of_eq ?_ (kN (rd:=[]) (p:=ae0 C.P t cs ds) S ⟨.bool (!eqB cs ds),(hp _ vs us w x y r1 r2).2,rfl⟩);simp [execOp,ho,hvs,hus]
   ·rename_i p q h1 h2 _;split at h
    ·rename_i ht;cases h;rw[h1] at hx;rw[h2] at hy;simp only[nr] at hx hy;refine wN.of_eq ?_ (kN (rd:=[]) (p:=True) (m:=pure (.bool (p==q))) S ⟨_,rfl,rfl⟩)
     simp_all [execOp,afa,avR]
    ·cases h
   ·rename_i p q h1 h2 _;split at h
    ·rename_i ht;cases h;rw[h1] at hx;rw[h2] at hy;simp only[nr] at hx hy;refine wN.of_eq ?_ (kN (rd:=[]) (p:=True) (m:=pure (.bool (!(p==q)))) S ⟨_,rfl,rfl⟩)
     simp_all [execOp,afa,avS]
    ·cases h
   all_goals first
    |(cases h;done)
    |skip
   ·rename_i t' z h1 h2 _;split at h
    ·rename_i ht;cases h;rw[h1] at hx;rw[h2] at hy;obtain⟨u,hx,_⟩:=hx;have hy:a.eval y= .nilIface:=hy;refine wN.of_eq ?_ (kN (rd:=[]) (p:=True) (m:=pure (.bool false)) S ⟨_,rfl,rfl⟩);simp [execOp,ho,hx,hy,(IA (w:=w) (t':=t') (u:=u) (x:=x) (y:=y) ht).1.1,(IA (w:=w) (t':=t') (u:=u) (x:=x) (y:=y) ht).2.1.1]
    ·cases h
   ·rename_i t' z h1 h2 _;split at h
    ·rename_i ht;cases h;rw[h1] at hx;rw[h2] at hy;obtain⟨u,hx,_⟩:=hx;have hy:a.eval y= .nilIface:=hy;refine wN.of_eq ?_ (kN (rd:=[]) (p:=True) (m:=pure (.bool true)) S ⟨_,rfl,rfl⟩);simp [execOp,ho,hx,hy,(IA (w:=w) (t':=t') (u:=u) (x:=x) (y:=y) ht).1.1,(IA (w:=w) (t':=t') (u:=u) (x:=x) (y:=y) ht).2.1.2]
    ·cases h
   ·rename_i h1 h2 _;split at h
    ·rename_i ht;cases h;rw[h1] at hx;rw[h2] at hy;have hx:a.eval x= .nilIface:=hx;have hy:a.eval y= .nilIface:=hy;refine wN.of_eq ?_ (kN (rd:=[]) (p:=True) (m:=pure (.bool true)) S ⟨_,rfl,rfl⟩);simp [execOp,ho,hx,hy,(IA (w:=w) (t':=t) (u:=undef) (x:=x) (y:=y) ht).1.2,(IA (w:=w) (t':=t) (u:=undef) (x:=x) (y:=y) ht).2.2.1]
    ·cases h
   ·rename_i h1 h2 _;split at h
    ·rename_i ht;cases h;rw[h1] at hx;rw[h2] at hy;have hx:a.eval x= .nilIface:=hx;have hy:a.eval y= .nilIface:=hy;refine wN.of_eq ?_ (kN (rd:=[]) (p:=True) (m:=pure (.bool false)) S ⟨_,rfl,rfl⟩);simp [execOp,ho,hx,hy,(IA (w:=w) (t':=t) (u:=undef) (x:=x) (y:=y) ht).1.2,(IA (w:=w) (t':=t) (u:=undef) (x:=x) (y:=y) ht).2.2.2]
    ·cases h
 |unOp op t x=>
  rw[ho] at h;have hx:=S.ev x;simp only[kI] at h;split at h
  ·rename_i b hb;rw[hb] at hx;simp only[nr] at hx;cases h;refine wN.of_eq ?_ (kN (rd:=[]) (p:=True) (m:=pure (.bool !b)) S ⟨_,rfl,rfl⟩);simp [execOp,ho,hx,Op.unary]
  ·rename_i k n hb;rw[hb] at hx;simp only[nr] at hx;cases h;refine wN.of_eq ?_ (kN (rd:=[]) (p:=True) (m:=pure (.int k (k.wrap (0-n)))) S ⟨_,rfl,rfl⟩);simp [execOp,ho,hx,Op.unary,Op.intArith]
  ·rename_i k n hb;rw[hb] at hx;simp only[nr] at hx;cases h;refine wN.of_eq ?_ (kN (rd:=[]) (p:=True) (m:=Op.intBits .xor k (if k.signed then-1 else k.max) n) S ⟨_,rfl,rfl⟩);simp [execOp,ho,hx,Op.unary]
  ·cases h
 |convert s d x=>
  rw[ho] at h;have hx:=S.ev x;simp only[kI] at h;split at h
  ·rename_i v hv;rw[hv] at hx;simp only[nr] at hx;split at h
   ·rename_i hc;simp only[aS] at hc;cases h;refine wN.of_eq ?_ (kN (rd:=[]) (p:=True) (m:=pure (.string v)) S ⟨_,rfl,rfl⟩)
    simp_all [execOp,convert,run_underlying,XV]
   ·cases h
  ·rename_i k n hv;rw[hv] at hx;simp only[nr] at hx;split at h
   ·rename_i k1 k2 h1 h2;cases h;refine wN.of_eq ?_ (kN (rd:=[]) (p:=True) (m:=pure (.int k2 (k2.wrap n))) S ⟨_,rfl,rfl⟩)
    simp_all [execOp,convert,run_underlying,amV,Conv.intToInt]
   ·rename_i k1 h1 h2;split at h
    ·rename_i hs;cases h;refine wN.of_eq ?_ (kN (rd:=[]) (p:=True) (m:=pure (.string (Utf8.encode n))) S ⟨_,rfl,rfl⟩)
     simp_all [execOp,convert,run_underlying,amV,XV,Conv.intToString]
    ·cases h
   ·cases h
  ·cases h
 |makeInterface t x=>
  rw[ho] at h;simp only[kI] at h;split at h
  ·rename_i hc;cases h;refine wN.of_eq ?_ (kN (rd:=[]) (p:=True) (m:=pure (.iface t (a.eval x))) S ⟨_,rfl,_,rfl,S.ev x⟩);unfold p7 at hc;cases hu:C.P.underlying t with
   |none=>simp [hu] at hc
   |some d=>
    simp only[hu] at hc;cases d<;>simp_all [execOp,Instr.makeInterface,run_underlying hu]
  ·cases h
 |makeFunc fn f c=>
  rw[ho] at h;cases h;refine wN.of_eq ?_ (kN (rd:=[]) (p:=True) (m:=Instr.makeFunc fn (f.map a.eval) (c.map a.eval)) S ⟨_,rfl,_,_,rfl,?_,?_⟩)
  all_goals simp_all [execOp,Iz]
 |makeSlice t x y=>
  rw[ho] at h;have hx:=S.ev x;have hy:=S.ev y;simp only[kI] at h
  grind [nr,aa1,execOp]
 |slice t x lo hi mx=>
  rw[ho] at h;have hx:=S.ev x;simp only[kI] at h
  have hex:(execOp a.eval o).run C.P w=(do pure (.value (<-aT t (a.eval x) (lo.map a.eval) (hi.map a.eval) (mx.map a.eval))):Sem Next).run C.P w:=by
   simp [execOp,ho]
  refine wN.of_eq hex ?_;split at h
  ·rename_i et sz by' ht;split at h
   ·cases h
   ·rename_i hmx;have azz:(mx.isSome&&hi.isNone)=false:=(Bool.not_eq_true _).mp hmx;unfold XS at h;split at h
    ·grind [kN,ae8]
    ·rename_i k n hv;rw[hv] at hx;split at h
     ·rename_i JP rows hl;split at h
      ·rename_i l hh m h1 h2 h3;split at h
       ·rename_i hc;obtain⟨rfl,hn,hc⟩:=hc;cases h;have hvv:=Ie S hl hn hx;have:=ae8 (tt:=false) S ht h1 h2 h3 (.inl rfl) hc azz (SJ S hl)
        grind [kN]
       ·cases h
      ·cases h
     ·cases h
    ·cases h
  ·split at h
   ·rename_i s ht hv;rw[hv] at hx;simp only[nr] at hx;split at h
    ·rename_i l hh h1 h2;split at h
     ·rename_i hc;cases h;exact kN S ⟨_,by grind [anW],rfl⟩
     ·cases h
    ·cases h
   ·cases h
 |fieldAddr t x i=>
  rw[ho] at h;have hx:=S.ev x;simp only[kI] at h
  grind [execOp,kN,aa0]
 |field t x i=>
  rw[ho] at h;have hx:=S.ev x;simp only[kI] at h;split at h
  ·rename_i f u cs hf hv;rw[hv] at hx;split at h
   ·rename_i g n ht;split at h
    ·rename_i v hl;cases h;obtain⟨vs,hvs,rl⟩:=hx;obtain⟨fs,fd,j,hu,hfi,hj,_,rfl,rfl⟩:=amU hf;have hi:=Hz (C:=C) (w:=w) ht;refine wN.of_eq ?_ (kN (rd:=[]) (p:=True) S (akC hi.1 hi.2 rl hl))
     simp_all [execOp,Instr.field,run_underlying,asAgg]
    ·cases h
   ·cases h
  ·cases h
 |indexAddr t x i=>
  rw[ho] at h;have hx:=S.ev x;have hi:=S.ev i;simp only[kI] at h
  have hex:(execOp a.eval o).run C.P w=(do pure (.value (<-aH t (a.eval x) (a.eval i))):Sem Next).run C.P w:=by
   simp [execOp,ho]
  refine wN.of_eq hex ?_;split at h
  ·rename_i et sz by' ht;split at h
   ·rename_i tt JP rows k n hv hn;rw[hv] at hx;rw[hn] at hi;simp only[nr] at hi;split at h
    ·rename_i hc;obtain⟨rfl,hc⟩:=hc;split at h
     ·rename_i r hr;cases h;have:=WC (k:=k) ht hc hr hx
      grind [kN]
     ·cases h
    ·cases h
   ·rename_i l m k n hv hn;rw[hv] at hx;rw[hn] at hi;simp only[nr] at hi;split at h
    ·rename_i JP rows hl;split at h
     ·rename_i hc;obtain⟨rfl,hc,hm⟩:=hc;split at h
      ·rename_i r hr;cases h;have:=ad1 (k:=k) S ht hc hl hm hr hx
       grind [kN]
      ·cases h
     ·cases h
    ·rename_i JP rows hl;split at h
     ·rename_i hc;obtain⟨rfl,hc,hm,hlt⟩:=hc;cases h;obtain⟨hu,ti,hti,rfl,rfl⟩:=KD ht;have hv':=Ie S hl hm hx;obtain⟨base,cap,hh,h2,h3,h4,h5⟩:=S.mV l _ hl;have hsz:(sizeOf et).run C.P w= .ok ti.size w:=by simp [sizeOf,typeInfo,hti]
      cases base with
      |none=>have:=h3 rfl;omega
      |some b=>
       obtain⟨hsp,_⟩:=h5 b rfl (by omega);have hb:b=⟨b.block,b.off,none⟩:=by cases b;simp_all
       refine kN S ⟨.pointer (some ⟨b.block,b.off+n.toNat*ti.size,none⟩),?_,hx.1,⟨_,rfl⟩,?_⟩
       ·rw[hi,hv',hh];have avQ:0<=n/\n<(rows.length:Int):=⟨hc,by omega⟩;simp only[aH,asIntOf,ai,aq,af,run_underlying hu,avQ,and_self,jD,hsz];rw[hb,add_plain]
       ·intro k' hk';simp only[o9.env,hl,lr,aj] at hk';refine⟨by omega,fun _=>⟨b.block,b.off,rows.length,cap,?_,rfl⟩⟩
        grind [o9.env]
     ·cases h
    ·cases h
   ·cases h
  ·split at h
   ·rename_i len sz ht;split at h
    ·rename_i l off k n hv hn;rw[hv] at hx;rw[hn] at hi;simp only[nr] at hi;split at h
     ·rename_i hc;cases h;unfold ahG at ht;split at ht
      ·rename_i n' e hu;split at ht
       ·rename_i ti hti;simp only[aj,aE] at ht;obtain⟨rfl,rfl⟩:=ht;obtain⟨hl,b,hb,hv'⟩:=hx;have hsz:(sizeOf e).run C.P w= .ok ti.size w:=by simp [sizeOf,typeInfo,hti]
        refine kN S ⟨.pointer (some ⟨b,off+n.toNat*ti.size,none⟩),?_,hl,b,hb,rfl⟩;rw[hi,hv'];simp only[aH,asIntOf,ai,aq,af,run_underlying hu,av,hc,and_self,jD,hsz];rw[add_plain]
       ·cases ht
      ·cases ht
     ·cases h
    ·rename_i cs k n hv hn;rw[hv] at hx;rw[hn] at hi;simp only[nr] at hi;split at h
     ·rename_i hc;rw[aM] at h;obtain⟨ds,hd,he⟩:=h;obtain rfl:=Option.some.inj he;unfold ahG at ht;split at ht
      ·rename_i n' e hu;split at ht
       ·rename_i ti hti;simp only[aj,aE] at ht;obtain⟨rfl,rfl⟩:=ht;obtain⟨b,off,hv',rm⟩:=hx;have hsz:(sizeOf e).run C.P w= .ok ti.size w:=by simp [sizeOf,typeInfo,hti]
        refine kN S ⟨.pointer (some ⟨b,off+n.toNat*ti.size,none⟩),?_,b,_,rfl,acj hd rm⟩;rw[hi,hv'];simp only[aH,asIntOf,ai,aq,af,run_underlying hu,av,hc,and_self,jD,hsz];rw[add_plain]
       ·cases ht
      ·cases ht
     ·cases h
    ·rename_i b off k n hv hn;rw[hv] at hx;rw[hn] at hi;simp only[nr] at hi hx;split at h
     ·rename_i hc;cases h;unfold ahG at ht;split at ht
      ·rename_i n' e hu;split at ht
       ·rename_i ti hti;simp only[aj,aE] at ht;obtain⟨rfl,rfl⟩:=ht;have hsz:(sizeOf e).run C.P w= .ok ti.size w:=by simp [sizeOf,typeInfo,hti]
        refine kN S ⟨.pointer (some ⟨b,off+n.toNat*ti.size,none⟩),?_,rfl⟩;rw[hi,hx];simp only[aH,asIntOf,ai,aq,af,run_underlying hu,av,hc,and_self,jD,hsz];rw[add_plain]
       ·cases ht
      ·cases ht
     ·cases h
    ·cases h
   ·cases h
 |index t x i=>
  rw[ho] at h;have hx:=S.ev x;have hi:=S.ev i;simp only[kI] at h;split at h
  ·rename_i s k n ht hv hn;rw[hv] at hx;rw[hn] at hi;simp only[nr] at hi hx;split at h
   ·rename_i hc;split at h
    ·rename_i b hb;cases h;refine wN.of_eq ?_ (kN (rd:=[]) (p:=True) (m:=pure (.int .u8 b.toNat)) S ⟨_,rfl,rfl⟩)
     simp_all [execOp,Instr.index,asIntOf,run_underlying,XV]
    ·cases h
   ·cases h
  ·cases h
 |extract x i=>
  rw[ho] at h;have hx:=S.ev x;simp only[kI] at h;split at h
  ·rename_i vs hv;rw[hv] at hx;split at h
   ·rename_i v hi;cases h;obtain⟨us,hu,rl⟩:=hx;obtain⟨u,hu',ru⟩:=rl.get hi;refine wN.of_eq ?_ (kN (rd:=[]) (p:=True) (m:=pure u) S ⟨_,rfl,ru⟩)
    grind [execOp,Instr.extract]
   ·cases h
  ·cases h
 |call c=>
  obtain⟨cl,args,ts⟩:=c;cases cl with
  |builtin b=>
   rw[ho] at h;exact ad2 S ho h hp
  |value f=>rw[ho] at h;cases h
  |invoke r m=>rw[ho] at h;cases h
 |makeMap t r=>
  rw[ho] at h;cases r with
  |some r=>cases h
  |none=>
   cases h;have S':=S.asB;refine⟨.value (.map (some w.heap.size)),.map (some w.heap.size),World.more w (.map #[] 0),(fun l=>if l=σ.heap.length then .map (some w.heap.size) else φ l),?_,.inl rfl,?_⟩
   ·simp_all [execOp,Instr.makeMap,World.more]
   ·rw[Zw];refine S'.put _ ⟨by simp [o9.env],by simp [o9.env],w.heap.size,by simp [o9.env,hdl]⟩
 |typeAssert x u t ok=>
  rw[ho] at h;cases ok with
  |false=>cases h
  |true=>
   have hx:=S.ev x;simp only[kI] at h;unfold af2 at h;split at h
   ·rename_i t' z hx';split at h
    ·rename_i hc;obtain⟨rfl,hc⟩:=hc;cases h;rw[hx'] at hx;obtain⟨q,hq,hr⟩:=hx;refine wN.of_eq ?_ (kN (rd:=[]) (p:=True) (m:=pure (.tuple #[q,.bool true])) S ⟨_,rfl,_,rfl,_,_,rfl,hr,_,_,rfl,rfl,rfl⟩);unfold p7 at hc;cases hu:C.P.underlying t' with
     |none=>simp [hu] at hc
     |some d=>
      simp only[hu] at hc;cases d<;>simp_all [execOp,Instr.typeAssert,run_underlying hu]
    ·cases h
   ·cases h
 |lookup t x k ok=>
  rw[ho] at h;cases ok with
  |true=>
   have hx:=S.ev x;have hk:=S.ev k;simp only[kI] at h;split at h
   ·rename_i z l s ht hx' hk';rw[hx'] at hx;rw[hk'] at hk;have hk:a.eval k= .string s:=hk;unfold Zu at h;split at h
    ·rename_i es hl;split at h
     ·rename_i hs;cases h;obtain⟨u,b,hrun,qE⟩:=aci (s:=s) S ht hl hs hx;have hv:ae4 z l (vm s es)={val:=(ae4 z l (vm s es)).val,rd:=[l]}:=by cases vm s es<;>rfl
      grind [kN,execOp]
     ·cases h
    ·cases h
   ·cases h
  |false=>
   have hx:=S.ev x;have hk:=S.ev k;simp only[kI] at h;split at h
   ·rename_i z l s ht hx' hk';rw[hx'] at hx;rw[hk'] at hk;have hk:a.eval k= .string s:=hk;unfold Vs at h;split at h
    ·rename_i es hl;split at h
     ·rename_i hs;cases h;obtain⟨u,hrun,qE⟩:=af5 (s:=s) S ht hl hs hx
      grind [kN,execOp]
     ·cases h
    ·cases h
   ·cases h
 |range t x=>
  rw[ho] at h;have hx:=S.ev x;simp only[kI] at h;split at h
  ·rename_i s ht hv;rw[hv] at hx;simp only[nr] at hx;cases h;have S':=S.apT s;refine⟨.value (.pointer (some ⟨w.heap.size,0,none⟩)),.pointer (some ⟨w.heap.size,0,none⟩),World.more w (.stringIter s 0),(fun l=>if l=σ.heap.length then .pointer (some ⟨w.heap.size,0,none⟩) else φ l),?_,.inl rfl,?_⟩
   ·simp [execOp,ho,hx,Instr.range,run_underlying (XV ht),newObj,Sem.run,World.more,aA]
   ·rw[Zw];refine S'.put _ ⟨by simp [o9.env],w.heap.size,by simp [o9.env],rfl⟩
  ·cases h
 |next x st=>
  rw[ho] at h;cases st with
  |false=>cases h
  |true=>
   have hx:=S.ev x;simp only[kI] at h;split at h
   ·rename_i l hv;rw[hv] at hx;obtain⟨u,w',hrun,qE,hS,hn⟩:=akD (ty:=o.type) S h hx;refine⟨.value u,u,w',φ,?_,.inl rfl,?_⟩
    ·simp [execOp,ho,hrun]
    ·have:=hS.put o.dst qE;cases hd:o.dst<;>simpa [jI.app,jI.put,hn,hd] using this
   ·cases h
 |mapUpdate t x k y=>
  rw[ho] at h;have hx:=S.ev x;have hk:=S.ev k;simp only[kI] at h;split at h
  ·rename_i z l s ht hx' hk';rw[hx'] at hx;rw[hk'] at hk;have hk:a.eval k= .string s:=hk;unfold yG at h;split at h
   ·rename_i es hl;split at h
    ·rename_i hs;cases h;obtain⟨w',hrun,hS⟩:=Rf (s:=s) S ht hl hs hx (S.ev y);refine⟨.skip,undef,w',φ,?_,.inr ⟨rfl,rfl⟩,?_⟩
     ·simp [execOp,ho,hk,hrun]
     ·rw[ace];exact hS.put _ trivial
    ·cases h
   ·cases h
  ·cases h
 |insert t x k y=>
  rw[ho] at h;have hx:=S.ev x;have hk:=S.ev k;simp only[kI] at h;split at h
  ·rename_i z l s ht hx' hk';rw[hx'] at hx;rw[hk'] at hk;have hk:a.eval k= .string s:=hk;unfold yG at h;split at h
   ·rename_i es hl;split at h
    ·rename_i hs;cases h;obtain⟨w',hrun,hS⟩:=Rf (s:=s) S ht hl hs hx (S.ev y);refine⟨.skip,undef,w',φ,?_,.inr ⟨rfl,rfl⟩,?_⟩
     ·simp [execOp,ho,hk,hrun]
     ·rw[ace];exact hS.put _ trivial
    ·cases h
   ·cases h
  ·cases h
 |_=>rw[ho] at h;cases h
end sound
inductive mc where
 |normal
 |exit (id:Nat)
 |goto (l:Nat)
 |ret
 |panic (x:AV)
inductive sv where
 |ret (r:AV)
 |panic (x:AV)
def sv.Vv(E:Env):sv->Ending->Prop
 | .ret r,.returned v=>nr E r v
 | .panic x,.panicked chain=> ∃v,chain=[{v,recovered:=false}]/\nr E x v
 |_,_=>False
def enters(P:Program)(f:FuncId):Bool:=
 match P.funcs[f]? with
 |some fn=>fn.body.isSome&&fn.name != "runtime.NumGoroutine"
 |none=>false
def ya(P:Program)(f:FuncId)(args:List AV)(σ:jI)(K:sv->List jS->Prop):Prop:=
 enters P f=true/\ ∀(C:o9)(φ:Nat->Value)(a:Act)(w:World),C.P=P->lQ C φ σ a w-> ∀vs:Array Value,kf (C.env φ σ.heap w) args vs.toList->
  Calls P f vs w fun e w'=> ∃o φ' H',K o H'/\lQ C φ' {σ with heap:=H'} a w'/\o.Vv (C.env φ' H' w') e
def FE(σ σ':jI):Prop:= ∀(C:o9)(φ:Nat->Value)(a:Act)(w:World),lQ C φ σ a w-> ∃φ',lQ C φ' σ' a w
theorem FE.refl(σ:jI):FE σ σ:=fun _ φ _ _ S=>⟨φ,S⟩
theorem FE.trans {σ'':jI}(h:FE σ σ')(h':FE σ' σ''):FE σ σ'':=fun C φ a w S=>
 let ⟨φ',S'⟩:=h C φ a w S
 h' C φ' a w S'
def lR(σ:jI):Op->Option (FuncId×List AV)
 | .call {callee:= .value f,args,..}=>match σ.ev f with
   | .func (.func fid) first cap=>some (fid,first++args.toList.map σ.ev++cap)
   |_=>none
 |_=>none
def yieldOf(σ:jI):Op->Option (Nat×List AV)
 | .call {callee:= .value f,args,..}=>match σ.ev f with
   | .map l=>some (l,args.toList.map σ.ev)
   |_=>none
 |_=>none
def CN(σ:jI):Op->Option (FuncId×List AV)
 | .defer {callee:= .value f,args,..}=>match σ.ev f with
   | .func (.func fid) first cap=>some (fid,first++args.toList.map σ.ev++cap)
   |_=>none
 |_=>none
def N5(σ:jI):Op->Option AV
 | .panic x=>match σ.ev x with
   | .iface t y=>some (.iface t y)
   |_=>none
 |_=>none
def jI.dfr(σ:jI)(p:FuncId×List AV)(dst:Option Tmp):jI:={σ with df:=p::σ.df}.put dst (.raw undef)
def BS(ro:Option Nat):Fence:={aZ with round:=ro}
def ES{args:Array Value}:CallsIn (BS ro) n P f args w R↔Calls P f args w R:=by
 rw[<-callsIn_wide (n:=n)];exact Iff.rfl
def ahQ{tmps:Array Value}{as body:Code}:RoundIn (BS ro) n P l f tmps as body w R↔RoundIn aZ n P l f tmps as body w R:=Iff.rfl
def SM(P:Program)(h:Value)(w:World)(vs:Array Value)(R:Ending->World->Prop):Prop:=
 ∀ (D:Nat) (rec:Loop),h= .func (.yield (D+1)) #[] #[]->w.heap[D+1]? =some (.loop rec)->
   RoundIn aZ 0 P (D+1) rec.fn ((rec.params.zip vs).foldl (fun tmps (t,a)=>tmps.setIfInBounds t a) rec.tmps) rec.assign rec.body w R
def HA(P:Program)(l:Nat)(args:List AV)(σ:jI)(K:sv->List jS->Prop):Prop:=
 (∃k slots st qP,σ.heap[l]? =some (.loop k slots st qP)/\args.length=k.ps.size)/\ ∀(C:o9)(φ:Nat->Value)(a:Act)(w:World),C.P=P->lQ C φ σ a w-> ∀vs:Array Value,kf (C.env φ σ.heap w) args vs.toList->
   SM P (φ l) w vs fun e w'=> ∃o φ' H',K o H'/\lQ C φ' {σ with heap:=H'} a w'/\o.Vv (C.env φ' H' w') e
def n6(ops:Array Oper)(o:Oper)(σ:jI):Option Bool:=
 match o.guard with
 |none=>some true
 |some (j,want)=>match (ops[j]?).bind (·.dst) with
  |some d=>match σ.slots[d]? with
   |some (.bool b)=>some (b==want)
   |some (.raw (.tuple _))=>some false
   |_=>none
  |none=>none
def MU (P:Program) (ops:Array Oper):List Oper->(mc->jI->Prop)->jI->Prop
 |[],Q,σ=>Q .normal σ
 |o::rest,Q,σ=>match n6 ops o σ with
  |none=>False
  |some b=>(b=true->match lR σ o.op with
    |some (f,args)=>ya P f args σ fun o' H'=>match o' with
     | .ret r=>MU P ops rest Q (jI.put {σ with heap:=H'} o.dst r)
     | .panic x=>Q (.panic x) {σ with heap:=H'}
    |none=>match yieldOf σ o.op with
     |some (l,args)=>HA P l args σ fun o' H'=>match o' with
      | .ret r=>MU P ops rest Q (jI.put {σ with heap:=H'} o.dst r)
      | .panic _=>False
     |none=>match kI P σ o.op with
      |some e=>e.pre/\MU P ops rest Q (σ.app o.dst e)
      |none=>match CN σ o.op with
       |some p=>MU P ops rest Q (σ.dfr p o.dst)
       |none=>match N5 σ o.op with
        |some x=>Q (.panic x) σ
        |none=>False)/\
   (b=false->MU P ops rest Q (σ.put o.dst (.raw undef)))
def QC(C:o9)(Q:mc->jI->Prop):Exit->Act->World->Prop
 | .normal,a,w=> ∃φ σ,lQ C φ σ a w/\Q .normal σ
 | .exit id,a,w=> ∃φ σ,lQ C φ σ a w/\Q (.exit id) σ
 | .goto l,a,w=> ∃φ σ,lQ C φ σ a w/\Q (.goto l) σ
 | .ret,a,w=> ∃φ σ,lQ C φ σ a w/\Q .ret σ
 | .panic chain,a,w=> ∃φ σ x v,lQ C φ σ a w/\Q (.panic x) σ/\chain=[{v,recovered:=false}]/\nr (C.env φ σ.heap w) x v
 | .outgrown,_,_=>False
section sound

theorem vO(S:lQ C φ σ a w){ops:Array Oper}{b:Bool}(h:n6 ops o σ=some b):Region.wanted o (yielded ops a.tmps)=b:=by
 unfold n6 at h;unfold Region.wanted;split at h
 ·rename_i hg;rw[hg];simpa using h
 ·rename_i j want hg;rw[hg];split at h
  ·rename_i d hd
   have hy:yielded ops a.tmps j=match a.tmps[d]? with|some (.bool b)=>some b|_=>none:=by
    unfold yielded;rw[hd];rfl
   split at h
   ·rename_i b' hs;obtain⟨v,hv,r⟩:=S.slots.get hs
    simp_all [nr]
   ·rename_i vs hs;obtain⟨v,hv,r⟩:=S.slots.get hs
    grind [nr]
   ·cases h
  ·cases h
def FF(S:lQ C φ σ a w)(h:lR σ o.op=some (f,args))(hf:enters C.P f=true):
 ∃vs:Array Value,(execOp a.eval o).run C.P w= .ok (.enter f vs) w/\kf (C.env φ σ.heap w) args vs.toList:=by
 unfold lR at h;split at h
 ·rename_i x xs ts ho;split at h
  ·rename_i fid first cap hv
   cases h;have hx:=S.ev x;rw[hv] at hx;obtain⟨f',c',hx,r1,r2⟩:=hx;refine⟨f'++xs.map a.eval++c',?_,?_⟩
   ·unfold enters at hf;split at hf
    ·rename_i fn hfn;simp only[aS,bne_iff_ne,ne_eq] at hf;have hnone:fn.body≠none:=by intro hb;simp [hb] at hf
     simp [execOp,ho,resolve,hx,Deferred.ofValue,invoke,callFunc,hfn,hf.2,hnone]
    ·cases hf
   ·simp only[bV,bC];exact(r1.append (Iz S xs.toList)).append r2
  ·cases h
 ·cases h
theorem IB{o:Op}{q:FuncId×List AV}(h:lR σ o=some q): ∀c,o≠ .defer c:=by
 rintro c rfl;simp [lR] at h
theorem akE{o:Op}{q:Nat×List AV}(h:yieldOf σ o=some q): ∀c,o≠ .defer c:=by
 rintro c rfl;simp [yieldOf] at h
theorem ahR{o:Op}{e:tL}(h:kI P σ o=some e): ∀c,o≠ .defer c:=by
 rintro c rfl;simp [kI] at h
def ahS(S:lQ C φ σ a w){D:Nat}{rec:Loop}(h:yieldOf σ o.op=some (l,args))(hφ:φ l= .func (.yield (D+1)) #[] #[])(hw:w.heap[D+1]? =some (.loop rec))(hn:args.length=rec.params.size):
 ∃vs:Array Value,(execOp a.eval o).run C.P w= .ok (.round (D+1) rec.fn ((rec.params.zip vs).foldl (fun tmps (t,a)=>tmps.setIfInBounds t a) rec.tmps) rec.assign rec.body) w/\kf (C.env φ σ.heap w) args vs.toList:=by
 unfold yieldOf at h;split at h
 ·rename_i x xs ts ho;split at h
  ·rename_i l' hv;cases h;have hx:=S.ev x;rw[hv] at hx;obtain⟨_,hx,_⟩:=hx;have hx':a.eval x= .func (.yield (D+1)) #[] #[]:=hx.trans hφ;refine⟨xs.map a.eval,?_,?_⟩
   all_goals grind [run_yield,execOp,resolve,Deferred.ofValue,invoke,bC,Iz]
  ·cases h
 ·cases h
theorem apW{o:Op}{q:AV}(h:N5 σ o=some q): ∀c,o≠ .defer c:=by
 rintro c rfl;simp [N5] at h
def amY:Op->Bool
 | .defer _=>true
 |_=>false
def ahT(S:lQ C φ σ a w){p:FuncId×List AV}(h:CN σ o.op=some p):
 ∃d:Deferred,(execOp a.eval o).run C.P w= .ok (.defer d) w/\XR d=false/\ ∃cap,d.target= .fn (.func p.1) cap/\kf (C.env φ σ.heap w) p.2 (d.args++cap).toList:=by
 unfold CN at h;split at h
 ·rename_i x xs ts ho;split at h
  ·rename_i fid first cap hv
   cases h;have hx:=S.ev x;rw[hv] at hx;obtain⟨f',c',hx,r1,r2⟩:=hx;refine⟨{target:= .fn (.func fid) c',args:=f'++xs.map a.eval},?_,rfl,c',rfl,?_⟩
   ·simp [execOp,ho,resolve,hx,Deferred.ofValue]
   ·simp only[bV,bC];exact(r1.append (Iz S xs.toList)).append r2
  ·cases h
 ·cases h
def an0(S:lQ C φ σ a w)(h:N5 σ o.op=some x): ∃v,(execOp a.eval o).run C.P w= .halt (.panic v) w/\nr (C.env φ σ.heap w) x v:=by
 unfold N5 at h;split at h
 ·rename_i y ho;split at h
  ·rename_i t z hv;cases h;have hx:=S.ev y;rw[hv] at hx;obtain⟨u,hu,r⟩:=hx;refine⟨.iface t u,?_,u,rfl,r⟩;simp [execOp,ho,hu,Instr.panic]
  ·cases h
 ·cases h
def lQ.dfr(S:lQ C φ σ a w){p:FuncId×List AV}{d:Deferred}{cap:Array Value}(hm:XR d=false)(hd:d.target= .fn (.func p.1) cap)(hr:kf (C.env φ σ.heap w) p.2 (d.args++cap).toList):
 lQ C φ (σ.dfr p dst) ({a with defers:=d::a.defers}.put dst undef) w:=by
 have S1:lQ C φ {σ with df:=p::σ.df} {a with defers:=d::a.defers} w:=by
  refine {S with slots:=S.slots,defers:=⟨?_,?_,?_⟩}
  ·simp only[List.filter_cons,hm,az,if_false];exact S.defers.1
  ·intro d' hd' hm';rcases aG.1 hd' with rfl|hd'
   ·rw[hm] at hm';cases hm'
   ·exact S.defers.2.1 d' hd' hm'
  ·simp only[List.filter_cons,hm,bK,jD];exact⟨d,_,cap,rfl,hd,hr,S.defers.2.2⟩
 exact S1.put dst rfl
def XY {ro:Option Nat} {P:Program} (hP:C.P=P) {ops:Array Oper} {Q:mc->jI->Prop}: ∀ (rest:List Oper) (k:Nat),(ro=none\/rest.all (fun o=> !amY o.op)=true)->ops.toList.drop k=rest-> ∀ (φ:Nat->Value) (σ:jI) (a:Act) (w:World),
 MU P ops rest Q σ->lQ C φ σ a w->wpOpsIn (BS ro) 0 P ops (QC C Q) (List.range' k rest.length) a w
 |[],k,_,_,φ,σ,a,w,h,S=>⟨φ,σ,S,h⟩
 |o::rest,k,hro,hk,φ,σ,a,w,h,S=>by
  have ho:ops[k]? =some o:=by
   have:=congrArg (fun l:List Oper=>l[0]?) hk;simpa using this
  have qD:ops.toList.drop (k+1)=rest:=by
   grind [bn]
  have ih:=XY (ro:=ro) hP (Q:=Q) rest (k+1) (hro.imp id fun h=>by grind) qD;simp only[a8,List.range'_succ,wpOpsIn,ho];simp only[MU] at h;split at h
  ·exact h.elim
  ·rename_i b hb;rw[vO S hb];cases b with
   |false=>
    simp only[az,if_false];exact⟨fun _ _=>trivial,ih φ _ _ w (h.2 rfl) (S.put o.dst rfl)⟩
   |true=>
    simp only[jD];have h:=h.1 rfl;split at h
    ·rename_i f args hc;obtain⟨he,tW⟩:=h;subst hP;obtain⟨vs,hrun,hr⟩:=FF S hc he;refine⟨fun _ _=>trivial,?_⟩;rw[aO _ _ _ (IB hc),hrun,bu];refine⟨fun h=>by simp [BS,aZ] at h,ES.2 ?_⟩;refine(tW C φ a w rfl S vs hr).mono fun e w' ⟨o',φ',H',hK,S',qE⟩=> ?_
     cases o' with
     |ret r=>
      cases e with
      |returned v=>exact ih φ' _ _ w' hK (S'.put o.dst qE)
      |panicked chain=>exact qE.elim
      |outgrown=>exact qE.elim
     |panic x=>
      cases e with
      |returned v=>exact qE.elim
      |panicked chain=>
       obtain⟨v,hc,hr⟩:=qE;exact⟨φ',_,x,v,S',hK,hc,hr⟩
      |outgrown=>exact qE.elim
    ·split at h
     ·rename_i l args hy;obtain⟨⟨k,slots,st,qP,hl,hn⟩,tW⟩:=h;subst hP;obtain⟨D,rec,hφ,hw1,hw2,RY,rl⟩:=S.mV l _ hl;obtain⟨vs,hrun,hr⟩:=ahS S hy hφ hw1 (by rw[RY.1];exact hn);refine⟨fun _ _=>trivial,?_⟩;rw[aO _ _ _ (akE hy),hrun,Oper.uponIn_round];refine⟨fun h=>by simp [BS,aZ] at h,ahQ.2 ?_⟩;refine(tW C φ a w rfl S vs hr D rec hφ hw1).mono fun e w' ⟨o',φ',H',hK,S',qE⟩=> ?_
      cases o' with
      |ret r=>
       cases e with
       |returned v=>exact ih φ' _ _ w' hK (S'.put o.dst qE)
       |panicked chain=>exact qE.elim
       |outgrown=>exact qE.elim
      |panic x=>exact hK.elim
     ·split at h
      ·rename_i e he;obtain⟨n,v,w',φ',hr,hn,S'⟩:=Me S (hP ▸ he) h.1;refine⟨fun _ _=>trivial,?_⟩
       grind [aO,ahR,Oper.uponIn_value,Oper.uponIn_skip]
      ·split at h
       ·rename_i p hd;obtain⟨d,hrun,hm,cap,azA,hr⟩:=ahT S hd
        have azB:ro=none:=by
         rcases hro with hro|hro
         ·exact hro
         ·rw[List.all_cons,aS] at hro;unfold CN at hd;split at hd
          ·rename_i ho';rw[ho'] at hro;cases hro.1
          ·cases hd
        subst azB;refine⟨fun _ _=>trivial,?_⟩;have azC:Oper.semAt (BS none).round a.eval o=execOp a.eval o:=Oper.semAt_none _ _;rw[azC,<-hP,hrun,Oper.uponIn_defer,hP];exact ih φ _ _ w h (S.dfr hm azA hr)
       ·split at h
        ·rename_i x hx;obtain⟨v,hrun,hr⟩:=an0 S hx;refine⟨fun _ _=>trivial,?_⟩;rw[<-hP,aO _ _ _ (apW hx),hrun,Oper.uponIn_panic];exact⟨φ,σ,x,v,S,h,rfl,hr⟩
        ·exact h.elim
end sound
def GP(P:Program)(f:FuncId)(args:List AV)(V:AV->Prop):Prop:=
 enters P f=true/\uB 0 args/\ ∀(C:o9)(φ:Nat->Value)(w:World),C.P=P->C.w0=w->C.N0=0->(∀b o,¬ C.M0 b o)-> ∀vs:Array Value,kf (C.env φ [] w) args vs.toList->
  Calls P f vs w fun e w'=> ∃r v φ',V r/\e= .returned v/\nr (C.env φ' [] w') r v/\w.heap.size<=w'.heap.size/\(∀b,b<w.heap.size->w'.heap[b]? =w.heap[b]?)/\
   (∀x,x.block<w.heap.size->w'.frozen? x=w.frozen? x)/\w'.output=w.output/\w'.os=w.os
section grown

theorem cell_of_heap(hh: ∀b,b<w.heap.size->w'.heap[b]? =w.heap[b]?){o:Nat}(hb:b<w.heap.size):w'.cell? ⟨b,o,none⟩=w.cell? ⟨b,o,none⟩:=by
 simp only[World.cell?,hh b hb]
def lQ.grown(S:lQ C φ σ a w)(hs:w.heap.size<=w'.heap.size)(hh: ∀b,b<w.heap.size->w'.heap[b]? =w.heap[b]?)(hf: ∀x,x.block<w.heap.size->w'.frozen? x=w.frozen? x)(hr:w'.output=w.output/\w'.os=w.os):
 lQ C φ σ a w':=by
 have le:(C.env φ σ.heap w).Le σ.heap.length (C.env φ σ.heap w'):=
  o9.z8 (au _) (fun _ _=>⟨rfl,rfl⟩) (fun b o u hm hc=>⟨hm,by grind [cell_of_heap,El]⟩)
 refine {slots:=kf.mono le _ _ (kf.nb _ _ S.slots) S.slots,defers:=S.defers.same le hh,mV:= ?_,apart:=S.apart,rz:=S.rz,size:=bz S.size hs,old:= ?_,mF:= ?_,Bi:=S.Bi,tX:=fun x hx=>by rw[hf x (ae hx S.size)];exact S.tX x hx,rest:=⟨by rw[hr.1];exact S.rest.1,by rw[hr.2];exact S.rest.2⟩,low:=S.low,names:=S.names}
 ·intro l x hx;have r:=S.mV l x hx;exact mN.mono r le (fun b hb=>hh b (r.py hb))
 ·intro b o hb hm;rw[cell_of_heap hh (ae hb S.size)];exact S.old b o hb hm
 ·intro b hb hm;rw[hh b (ae hb S.size)];exact S.mF b hb hm
def lQ.callee(S:lQ C φ σ a w):o9:=
 {P:=C.P,w0:=w,M0:=fun _ _=>False,A:=fun b o=>Dq φ σ.heap b o\/C.A b o,
  hA:=by
   rintro b o (⟨l,x,hx,hm⟩|hA)
   ·exact(S.mV l x hx).py (jS.mK hm)
   ·exact ae (C.hA b o hA) S.size
  hk:=fun b o h=>let ⟨v,h1,h2,_⟩:=S.know b o h;⟨v,h1,h2,fun f=>f⟩}
def lQ.an1(S:lQ C φ σ a w)(φ':Nat->Value)(w1:World):(C.env φ σ.heap w1).Le 0 (S.callee.env φ' [] w1):=by
 refine⟨Nat.zero_le _,fun l hl=>absurd hl (bF _),fun b o u hm hc=>⟨?_,hc⟩⟩;simp only[o9.env,lQ.callee] at hm ⊢;rintro(⟨l,x,hx,_⟩|h)
 ·simp at hx
 ·exact hm h
def lQ.an2(S:lQ C φ σ a w)(φ':Nat->Value)(w1:World):(S.callee.env φ' [] w1).Le 0 (C.env φ σ.heap w1):=by
 refine⟨Nat.zero_le _,fun l hl=>absurd hl (bF _),fun b o u hm hc=>⟨?_,hc⟩⟩
 simp_all [o9.env,lQ.callee]
def XZ{V:AV->Prop}{K:sv->List jS->Prop}(h:GP P f args V)(hK: ∀r,V r->K (.ret r) σ.heap):ya P f args σ K:=by
 obtain⟨he,hn,hc⟩:=h;refine⟨he,fun C φ a w hP S vs hr=> ?_⟩;refine(hc S.callee φ w hP rfl rfl (fun _ _ h=>h) vs (kf.mono (S.an1 φ w) _ _ hn hr)).mono ?_;rintro e w' ⟨r,v,φ',hV,rfl,Vv,hs,hh,hf,ho⟩;refine⟨.ret r,φ,σ.heap,hK r hV,S.grown hs hh hf ho,?_⟩;exact nr.mono (S.an2 φ' w') _ _ (nr.nb _ _ Vv) Vv
end grown
section loc

def X1{c:Call}{x:Operand}(h:x∈c.args):x∈(Op.call c).operands:=by
 grind [aa,Call.operands]
def SN{d:Nat}{x:Option Operand}(h: ∀y,x=some y->σ'.ev y=σ.ev y):bound σ' d x=bound σ d x:=by
 cases x with
 |none=>rfl
 |some y=>simp only[bound,h y rfl]
theorem Zx{H H':List jS}: ∀{cs ds:List AV}{ns:List Nat},vwL H cs=some (ds,ns)->(∀l∈ns,H'[l]? =H[l]?)->vwL H' cs=some (ds,ns)
 |[],_,_,h,_=>by simp only[vwL] at h ⊢;exact h
 |c::cs,ds,ns,h,hr=>by
  unfold vwL at h ⊢;split at h
  ·cases ‹_::_=[]›
  ·rename_i l n cs' heq;simp only[aB] at heq;obtain⟨rfl,rfl⟩:=heq;split at h
   ·rename_i qT sz rows hl;split at h
    ·rename_i hn;split at h
     ·rename_i es ms he;simp only[aj,aE] at h;obtain⟨rfl,rfl⟩:=h;have:=Zx he (fun k hk=>hr k (by simp [hk]))
      grind
     ·cases h
    ·cases h
   ·cases h
  ·rename_i c' cs' hne heq;simp only[aB] at heq;obtain⟨rfl,rfl⟩:=heq;split at h
   ·rename_i es ms he;simp only[aj,aE] at h;obtain⟨rfl,rfl⟩:=h;have:=Zx he hr
    grind
   ·cases h
theorem akF{H:List jS}: ∀{cs ds:List AV}{ns:List Nat},vwL H cs=some (ds,ns)-> ∀l∈ns,l<H.length
 |[],_,_,h=>by grind [vwL]
 |c::cs,ds,ns,h=>by
  unfold vwL at h;split at h
  ·cases ‹_::_=[]›
  ·rename_i l n cs' heq;simp only[aB] at heq;obtain⟨rfl,rfl⟩:=heq;split at h
   ·rename_i qT sz rows hl;split at h
    ·split at h
     ·rename_i es ms he;simp only[aj,aE] at h;obtain⟨_,rfl⟩:=h;intro k hk;simp only[aG] at hk;rcases hk with rfl|hk
      ·grind
      ·exact akF he k hk
     ·cases h
    ·cases h
   ·cases h
  ·rename_i c' cs' hne heq;simp only[aB] at heq;obtain⟨rfl,rfl⟩:=heq;split at h
   ·rename_i es ms he;simp only[aj,aE] at h;obtain⟨_,rfl⟩:=h;exact akF he
   ·cases h
theorem an3{v:AV}{e:tL}(h:ldV H l v=some e)(hr: ∀k∈e.rd,H'[k]? =H[k]?):ldV H' l v=some e:=by
 unfold ldV at h ⊢
 grind [Zx]
theorem apX{v:AV}{e:tL}(h:ldV H l v=some e):l∈e.rd/\e.up=[]/\ ∀k∈e.rd,k=l\/k<H.length:=by
 unfold ldV at h
 grind [akF]
theorem ahU {o:Op} {e:tL} (h:kI P σ o=some e) (PJ: ∀x∈o.operands,σ'.ev x=σ.ev x) (hrd: ∀l∈e.rd,σ'.heap[l]? =σ.heap[l]?) (hnw:e.nw≠[]->σ'.heap.length=σ.heap.length):
 kI P σ' o=some e:=by
 cases o with
 |move x=>simp only[kI] at h ⊢;grind [aa]
 |assign x=>simp only[kI] at h ⊢;grind [aa]
 |pick c x y=>simp only[kI] at h ⊢;grind [aa]
 |alloc t=>
  simp only[kI] at h ⊢
  grind
 |box t x=>
  simp only[kI] at h ⊢
  grind [aa]
 |build t parts=>
  simp only[kI] at h ⊢
  grind [aK,aa]
 |buildSlice t len parts=>
  simp only[kI] at h ⊢
  have:(parts.toList.map fun p=>(p.1,σ'.ev p.2))=(parts.toList.map fun p=>(p.1,σ.ev p.2)):=by
   grind [aK,aa]
  rw[this];cases asE:asr t (ae3 (parts.toList.map (·.2))) with
  |false=>rw[asE] at h;exact h
  |true=>
   rw[asE] at h;have hn:σ'.heap.length=σ.heap.length:=hnw (by grind);rw[hn];exact h
 |load t x=>
  simp only[kI] at h ⊢;rw[PJ x (by simp [aa])];split at h
  ·grind [apX,an3]
  all_goals grind
 |store t x y=>
  simp only[kI] at h ⊢;rw[PJ x (by simp [aa]),PJ y (by simp [aa])];split at h
  all_goals grind
 |nilCheck x=>simp only[kI] at h ⊢;grind [aa]
 |binOp op t x y ty=>simp only[kI] at h ⊢;grind [aa]
 |unOp op t x=>simp only[kI] at h ⊢;grind [aa]
 |convert s d x=>simp only[kI] at h ⊢;grind [aa]
 |makeInterface t x=>simp only[kI] at h ⊢;grind [aa]
 |makeFunc fn f c=>
  simp only[kI] at h ⊢
  grind [aK,aa]
 |makeSlice t x y=>
  simp only[kI] at h ⊢;rw[PJ x (by simp [aa]),PJ y (by simp [aa])];split at h
  all_goals grind
 |slice t x lo hi mx=>
  simp only[kI] at h ⊢;have hx:=PJ x (by simp [aa]);have h1: ∀d,bound σ' d lo=bound σ d lo:=fun d=>SN fun y hy=>PJ y (by simp [aa,hy])
  have h2: ∀d,bound σ' d hi=bound σ d hi:=fun d=>SN fun y hy=>PJ y (by simp [aa,hy])
  have h3: ∀d,bound σ' d mx=bound σ d mx:=fun d=>SN fun y hy=>PJ y (by simp [aa,hy])
  rw[hx];simp only[XS,h1,h2,h3] at h ⊢;split at h
  ·split at h
   ·cases h
   ·rename_i hmx;rw[if_neg hmx];split at h
    all_goals grind
  ·exact h
 |fieldAddr t x i=>simp only[kI] at h ⊢;grind [aa]
 |field t x i=>simp only[kI] at h ⊢;grind [aa]
 |indexAddr t x i=>
  simp only[kI] at h ⊢;rw[PJ x (by simp [aa]),PJ i (by simp [aa])];split at h
  ·split at h
   all_goals grind
  ·exact h
 |index t x i=>simp only[kI] at h ⊢;grind [aa]
 |extract x i=>simp only[kI] at h ⊢;grind [aa]
 |call c=>
  obtain⟨cl,args,ts⟩:=c;cases cl with
  |builtin b=>
   simp only[kI] at h ⊢;have e1:args.toList.map σ'.ev=args.toList.map σ.ev:=aK fun x hx=>PJ x (X1 (by simpa using hx))
   rw[e1];revert h;generalize args.toList.map σ.ev=xs;generalize ts.toList=tl;intro h;unfold Hx at h ⊢;split at h
   ·rename_i t x;unfold ae2 at h ⊢
    grind
   ·rename_i t u x y;split at h
    ·rename_i et sz by' ht hu;split at h
     ·split at h
      ·rename_i hc;rw[if_pos hc];unfold N3 at h ⊢;split at h
       ·cases h
       ·rename_i rd ys hsrc
        have hsub: ∀l∈rd,l∈e.rd:=by
         grind
        have axH:PF σ' sz y=some (rd,ys):=by
         unfold PF at hsrc ⊢;split at hsrc
         all_goals grind
        rw[axH];simp only;split at h
        all_goals grind
      ·cases h
     ·cases h
    ·cases h
   all_goals grind
  |value f=>cases h
  |invoke r m=>cases h
 |makeMap t r=>
  cases r with
  |some r=>cases h
  |none=>cases h;simp only[kI];rw[hnw (by simp)]
 |typeAssert x u t ok=>
  cases ok with
  |false=>cases h
  |true=>simp only[kI] at h ⊢;grind [aa]
 |lookup t x k ok=>
  cases ok with
  |true=>
   simp only[kI] at h ⊢;rw[PJ x (by simp [aa]),PJ k (by simp [aa])];split at h
   ·rename_i z l s ht hx' hk';unfold Zu at h ⊢;split at h
    ·rename_i es hl;split at h
     ·rename_i hs;cases h;rw[hrd l (by cases vm s es<;>simp [ae4]),hl];simp [hs]
     ·cases h
    ·cases h
   ·cases h
  |false=>
   simp only[kI] at h ⊢;rw[PJ x (by simp [aa]),PJ k (by simp [aa])];split at h
   ·rename_i z l s ht hx' hk';unfold Vs at h ⊢
    grind
   ·cases h
 |range t x=>
  simp only[kI] at h ⊢
  grind [aa]
 |next x st=>
  cases st with
  |false=>cases h
  |true=>
   simp only[kI] at h ⊢;rw[PJ x (by simp [aa])];split at h
   ·rename_i l hv;unfold Vt at h ⊢
    grind
   ·cases h
 |mapUpdate t x k y=>
  simp only[kI] at h ⊢;rw[PJ x (by simp [aa]),PJ k (by simp [aa]),PJ y (by simp [aa])];split at h
  ·rename_i z l s ht hx' hk';unfold yG at h ⊢
   grind
  ·cases h
 |insert t x k y=>
  simp only[kI] at h ⊢;rw[PJ x (by simp [aa]),PJ k (by simp [aa]),PJ y (by simp [aa])];split at h
  ·rename_i z l s ht hx' hk';unfold yG at h ⊢
   grind
  ·cases h
 |_=>cases h
end loc
def wO(o:Oper):List Nat:=(o.after.toList.filter (Region.binds .any)).map (·.on)
def af6:List Oper->List Nat->List Nat
 |[],acc=>acc
 |o::os,acc=>af6 os (acc++[(wO o).foldl (fun s d=>s|||2 ^ d|||acc.getD d 0) 0])
def nI(ops:Array Oper)(i j:Nat):Bool:=((af6 ops.toList []).getD j 0).testBit i
def yI:Op->Bool
 | .call {callee:= .builtin _,..}=>false
 | .call _=>true
 |_=>false
def Ez (ops:Array Oper):Bool:=
 Region.noSelect ops&&
 (let r:=af6 ops.toList []
  (bP ops.size).all fun j=>match ops[j]? with
   |none=>true
   |some oj=>(wO oj).all (· <j)&&(bP j).all fun i=>match ops[i]? with
    |none=>true
    |some oi=>(r.getD j 0).testBit i||(oi.apart ops oj&& !(yI oi.op&&yI oj.op)))
structure Tr where
 j:Nat
 n:Nat
 e:tL
def ET(a b:List Nat):Bool:=a.all fun x=> !b.contains x
def yJ(t:Tr)(e:tL):Bool:=
 ET (t.e.up.map (·.1)) (e.rd++e.up.map (·.1))&&ET (e.up.map (·.1)) t.e.rd&&
 (t.e.nw.isEmpty||(e.nw.isEmpty&&(e.rd++e.up.map (·.1)).all fun l=>decide (l<t.n)))&&
 ((!t.e.whole||(e.up.isEmpty&&e.nw.isEmpty))&&(!e.whole||(t.e.up.isEmpty&&t.e.nw.isEmpty)))
def quiet:Op->Bool
 | .move _| .assign _| .pick _ _ _| .load _ _| .store _ _ _| .binOp _ _ _ _ _| .unOp _ _ _| .fieldAddr _ _ _| .field _ _ _| .indexAddr _ _ _| .index _ _ _| .extract _ _=>true
 |_=>false
def PL(o:Oper):Bool:=(match o.op with| .alloc _=>true|_=>false)&&o.guard.isNone
def SO (ops:Array Oper) (i j:Nat):Bool:=
 match ops[i]?,ops[j]? with
 |some oi,some oj=>PL oi&&PL oj&&(wO oi).isEmpty&&(wO oj).isEmpty&&decide (i<j)&&
  (bP ops.size).all fun k=>k==i||k==j||(match ops[k]? with
    |none=>true
    |some o=>quiet o.op&&(nI ops i k==nI ops j k))
 |_,_=>false
def aa2(ops:Array Oper)(i j:Nat):Bool:=nI ops i j||SO ops i j
def Ad(ops:Array Oper)(tr:List Tr)(j:Nat)(e:tL):Bool:=tr.all fun t=>yJ t e||aa2 ops t.j j
def IC(P:Program)(f:FuncId)(args:List AV)(σ:jI)(e:tL):Prop:=
 ((∀l∈e.rd,l<σ.heap.length)/\ ∀l∈e.up.map (·.1),l∈e.rd)/\
 ∀σ':jI,(∀l∈e.rd,σ'.heap[l]? =σ.heap[l]?)->(e.nw≠[]->σ'.heap.length=σ.heap.length)->(e.whole=true->σ'.heap=σ.heap)->ya P f args σ' (fun o H'=>o= .ret e.val/\H'=lu σ'.heap e.up++e.nw)
def IC.move{e:tL}(h:IC P f args σ e)(h1: ∀l∈e.rd,σ'.heap[l]? =σ.heap[l]?)(h2:e.nw≠[]->σ'.heap.length=σ.heap.length)(h3:e.whole=true->σ'.heap=σ.heap):IC P f args σ' e:=by
 refine⟨⟨fun l hl=> ?_,h.1.2⟩,fun σ2 k1 k2 k3=>h.2 σ2 (fun l hl=>(k1 l hl).trans (h1 l hl)) (fun hn=>(k2 hn).trans (h2 hn)) (fun hw=>(k3 hw).trans (h3 hw))⟩;have hlt:=h.1.1 l hl
 grind
def uC(P:Program)(ops:Array Oper)(o:Oper)(σ:jI)(S:tL->Prop):Prop:=
 (n6 ops o σ=some false/\ ∀e,S e↔e={val:= .raw undef})\/
 (n6 ops o σ=some true/\lR σ o.op=none/\ ∃e,kI P σ o.op=some e/\e.pre/\ ∀e',S e'↔e'=e)\/
 (n6 ops o σ=some true/\ ∃f args V,lR σ o.op=some (f,args)/\GP P f args V/\(∃r,V r)/\ ∀e,S e↔ ∃r,V r/\e={val:=r})\/
 (n6 ops o σ=some true/\ ∃f args e,lR σ o.op=some (f,args)/\IC P f args σ e/\ ∀e',S e'↔e'=e)
def VZ(P:Program)(ops:Array Oper)(K:jI->Prop):List Nat->List Tr->jI->Prop
 |[],_,σ=>K σ
 |j::rest,tr,σ=> ∃o S,ops[j]? =some o/\uC P ops o σ S/\ ∀e,S e->Ad ops tr j e=true/\VZ P ops K rest (tr++[⟨j,σ.heap.length,e⟩]) (σ.app o.dst e)
section
variable {ops:Array Oper} {K:jI->Prop}
theorem ahV: ∀{R:List Nat}{tr tr':List Tr}{σ:jI},(∀t∈tr',t∈tr)->VZ P ops K R tr σ->VZ P ops K R tr' σ
 |[],_,_,_,_,h=>h
 |j::rest,tr,tr',σ,hs,⟨o,S,ho,hst,h⟩=>by
  refine⟨o,S,ho,hst,fun e he=> ?_⟩;obtain⟨hc,hr⟩:=h e he;refine⟨?_,ahV ?_ hr⟩
  all_goals grind [Ad]
def uC.nonempty{S:tL->Prop}(h:uC P ops o σ S): ∃e,S e:=by
 rcases h with⟨_,h⟩|⟨_,_,e,_,_,h⟩|⟨_,f,args,V,_,_,⟨r,hr⟩,h⟩|⟨_,f,args,e,_,_,h⟩
 ·exact⟨_,(h _).2 rfl⟩
 ·exact⟨e,(h e).2 rfl⟩
 ·exact⟨_,(h _).2 ⟨r,hr,rfl⟩⟩
 ·exact⟨e,(h e).2 rfl⟩
def uC.det{S:tL->Prop}(h:uC P ops o σ S)(hc:yI o.op=false): ∃e,∀e',S e'↔e'=e:=by
 rcases h with⟨_,h⟩|⟨_,_,e,_,_,h⟩|⟨_,f,args,V,h1,_,_,h⟩|⟨_,f,args,e,_,_,h⟩
 ·exact⟨_,h⟩
 ·exact⟨e,h⟩
 rotate_left
 ·exact⟨e,h⟩
 ·exfalso;unfold lR at h1
  grind [yI]
def uC.eq{S S':tL->Prop}(h:uC P ops o σ S)(h':uC P ops o σ S')(hc:yI o.op=false): ∀e,S e↔S' e:=by
 have nc: ∀{f args},lR σ o.op≠some (f,args):=by
  intro f args h1;unfold lR at h1
  grind [yI]
 rcases h with⟨hw,h⟩|⟨hw,_,e,he,_,h⟩|⟨_,f,args,V,h1,_⟩|⟨_,f,args,_,h1,_⟩
 ·rcases h' with⟨_,h'⟩|⟨hw',_⟩|⟨_,f,args,V,h1,_⟩|⟨_,f,args,_,h1,_⟩
  all_goals grind
 ·rcases h' with⟨hw',_⟩|⟨_,_,e2,he2,_,h'⟩|⟨_,f,args,V,h1,_⟩|⟨_,f,args,_,h1,_⟩
  all_goals grind
 all_goals grind
def If(h: ∀j b d,o.guard=some (j,b)->(ops[j]?).bind (·.dst)=some d->σ'.slots[d]? =σ.slots[d]?):n6 ops o σ'=n6 ops o σ:=by
 grind [n6]
theorem FG{o:Op}(h: ∀x∈o.operands,σ'.ev x=σ.ev x):lR σ' o=lR σ o:=by
 unfold lR;split
 all_goals grind [aa,Call.operands,aK]
def uC.local{S:tL->Prop}(h:uC P ops o σ S)(PJ: ∀x∈o.op.operands,σ'.ev x=σ.ev x)(hw:n6 ops o σ'=n6 ops o σ)
 (hh: ∀e,S e->((∀l∈e.rd,σ'.heap[l]? =σ.heap[l]?)/\(e.nw≠[]->σ'.heap.length=σ.heap.length))/\(e.whole=true->σ'.heap=σ.heap)):uC P ops o σ' S:=by
 rcases h with⟨h1,h⟩|⟨h1,h2,e,he,hp,h⟩|⟨h1,f,args,V,h2,h3,h4,h⟩|⟨h1,f,args,e,h2,h3,h⟩
 ·exact .inl ⟨by rw[hw];exact h1,h⟩
 ·refine .inr (.inl ⟨by rw[hw];exact h1,by rw[FG PJ];exact h2,e,?_,hp,h⟩)
  grind [ahU]
 ·exact .inr (.inr (.inl ⟨by rw[hw];exact h1,f,args,V,by rw[FG PJ];exact h2,h3,h4,h⟩))
 ·obtain⟨⟨a,b⟩,c⟩:=hh e ((h e).2 rfl);exact .inr (.inr (.inr ⟨by rw[hw];exact h1,f,args,e,by rw[FG PJ];exact h2,h3.move a b c,h⟩))
theorem rA: ∀(ups:List (Nat×jS))(H:List jS),(lu H ups).length=H.length
 |[],_=>rfl
 |(l,x)::r,H=>by simp [lu,rA r]
theorem X4: ∀(ups:List (Nat×jS))(H:List jS)(l:Nat),l ∉ ups.map (·.1)->(lu H ups)[l]? =H[l]?
 |[],_,_,_=>rfl
 |(k,x)::r,H,l,h=>by
  simp only[bq,aG,not_or] at h;rw[lu,X4 r _ l h.2,List.getElem?_set_ne (fun e=>h.1 e.symm)]
theorem X5{e:tL}(h1:l ∉ e.up.map (·.1))(h2:l<σ.heap.length):(σ.app dst e).heap[l]? =σ.heap[l]? :=by
 have:(σ.app dst e).heap=lu σ.heap e.up++e.nw:=rfl
 grind [rA,X4]
theorem akG{e:tL}{x:Operand}(h: ∀d,dst=some d->x≠ .tmp d):(σ.app dst e).ev x=σ.ev x:=by
 cases x with
 |tmp t=>
  cases dst with
  |none=>rfl
  |some d=>
   grind [jI.ev,jI.app,jI.put]
 |const v=>rfl
 |global g=>rfl
 |func f=>rfl
theorem Zy{e:tL}{t:Nat}(h: ∀d,dst=some d->t≠d):(σ.app dst e).slots[t]? =σ.slots[t]? :=by
 cases dst with
 |none=>rfl
 |some d=>
  grind [jI.app,jI.put]
def apY {o:Op} {e:tL} (h:kI P σ o=some e):(∀l∈e.rd,l<σ.heap.length)/\ ∀l∈e.up.map (·.1),l<σ.heap.length:=by
 have lt: ∀{l:Nat}{x:jS},σ.heap[l]? =some x->l<σ.heap.length:=fun h=>(ak.1 h).1
 cases o with
 |load t x=>
  simp only[kI] at h;split at h
  ·split at h
   ·rename_i hl;split at h
    ·obtain⟨_,h2,h3⟩:=apX h
     grind
    ·cases h
   ·cases h
  ·grind
  ·grind
  ·unfold ab7 at h
   grind [aM]
  ·cases h
 |store t x y=>
  simp only[kI] at h
  grind
 |indexAddr t x i=>
  simp only[kI] at h;split at h
  ·grind
  grind [aM]
 |slice t x lo hi mx=>
  simp only[kI] at h;split at h
  ·split at h
   ·cases h
   ·unfold XS at h
    grind
  grind
 |call c=>
  obtain⟨cl,args,ts⟩:=c;cases cl with
  |builtin b=>
   simp only[kI] at h;unfold Hx at h;split at h
   ·unfold ae2 at h
    grind
   ·split at h
    ·split at h
     ·split at h
      ·unfold N3 at h;split at h
       ·cases h
       ·rename_i rd ys hsrc
        have hrd: ∀l∈rd,l<σ.heap.length:=by
         unfold PF at hsrc
         grind
        grind
      ·cases h
     ·cases h
    ·cases h
   all_goals grind
  |value f=>cases h
  |invoke r m=>cases h
 |move x=>cases h;simp
 |assign x=>cases h;simp
 |makeFunc fn f c=>cases h;simp
 |pick c x y=>simp only[kI] at h;split at h<;>cases h;simp
 |alloc t=>simp only[kI] at h;split at h<;>cases h;simp
 |box t x=>simp only[kI] at h;split at h<;>cases h;simp
 |build t parts=>
  simp only[kI] at h
  grind
 |buildSlice t len parts=>
  simp only[kI] at h
  grind
 |nilCheck x=>simp only[kI] at h;split at h<;>cases h<;>simp
 |binOp op t x y ty=>
  simp only[kI] at h;split at h
  ·cases h;simp
  ·unfold ae1 Xg at h;split at h
   ·grind
   unfold Zt at h
   grind
 |unOp op t x=>simp only[kI] at h;split at h<;>cases h<;>simp
 |convert s d x=>
  simp only[kI] at h
  grind
 |makeInterface t x=>simp only[kI] at h;split at h<;>cases h;simp
 |makeSlice t x y=>
  simp only[kI] at h
  grind
 |fieldAddr t x i=>simp only[kI] at h;split at h<;>cases h<;>simp
 |field t x i=>
  simp only[kI] at h
  grind
 |index t x i=>
  simp only[kI] at h
  grind
 |extract x i=>
  simp only[kI] at h
  grind
 |makeMap t r=>
  cases r with
  |some r=>cases h
  |none=>cases h;simp
 |typeAssert x u t ok=>
  cases ok with
  |false=>cases h
  |true=>
   simp only[kI] at h;unfold af2 at h
   grind
 |lookup t x k ok=>
  cases ok with
  |true=>
   simp only[kI] at h;split at h
   ·unfold Zu at h;split at h
    ·rename_i hl;split at h
     ·cases h;have:=lt hl;unfold ae4;split<;>simp [this]
     ·cases h
    ·cases h
   ·cases h
  |false=>
   simp only[kI] at h;split at h
   ·unfold Vs at h
    grind
   ·cases h
 |range t x=>simp only[kI] at h;split at h<;>cases h;simp
 |next x st=>
  cases st with
  |false=>cases h
  |true=>
   simp only[kI] at h;split at h
   ·unfold Vt at h
    grind
   ·cases h
 |mapUpdate t x k y=>
  simp only[kI] at h;split at h
  ·unfold yG at h
   grind
  ·cases h
 |insert t x k y=>
  simp only[kI] at h;split at h
  ·unfold yG at h
   grind
  ·cases h
 |_=>cases h
end
section
variable {ops:Array Oper} {K:jI->Prop}
theorem Rh: ∀(ups:List (Nat×jS))(H N:List jS),(∀l∈ups.map (·.1),l<H.length)->lu (H++N) ups=lu H ups++N
 |[],_,_,_=>rfl
 |(l,x)::r,H,N,h=>by
  simp only[lu];rw[List.set_append_left _ _ (h l (by simp))];exact Rh r _ N (fun k hk=>by grind)
theorem X6: ∀(ups:List (Nat×jS))(H:List jS)(l:Nat)(x:jS),l ∉ ups.map (·.1)->lu (H.set l x) ups=(lu H ups).set l x
 |[],_,_,_,_=>rfl
 |(k,y)::r,H,l,x,h=>by
  simp only[bq,aG,not_or] at h;simp only[lu];rw[List.set_comm _ _ h.1,X6 r _ l x h.2]
theorem WD: ∀(u v:List (Nat×jS))(H:List jS),(∀l∈u.map (·.1),l ∉ v.map (·.1))->lu (lu H u) v=lu (lu H v) u
 |[],_,_,_=>rfl
 |(l,x)::r,v,H,h=>by
  simp only[lu];rw[WD r v _ (fun k hk=>h k (by simp at hk ⊢;exact .inr hk)),X6 v H l x (h l (by simp))]
theorem KF{a b:List Nat}(h:ET a b=true): ∀l∈a,l ∉ b:=by
 grind [ET]
def ahW{d d':Option Tmp}{e e':tL}(hd: ∀x,d=some x->d'≠some x)(hi:yJ ⟨j,σ.heap.length,e⟩ e'=true)
 (h1: ∀l∈e.up.map (·.1),l<σ.heap.length) (h2: ∀l∈e'.up.map (·.1),l<(σ.app d e).heap.length):(σ.app d e).app d' e'=(σ.app d' e').app d e:=by
 unfold yJ at hi;simp only[aS,bh] at hi;obtain⟨⟨⟨i1,i2⟩,i3⟩,_⟩:=hi;have dis: ∀l∈e.up.map (·.1),l ∉ e'.up.map (·.1):=fun l hl Kc=>KF i1 l hl (aF.2 (.inr Kc))
 have h2': ∀l∈e'.up.map (·.1),l<σ.heap.length:=by
  grind [jI.app,rA]
 have avT:((σ.app d e).app d' e').slots=((σ.app d' e').app d e).slots:=by
  cases d with
  |none=>cases d'<;>rfl
  |some x=>cases d' with
   |none=>rfl
   |some y=>
    grind [jI.app,jI.put,List.set_comm]
 have Mc:((σ.app d e).app d' e').heap=((σ.app d' e').app d e).heap:=by
  grind [jI.app,Rh,rA,WD]
 have ext: ∀(s t:jI),s.slots=t.slots->s.heap=t.heap->s.low=t.low->s.df=t.df->s=t:=by
  intro s t h h' h'' h3;cases s;cases t;simp_all
 refine ext _ _ avT Mc ?_ ?_<;>cases d<;>cases d'<;>rfl
def uC.lt{S:tL->Prop}(h:uC P ops o σ S){e:tL}(he:S e):(∀l∈e.rd,l<σ.heap.length)/\ ∀l∈e.up.map (·.1),l<σ.heap.length:=by
 rcases h with⟨_,h⟩|⟨_,_,e',he',_,h⟩|⟨_,f,args,V,_,_,_,h⟩|⟨_,f,args,e',_,hl,h⟩
 ·rw[(h e).1 he];simp
 ·rw[(h e).1 he];exact apY he'
 ·grind
 ·rw[(h e).1 he];exact⟨hl.1.1,fun l hm=>hl.1.1 l (hl.1.2 l hm)⟩
theorem Ig{d:Tmp}(h:d ∉ o.looksAt ops): ∀x∈o.op.operands,x≠ .tmp d:=by
 intro x hx e;subst e;apply h;unfold Oper.looksAt;refine aF.2 (.inl ?_);simp only[List.mem_filterMap];exact⟨.tmp d,by simpa using hx,rfl⟩
theorem Mf{d:Tmp}(h:d ∉ o.looksAt ops){b:Bool}{k:Tmp}(hg:o.guard=some (j,b))(hk:(ops[j]?).bind (·.dst)=some k):k≠d:=by
 grind [Oper.looksAt]
def uC.back {oi:Oper}{S:tL->Prop}{er:tL}(h:uC P ops oi (σ.app or'.dst er) S)(hap: ∀d,or'.dst=some d->d ∉ oi.looksAt ops)
 (hi: ∀e,S e->yJ ⟨j,σ.heap.length,er⟩ e=true):uC P ops oi σ S:=by
 refine h.local (fun x hx=> ?_) (If fun k b d hg hd=> ?_) (fun e he=> ?_)
 ·grind [akG,Ig]
 ·grind [Zy,Mf]
 ·have hlt:=h.lt he
  grind [yJ,jI.app,lu,rA,X5,KF]
def uC.fwd {oi:Oper}{S:tL->Prop}{ei:tL}(h:uC P ops or' σ S)(hap: ∀d,oi.dst=some d->d ∉ or'.looksAt ops)
 (hi: ∀e,S e->yJ ⟨j,σ.heap.length,e⟩ ei=true):uC P ops or' (σ.app oi.dst ei) S:=by
 refine h.local (fun x hx=> ?_) (If fun k b d hg hd=> ?_) (fun e he=> ?_)
 ·grind [akG,Ig]
 ·grind [Zy,Mf]
 ·have hlt:=h.lt he
  grind [yJ,jI.app,lu,X5,KF,rA]
def BT(h:Ez ops=true):Region.noSelect ops=true/\ ∀(j:Nat)(oj:Oper),ops[j]? =some oj->(∀d∈wO oj,d<j)/\
 ∀(i:Nat)(oi:Oper),i<j->ops[i]? =some oi->nI ops i j=false->oi.apart ops oj=true/\ ¬ (yI oi.op=true/\yI oj.op=true):=by
 grind [Ez,nI]
theorem an4 {n':Nat}{e e':tL}(h:n<=n')(hi:yJ ⟨j,n,e⟩ e'=true):yJ ⟨j,n',e⟩ e'=true:=by
 grind [yJ]
def ack: ∀{R:List Nat}{tr tr':List Tr}{σ:jI},(∀t'∈tr',∃t∈tr,t.j=t'.j/\t.e=t'.e/\t.n<=t'.n)->VZ P ops K R tr σ->VZ P ops K R tr' σ
 |[],_,_,_,_,h=>h
 |j::rest,tr,tr',σ,hs,⟨o,S,ho,hst,h⟩=>by
  refine⟨o,S,ho,hst,fun e he=> ?_⟩;obtain⟨hc,hr⟩:=h e he;refine⟨?_,ack ?_ hr⟩
  ·unfold Ad at*;rw[bw] at*;intro t' ht';obtain⟨t,ht,h1,h2,h3⟩:=hs t' ht';have:=hc t ht;simp only[bh] at*;rw[<-h1];refine this.imp (fun hi=> ?_) id;obtain⟨a,b,c⟩:=t;obtain⟨a',b',c'⟩:=t'
   grind [an4]
  grind
def an5(h:aa2 ops i j=false):nI ops i j=false:=by
 grind [aa2]
def ahX(hok:Ez ops=true){i:Nat}: ∀{R:List Nat}{tr:List Tr}{σ:jI},VZ P ops K R tr σ->i∈R->R.Pairwise (· < ·)->(∀r∈R,r<i->aa2 ops r i=false)->
 ∃o S,ops[i]? =some o/\uC P ops o σ S/\ ∀e,S e->Ad ops tr i e=true/\VZ P ops K (R.erase i) tr (σ.app o.dst e)
 |[],_,_,_,hi,_,_=>by simp at hi
 |r::R,tr,σ,⟨or',Sr,hor,hst,h⟩,hi,X7,ahY=>by
  by_cases e:r=i
  ·grind [ahV]
  ·have hiR:i∈R:=by
    grind
   rw[List.pairwise_cons] at X7;have hri:r<i:=X7.1 i hiR;have axI:aa2 ops r i=false:=ahY r (by simp) hri;have ih: ∀er,Sr er->_:=fun er her=>ahX hok (h er her).2 hiR X7.2 (fun q hq hlt=>ahY q (by simp [hq]) hlt)
   obtain⟨er0,azD⟩:=hst.nonempty;obtain⟨oi,S0,KG,azE,h0⟩:=ih er0 azD;obtain⟨_,hspec⟩:=BT hok;obtain⟨acl,azF⟩:=(hspec i oi KG).2 r or' hri hor (an5 axI);obtain⟨a1,a2,a3⟩:=Oper.apart_spec acl
   have apZ: ∀{er:tL}{S:tL->Prop},(∀e,S e->Ad ops (tr++[⟨r,σ.heap.length,er⟩]) i e=true/\VZ P ops K (R.erase i) (tr++[⟨r,σ.heap.length,er⟩]) ((σ.app or'.dst er).app oi.dst e))->
    ∀e,S e->yJ ⟨r,σ.heap.length,er⟩ e=true:=by
    grind [Ad]
   have SQ:uC P ops oi σ S0:=azE.back (j:=r) a1 (apZ h0);refine⟨oi,S0,KG,SQ,fun ei hei=> ?_⟩
   have same: ∀er,Sr er->Ad ops (tr++[⟨r,σ.heap.length,er⟩]) i ei=true/\VZ P ops K (R.erase i) (tr++[⟨r,σ.heap.length,er⟩]) ((σ.app or'.dst er).app oi.dst ei):=by
    intro er her;obtain⟨oi',S',axJ,azG,h'⟩:=ih er her;rw[KG] at axJ;cases axJ;by_cases hc:yI oi.op=true
    ·
     have hcr:yI or'.op=false:=by
      grind
     obtain⟨ex,hex⟩:=hst.det hcr
     grind
    ·have hc':yI oi.op=false:=by simpa using hc
     have hb':uC P ops oi σ S':=azG.back (j:=r) a1 (apZ h');exact h' ei ((SQ.eq hb' hc' ei).1 hei)
   have azH:uC P ops or' (σ.app oi.dst ei) Sr:=by
    refine hst.fwd (j:=r) a3 (fun er her=> ?_)
    grind [Ad]
   refine⟨?_,?_⟩
   ·grind [Ad]
   ·have hne:(r::R).erase i=r::R.erase i:=List.erase_cons_tail (by simpa using e);rw[hne];refine⟨or',Sr,hor,azH,fun er her=>⟨(h er her).1,?_⟩⟩;have hs:=same er her
    have hi':yJ ⟨r,σ.heap.length,er⟩ ei=true:=by
     grind [Ad]
    have ap0:=ahW (d:=or'.dst) (d':=oi.dst) a2 hi' (hst.lt her).2 (by
     intro l hl;have:=(SQ.lt hei).2 l hl
     grind [jI.app,rA])
    rw[<-ap0];refine ack ?_ hs.2;intro t' ht';rcases aF.1 ht' with ht'|ht'
    ·grind
    simp_all [jI.app,rA]
def N6{f:Nat->Nat}{r:Nat}: ∀(ds:List Nat)(s:Nat),(ds.foldl (fun s d=>s|||2 ^ d|||f d) s).testBit r=true->s.testBit r=true\/ ∃d∈ds,d=r\/(f d).testBit r=true
 |[],s,h=> .inl h
 |d::ds,s,h=>by
  simp only[List.foldl_cons] at h;rcases N6 ds _ h with h|⟨d',hd',h⟩
  all_goals grind
def aay{L:Nat->Prop}{all:List Oper}(hclosed: ∀j o,all[j]? =some o->L j-> ∀d∈wO o,L d): ∀(os:List Oper)(acc:List Nat),all.drop acc.length=os->
 (∀k o,all[k]? =some o->k<acc.length->(∀d∈wO o,L d)-> ∀r,(acc.getD k 0).testBit r=true->L r)->(∀k o,all[k]? =some o-> ∀d∈wO o,d<k)->
 ∀k o,all[k]? =some o->(∀d∈wO o,L d)-> ∀r,((af6 os acc).getD k 0).testBit r=true->L r
 |[],acc,hd,h,_=>by
  intro k o hk AR r hr;refine h k o hk ?_ AR r hr;have h1:all.length<=acc.length:=by simpa using hd
  grind
 |o::os,acc,hd,h,hlt=>by
  refine aay hclosed os _ ?_ ?_ hlt
  ·grind [bn]
  ·intro k o' hk hkl AR r hr
   have ho:all[acc.length]? =some o:=by
    have:=congrArg (fun l:List Oper=>l[0]?) hd;simpa using this
   by_cases e:k<acc.length
   ·rw[aW,aw e,<-aW] at hr;exact h k o' hk e AR r hr
   ·have e2:k=acc.length:=by simp at hkl;omega
    subst e2;rw[ho] at hk;cases hk;rw[aW,br (au _)] at hr;simp only[bY,aL,Option.getD_some] at hr;rcases N6 (f:=fun d=>acc.getD d 0) _ _ hr with h0|⟨d,hd',rfl|h1⟩
    ·simp at h0
    ·exact AR d hd'
    ·have hdl:d<acc.length:=hlt _ _ ho d hd';have axK:d<all.length:=by grind
     exact h d all[d] (bD axK) hdl (hclosed d _ (bD axK) (AR d hd')) r h1
end
theorem mG(m j:Nat):(Array.replicate m false).getD j false=false:=by
 by_cases h:j<m<;>simp [Array.getD,h]
section region
variable {ops:Array Oper} {Q:mc->jI->Prop}
def HB(S:lQ C φ σ a w){E:tL->Prop}(ho:ops[i]? =some o)(h:uC C.P ops o σ E){K:Act->World->Prop}{Q':Exit->Act->World->Prop}
 (hK: ∀e φ' v w',E e->lQ C φ' (σ.app o.dst e) (a.put o.dst v) w'->K (a.put o.dst v) w'):wpOpIn (BS ro) 0 C.P ops Q' i K a w:=by
 unfold wpOpIn;simp only[ho];rcases h with⟨hw,h⟩|⟨hw,_,e,he,hp,h⟩|⟨hw,f,args,V,hc,hf,_,h⟩|⟨hw,f,args,e,hc,hf,h⟩
 ·rw[vO S hw];simp only[az,if_false];refine⟨fun _ _=>trivial,hK _ φ undef w ((h _).2 rfl) ?_⟩;rw[FD];exact S.put o.dst rfl
 ·rw[vO S hw];simp only[jD];obtain⟨n,v,w',φ',hr,hn,S'⟩:=Me S he hp;refine⟨fun _ _=>trivial,?_⟩
  grind [aO,ahR,Oper.uponIn_value,Oper.uponIn_skip]
 ·rw[vO S hw];simp only[jD];have tW:ya C.P f args σ (fun o' H'=> ∃r,V r/\o'= .ret r/\H'=σ.heap):=XZ hf (fun r hr=>⟨r,hr,rfl,rfl⟩);obtain⟨vs,hrun,hr⟩:=FF S hc tW.1;refine⟨fun _ _=>trivial,?_⟩;rw[aO _ _ _ (IB hc),hrun,bu];refine⟨fun h=>by simp [BS,aZ] at h,ES.2 ?_⟩;refine(tW.2 C φ a w rfl S vs hr).mono fun en w' ⟨o',φ',H',⟨r,hV,ho',hH⟩,S',qE⟩=> ?_
  subst ho' hH;cases en with
  |returned v=>
   refine hK {val:=r} φ' v w' ((h _).2 ⟨r,hV,rfl⟩) ?_;rw[FD];exact S'.put o.dst qE
  |panicked chain=>exact qE.elim
  |outgrown=>exact qE.elim
 ·rw[vO S hw];simp only[jD];have tW:=hf.2 σ (fun _ _=>rfl) (fun _=>rfl) (fun _=>rfl);obtain⟨vs,hrun,hr⟩:=FF S hc tW.1;refine⟨fun _ _=>trivial,?_⟩;rw[aO _ _ _ (IB hc),hrun,bu];refine⟨fun h=>by simp [BS,aZ] at h,ES.2 ?_⟩;refine(tW.2 C φ a w rfl S vs hr).mono fun en w' ⟨o',φ',H',⟨ho',hH⟩,S',qE⟩=> ?_
  subst ho' hH;cases en with
  |returned v=>
   refine hK e φ' v w' ((h _).2 rfl) ?_;have:=S'.put o.dst qE
   have e1:({σ with heap:=lu σ.heap e.up++e.nw}:jI).put o.dst e.val=σ.app o.dst e:=by
    cases hd:o.dst<;>rfl
   rw[e1] at this;exact this
  |panicked chain=>exact qE.elim
  |outgrown=>exact qE.elim
end region
end Go.Abs
