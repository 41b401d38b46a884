/- A part of the proof: abstract states and the rules for them. -/
import Derived.KernelRfl
import Derived.Calls
import Derived.Orders
import Derived.Laws.Sem
import Derived.Lib.FrozenHead
import Derived.Laws.CopyRow
import Derived.Laws.Cells
import Derived.Laws.Small
import Derived.RangeFuncRecord
import Derived.MapKept
import Derived.Lib.SliceRun
import Derived.Scope
import Derived.Deep.LoopGhost
import Derived.OrdersIn
set_option linter.all false
open Go renaming Operand→aJV,Value→aJW,World→aJX,FuncId→aJY,Program→aJZ,TypeId→aJ0
open Nat renaming lt_of_lt_of_le→aa,mul_le_mul_right→au,le_refl→av,add_mul→az,le_trans→bc,add_zero→br,not_lt_zero→bz,add_assoc→bM,one_mul→bT,zero_le→bU
open Go.Op renaming operands→ae,bytesLess→bS
open Go.Result renaming andThen_ok→af,andThen→aC
open List renaming eq_nil_of_length_eq_zero→ah,getElem?_eq_some_iff→ak,replicate→an,getElem?_append_left→ax,flatten_cons→aD,length_cons→aG,getElem?_cons_zero→aN,getElem?_set_self→aP,append_assoc→aQ,drop_drop→aR,mem_cons→aT,map_congr_left→aW,drop_take→aY,take_left'→aZ,drop_left'→a8,mem_append→be,drop_append_of_le_length→bh,flatten_append→bj,all_eq_true→bq,length_take→bt,getElem?_cons_succ→bw,length_nil→bB,drop_of_length_le→bC,tail_drop→bD,take_take→bE,getElem?_toArray→bF,length_replicate→bI,mem_cons_of_mem→bJ,mem_of_getElem?→bK,map_cons→bL,take_add→bO,replicate_succ→bQ
open Option.some renaming injEq→ai,inj→bV
open Go.Sem renaming run_bind→aj,run_pure→aq
open Go.Builtin renaming append_→am,firstCells→ap,nextslicecap→bb,len_→bf,zeroCells→bp,growBy→bH,lenOf→bN
open ByteArray renaming empty→ar
open Go.Instr renaming sureAddr→aw,sliceBound→aB,sliceBounds→aE,indexAt→aJ,buildSlice→aL,loadAt→aM,fieldAt→aO,sliceAt→aU,findNow→aV,lookup→aX,makeSlice→bg,storeAt→bn,mapUpdate→bA,sameNow→bP
open Go.MapKept renaming run_getObj_map→ay
open List.cons renaming injEq→aA
open Prod.mk renaming injEq→aF
open Bool renaming false_eq_true→aH,and_eq_true→aS,not_false→bG
open Array renaming getElem?_eq_some_iff→aI,length_toList→bi,range→bl,toList_map→bu,toList_append→bR
open Go.Lib renaming strCells→aK,run_append_own_stringF→bo
namespace Go.Abs
variable {parts:Array (Nat×aJV)}{c us:Array aJW}{g im tt:Bool}{s:ByteArray}{R:Ending->aJX->Prop}{f:aJY}{k:IntKind}{ds:List Deferred}{rd:List Nat}{xs:List aJW}{D b l n off:Nat}{U U':Nat->aJW}{o:Oper}{ox:aJV}{base:Option Addr}{ro:Option Nat}{hi lo:Option aJV}{dst:Option Tmp}{P:aJZ}{p:Prop}{r:Result Next}{W O:Type}{d:TypeDesc}{t ty:aJ0}{i:TypeInfo}{h h' u v vx:aJW}{w w':aJX}
theorem jy {W:Sort _} (a b:W):cond true a b=a:=rfl
theorem jz {W:Sort _} (a b:W):cond false a b=b:=rfl
theorem jA [Decidable p] (h:p):decide p=true:=decide_eq_true h
theorem jB [Decidable p] (h:¬p):decide p=false:=decide_eq_false h
def jC [Decidable p] (h:decide p=true):p:=of_decide_eq_true h
theorem jD [Decidable p]:(decide p=true)=p:=decide_eq_true_eq
def jE {W:Sort _} {_:Decidable True} (t e:W):(if True then t else e)=t:=if_true t e
theorem jF {W:Sort _} {a b:W} (h:a=b:=by kernel_rfl):a=b:=h
def aiV(o:Nat):Int:=if o=32\/(9<=o/\o<=13)then 1 else 0
def axt(o:Nat):Option Int:=if o<256 then some (aiV o)else none
def aAf(b o:Nat):Prop:=(b=0/\o=0)\/(b=1/\o<256)
def aAg(b o:Nat)(v:aJW):Prop:=(b=0->∃m,v=.int .i64 m)/\(b=1->v=.int .u8 (aiV o))
def aDs(t k:Nat):Bool:=bif t==34 then(bif k==5 then false else true)else bif t==35 then(bif k==5 then false else true)else bif t==110 then(bif k==98 then false else bif k==24 then false else bif k==11 then false else bif k==34 then false else bif k==25 then false else true)else true
def aAh(t k:Nat):Bool:=bif t==110 then(bif k==24 then true else bif k==11 then true else bif k==34 then true else bif k==25 then true else false)else bif t==35 then(bif k==46 then true else bif k==9 then true else false)else bif t==23 then(bif k==100 then true else false)else false
def aAi(b:Nat):Option IntKind:=if b=1 then some .u8 else none
def auy(b o:Nat):Option Int:=if b=1 then axt o else none
def aeI(t:Nat):Bool:=t==141
def Kw:Nat:=5
def aAj {o:Nat}{n:Int}(h:aAi b=some k)(h2:auy b o=some n):aAf b o/\∀v,aAg b o v->v=.int k n:=by
 unfold aAi at h;split at h
 ·rename_i hb;cases h;unfold auy at h2;rw[if_pos hb]at h2;unfold axt at h2;split at h2
  ·rename_i ho;cases h2;exact⟨.inr ⟨hb,ho⟩,fun v hv=>hv.2 hb⟩
  ·cases h2
 ·cases h
def aFq(b:Nat):Prop:=b=3
def axu:Array aJW:=((List.range 20).map fun i=>Value.int .u64 ((10 ^ i:Nat):Int)).toArray
structure aoZ(w:aJX)(M:Nat->Nat->Prop):Prop where
 cell:∀b o,aAf b o->∃v,w.cell? ⟨b,o,none⟩=some v/\aAg b o v/\ ¬ M b o
 row:∀b,aFq b->(∀o,¬ M b o)/\∃t fz,w.heap[b]? =some (.cells axu t fz)
inductive AV where
 |any
 |bool (b:Bool)
 |int (k:IntKind) (n:Int)
 |str (s:ByteArray)
 |sO (v:aJW)
 |agg (cs:List AV)
 |Ip (cs:List AV)
 |kW (tight:Bool) (sz:Nat) (rows:List (List AV))
 |lN (l n:Nat)
 |own (l off len cap sz:Nat)
 |ptr (l off:Nat)
 |map (l:Nat)
 |pp (cs:List AV)
 |func (fn:Fn) (first captured:List AV)
 |iface (t:aJ0) (x:AV)
 |sn (t:aJ0) (l:Nat)
variable {x y:AV}{es:List (AV×AV)}{df:List (aJY×List AV)}{rows ys:List (List AV)}{args cs z:List AV}
instance:Inhabited AV:=⟨.any⟩
structure Dw where
 w:aJX
 mu:Nat->Nat->Prop
 U:Nat->aJW
 ln:Nat->Option Nat
 n:Nat
variable {E E':Dw}
def hdl:aJW->Option Nat
 |.map r=>r
 |.func (.yield r) _ _=>some r
 |_=>none
mutual
def pg(E:Dw):AV->aJW->Prop
 |.any,_=>True
 |.bool b,v=>v=.bool b
 |.int k n,v=>v=.int k n
 |.str s,v=>v=.string s
 |.sO u,v=>v=u
 |.agg cs,v=>∃vs:Array aJW,v=.agg vs/\ko E cs vs.toList
 |.Ip cs,v=>∃vs:Array aJW,v=.tuple vs/\ko E cs vs.toList
 |.kW t sz rows,v=>∃base cap,v=.slice base rows.length cap/\rows.length<=cap/\(t=true->cap=rows.length)/\(base=none->cap=0)/\
     (∀a,base=some a->(rows≠[]->a.spot=none))/\(∀a,base=some a->nS E sz a.block a.off rows)
 |.lN l n,v=>l<E.n/\(∃b m c,v=.slice b m c)/\∀k,E.ln l=some k->n<=k/\(n=k->v=E.U l)
 |.own l i n o sz,v=>l<E.n/\(∃a,v=.pointer (some a))/\∀k,E.ln l=some k->n<=k/\(n=k->∃b off m c,E.U l=.slice (some ⟨b,off,none⟩) m c/\v=.pointer (some ⟨b,off+i*sz+o,none⟩))
 |.ptr l off,v=>l<E.n/\∃b,E.U l=.pointer (some ⟨b,0,none⟩)/\v=.pointer (some ⟨b,off,none⟩)
 |.map l,v=>l<E.n/\v=E.U l/\∃r,hdl (E.U l)=some r
 |.pp cs,v=>∃b off,v=.pointer (some ⟨b,off,none⟩)/\oz E b off cs
 |.func fn f c,v=>∃f' c':Array aJW,v=.func fn f' c'/\ko E f f'.toList/\ko E c c'.toList
 |.iface t x,v=>∃u,v=.iface t u/\pg E x u
 |.sn t l,v=>l<E.n/\∃b,E.U l=.pointer (some ⟨b,0,none⟩)/\(v=.pointer none\/v=.pointer (some ⟨b,0,none⟩))/\∃c fz,E.w.heap[b]? =some (.cells c t fz)
def ko(E:Dw):List AV->List aJW->Prop
 |[],vs=>vs=[]
 |c::cs,vs=>∃u us,vs=u::us/\pg E c u/\ko E cs us
def oz(E:Dw)(b off:Nat):List AV->Prop
 |[]=>True
 |c::cs=>(¬ E.mu b off/\∃u,E.w.cell? ⟨b,off,none⟩=some u/\u.oneCell'=true/\pg E c u)/\oz E b (off+1) cs
def nS(E:Dw)(sz b off:Nat):List (List AV)->Prop
 |[]=>True
 |r::rs=>r.length=sz/\oz E b off r/\nS E sz b (off+sz) rs
end
def tyk(w w':aJX):Prop:=∀(b:Nat)(c:Array aJW)(t:aJ0)(fz:Nat×Nat),w.heap[b]? =some (Obj.cells c t fz)->∃(c':Array aJW)(fz':Nat×Nat),w'.heap[b]? =some (Obj.cells c' t fz')
def CF(w:aJX):tyk w w:=fun _ c _ fz h=>⟨c,fz,h⟩
def tyk.trans {w'':aJX}(h:tyk w w')(k:tyk w' w''):tyk w w'':=fun b c t fz hc=>by
 obtain⟨c',fz',h'⟩:=h b c t fz hc;exact k b c' t fz' h'
def aiW(h:∀b,b<w.heap.size->w'.heap[b]? =w.heap[b]?):tyk w w':=fun b c t fz hc=>by
 refine⟨c,fz,?_⟩
 rw[h b (by
  rcases Nat.lt_or_ge b w.heap.size with h'|h'
  ·exact h'
  ·simp [Array.getElem?_eq_none h']at hc)]
 exact hc
def aeJ {w1:aJX}(o:Obj)(h:w1.heap=w.heap.push o):tyk w w1:=aiW fun b hb=>by
 rw[h,Array.getElem?_push,if_neg (by omega)]
def anq{o:Obj}(hD:w.heap[D]? =some o)(ho:∀c t fz,o≠ .cells c t fz)(h:∀b,b≠D->w'.heap[b]? =w.heap[b]?):tyk w w':=fun b c t fz hc=>by
 refine⟨c,fz,?_⟩;rw[h b (fun e=>by subst e;rw[hD]at hc;exact ho c t fz (bV hc))];exact hc
structure Dw.Le(N:Nat)(E E':Dw):Prop where
 n:N<=E'.n
 lR:∀l,l<N->(E'.U l=E.U l/\(E'.ln l=E.ln l\/E'.ln l=none))\/
  ((∃k,E.ln l=some k/\∀k',E'.ln l=some k'->k<k')/\(∀a,E.U l≠ .pointer a)/\hdl (E.U l)=none)
 mem:∀b o u,¬ E.mu b o->E.w.cell? ⟨b,o,none⟩=some u-> ¬ E'.mu b o/\E'.w.cell? ⟨b,o,none⟩=some u
 ty:tyk E.w E'.w
mutual
def AV.nb(N:Nat):AV->Prop
 |.agg cs|.Ip cs|.pp cs=>w5 N cs
 |.kW _ _ rows=>NC N rows
 |.lN l _|.own l _ _ _ _|.ptr l _|.map l|.sn _ l=>l<N
 |.func _ f c=>w5 N f/\w5 N c
 |.iface _ x=>x.nb N
 |.any|.bool _|.int _ _|.str _|.sO _=>True
def w5(N:Nat):List AV->Prop
 |[]=>True
 |c::cs=>c.nb N/\w5 N cs
def NC(N:Nat):List (List AV)->Prop
 |[]=>True
 |r::rs=>w5 N r/\NC N rs
end
section
variable {N:Nat}
mutual
def pg.mono(h:E.Le N E'):∀(x:AV)(v:aJW),x.nb N->pg E x v->pg E' x v
 |.any,_,_,_=>trivial
 |.bool _,_,_,r=>r
 |.int _ _,_,_,r=>r
 |.str _,_,_,r=>r
 |.sO _,_,_,r=>r
 |.agg cs,_,hb,⟨vs,hv,hr⟩=>⟨vs,hv,ko.mono h cs _ hb hr⟩
 |.Ip cs,_,hb,⟨vs,hv,hr⟩=>⟨vs,hv,ko.mono h cs _ hb hr⟩
 |.kW _ _ rows,_,hb,⟨base,cap,h1,h2,h3,h4,h5,h6⟩=>⟨base,cap,h1,h2,h3,h4,h5,fun a ha=>nS.mono h rows _ hb (h6 a ha)⟩
 | .lN l n,v,hb,⟨_,hsl,r⟩=>by
   refine⟨aa hb h.n,hsl,fun k' RB=>?_⟩;rcases h.lR l hb with⟨hφ,hl|hl⟩|⟨⟨k,hk,mR⟩,_⟩
   ·rw[hl]at RB;rw[hφ];exact r k' RB
   ·rw[hl]at RB;cases RB
   ·have:=mR k' RB;have:=r k hk;exact⟨by omega,fun e=>by omega⟩
 | .own l i n o sz,v,hb,⟨_,hsl,r⟩=>by
   refine⟨aa hb h.n,hsl,fun k' RB=>?_⟩;rcases h.lR l hb with⟨hφ,hl|hl⟩|⟨⟨k,hk,mR⟩,_⟩
   ·rw[hl]at RB;rw[hφ];exact r k' RB
   ·rw[hl]at RB;cases RB
   ·have:=mR k' RB;have:=r k hk;exact⟨by omega,fun e=>by omega⟩
 | .ptr l off,v,hb,⟨_,b,hφ,hv⟩=>by
   refine⟨aa hb h.n,b,?_,hv⟩;rcases h.lR l hb with⟨h1,_⟩|⟨_,h2,_⟩
   ·rw[h1];exact hφ
   ·exact absurd hφ (h2 _)
 | .map l,v,hb,⟨_,hv,r,hφ⟩=>by
   refine⟨aa hb h.n,?_,r,?_⟩
   all_goals rcases h.lR l hb with⟨h1,_⟩|⟨_,_,h2⟩
   ·rw[h1];exact hv
   ·rw[h2]at hφ;cases hφ
   ·rw[h1];exact hφ
   ·rw[h2]at hφ;cases hφ
 |.pp cs,_,hb,⟨b,off,hv,r⟩=>⟨b,off,hv,oz.mono h cs _ hb r⟩
 |.func _ f c,_,hb,⟨f',c',hv,r1,r2⟩=>⟨f',c',hv,ko.mono h f _ hb.1 r1,ko.mono h c _ hb.2 r2⟩
 |.iface _ x,_,hb,⟨u,hv,r⟩=>⟨u,hv,pg.mono h x _ hb r⟩
 | .sn t l,v,hb,⟨_,b,hφ,hv,c,fz,hc⟩=>by
   refine⟨aa hb h.n,b,?_,hv,h.ty b c t fz hc⟩;rcases h.lR l hb with⟨h1,_⟩|⟨_,h2,_⟩
   ·rw[h1];exact hφ
   ·exact absurd hφ (h2 _)
def ko.mono(h:E.Le N E'):∀(cs:List AV)(vs:List aJW),w5 N cs->ko E cs vs->ko E' cs vs
 |[],_,_,r=>r
 |c::cs,_,hb,⟨u,us,hv,r1,r2⟩=>⟨u,us,hv,pg.mono h c _ hb.1 r1,ko.mono h cs _ hb.2 r2⟩
def oz.mono(h:E.Le N E'){b:Nat}:∀(cs:List AV)(off:Nat),w5 N cs->oz E b off cs->oz E' b off cs
 |[],_,_,_=>trivial
 |c::cs,off,hb,⟨⟨hm,u,hu,h1,r1⟩,r2⟩=>
  let ⟨m,c'⟩:=h.mem b off u hm hu
  ⟨⟨m,u,c',h1,pg.mono h c _ hb.1 r1⟩,oz.mono h cs _ hb.2 r2⟩
def nS.mono(h:E.Le N E'){sz b:Nat}:∀(rs:List (List AV))(off:Nat),NC N rs->nS E sz b off rs->nS E' sz b off rs
 |[],_,_,_=>trivial
 |r::rs,off,hb,⟨hl,r1,r2⟩=>⟨hl,oz.mono h r _ hb.1 r1,nS.mono h rs _ hb.2 r2⟩
end
mutual
theorem pg.nb:∀(x:AV)(v:aJW),pg E x v->x.nb E.n
 |.any,_,_|.bool _,_,_|.int _ _,_,_|.str _,_,_|.sO _,_,_=>trivial
 |.agg cs,_,⟨_,_,hr⟩=>ko.nb cs _ hr
 |.Ip cs,_,⟨_,_,hr⟩=>ko.nb cs _ hr
 | .kW _ _ rows,_,⟨base,cap,h1,h2,h3,h4,h5,h6⟩=>by
   cases base with
   |none=>
    have:rows.length=0:=by have:=h4 rfl;omega
    have:rows=[]:=ah this;subst this;trivial
   |some a=>exact nS.nb rows _ (h6 a rfl)
 |.lN _ _,_,⟨h,_⟩=>h
 |.own _ _ _ _ _,_,⟨h,_⟩=>h
 |.ptr _ _,_,⟨h,_⟩=>h
 |.map _,_,⟨h,_⟩=>h
 |.pp cs,_,⟨_,_,_,r⟩=>oz.nb cs _ r
 |.func _ f c,_,⟨_,_,_,r1,r2⟩=>⟨ko.nb f _ r1,ko.nb c _ r2⟩
 |.iface _ x,_,⟨_,_,r⟩=>pg.nb x _ r
 |.sn _ _,_,⟨h,_⟩=>h
theorem ko.nb:∀(cs:List AV)(vs:List aJW),ko E cs vs->w5 E.n cs
 |[],_,_=>trivial
 |c::cs,_,⟨_,_,_,r1,r2⟩=>⟨pg.nb c _ r1,ko.nb cs _ r2⟩
theorem oz.nb{b:Nat}:∀(cs:List AV)(off:Nat),oz E b off cs->w5 E.n cs
 |[],_,_=>trivial
 |c::cs,_,⟨⟨_,_,_,_,r1⟩,r2⟩=>⟨pg.nb c _ r1,oz.nb cs _ r2⟩
theorem nS.nb{sz b:Nat}:∀(rs:List (List AV))(off:Nat),nS E sz b off rs->NC E.n rs
 |[],_,_=>trivial
 |r::rs,_,⟨_,r1,r2⟩=>⟨oz.nb r _ r1,nS.nb rs _ r2⟩
end
mutual
def AV.ahd{M:Nat}(h:N<=M):∀x:AV,x.nb N->x.nb M
 |.any,_|.bool _,_|.int _ _,_|.str _,_|.sO _,_=>trivial
 |.agg cs,r=>sY h cs r
 |.Ip cs,r=>sY h cs r
 |.pp cs,r=>sY h cs r
 |.kW _ _ rows,r=>anr h rows r
 |.lN _ _,r=>aa r h
 |.own _ _ _ _ _,r=>aa r h
 |.ptr _ _,r=>aa r h
 |.map _,r=>aa r h
 |.func _ f c,r=>⟨sY h f r.1,sY h c r.2⟩
 |.iface _ x,r=>AV.ahd h x r
 |.sn _ _,r=>aa r h
def sY{M:Nat}(h:N<=M):∀cs:List AV,w5 N cs->w5 M cs
 |[],_=>trivial
 |c::cs,r=>⟨AV.ahd h c r.1,sY h cs r.2⟩
def anr{M:Nat}(h:N<=M):∀rs:List (List AV),NC N rs->NC M rs
 |[],_=>trivial
 |r::rs,q=>⟨sY h r q.1,anr h rs q.2⟩
end
end
section lists

theorem ko.length:∀{cs:List AV}{vs:List aJW},ko E cs vs->vs.length=cs.length
 |[],_,rfl=>rfl
 |_::_,_,⟨_,_,rfl,_,r2⟩=>by simp [ko.length r2]
def ko.get:∀{cs:List AV}{vs:List aJW}{i:Nat}{c:AV},ko E cs vs->cs[i]? =some c->∃v,vs[i]? =some v/\pg E c v
 |c::cs,_,0,_,⟨u,us,rfl,r1,r2⟩,h=>by
  simp at h;subst h;exact⟨u,by simp,r1⟩
 |c::cs,_,i+1,_,⟨u,us,rfl,r1,r2⟩,h=>by
  simp at h;obtain⟨v,hv,r⟩:=ko.get r2 h;exact⟨v,by simpa using hv,r⟩
theorem ko.set:∀{cs:List AV}{vs:List aJW}{i:Nat}{c:AV}{v:aJW},ko E cs vs->pg E c v->ko E (cs.set i c) (vs.set i v)
 |[],_,_,_,_,rfl,_=>rfl
 |_::_,_,0,_,v,⟨_,us,rfl,_,r2⟩,r=>⟨v,us,rfl,r,r2⟩
 |_::_,_,i+1,_,v,⟨u,us,rfl,r1,r2⟩,r=>⟨u,us.set i v,rfl,r1,ko.set r2 r⟩
theorem ko.append:∀{cs ds:List AV}{vs us:List aJW},ko E cs vs->ko E ds us->ko E (cs++ds) (vs++us)
 |[],_,_,_,rfl,r=>r
 |_::_,_,_,_,⟨u,us,rfl,r1,r2⟩,r=>⟨u,us++_,rfl,r1,ko.append r2 r⟩
theorem ko.take:∀{cs:List AV}{vs:List aJW}(k:Nat),ko E cs vs->ko E (cs.take k) (vs.take k)
 |[],_,_,rfl=>by simp [ko]
 |_::_,_,0,_=>by simp [ko]
 |_::_,_,k+1,⟨u,us,rfl,r1,r2⟩=>⟨u,us.take k,by simp,r1,ko.take k r2⟩
theorem ko.drop:∀{cs:List AV}{vs:List aJW}(k:Nat),ko E cs vs->ko E (cs.drop k) (vs.drop k)
 |[],_,_,rfl=>by simp [ko]
 |_::_,_,0,h=>by simpa using h
 |_::_,_,k+1,⟨u,us,rfl,r1,r2⟩=>by simpa using ko.drop k r2
def ko.Fc:∀(vs:List aJW),ko E (an vs.length .any) vs
 |[]=>rfl
 |v::vs=>⟨v,vs,rfl,trivial,ko.Fc vs⟩
theorem oz.drop:∀{cs:List AV}{off:Nat}(k:Nat),oz E b off cs->oz E b (off+k) (cs.drop k)
 |[],_,_,_=>by simp [oz]
 |_::_,_,0,h=>by simpa using h
 |_::_,off,k+1,⟨_,r⟩=>by
  have:=oz.drop k r
  grind
def nS.get {sz:Nat}:∀{rs:List (List AV)}{off i:Nat}{r:List AV},nS E sz b off rs->rs[i]? =some r->
 r.length=sz/\oz E b (off+i*sz) r
 |_::_,off,0,_,⟨hl,m,_⟩,h=>by grind
 |_::_,off,i+1,_,⟨_,_,r⟩,h=>by
  simp at h;obtain⟨h1,h2⟩:=nS.get r h
  grind
theorem nS.drop {sz:Nat}:∀{rs:List (List AV)}{off:Nat}(k:Nat),k<=rs.length->nS E sz b off rs->nS E sz b (off+k*sz) (rs.drop k)
 |[],_,_,_,_=>by simp [nS]
 |_::_,_,0,_,h=>by simpa using h
 |_::_,off,k+1,hk,⟨_,_,r⟩=>by
  have:=nS.drop k (by simpa using hk) r
  grind
theorem nS.take {sz:Nat}:∀{rs:List (List AV)}{off:Nat}(k:Nat),nS E sz b off rs->nS E sz b off (rs.take k)
 |[],_,_,_=>by simp [nS]
 |_::_,_,0,_=>by simp [nS]
 |_::_,_,k+1,⟨h1,h2,r⟩=>⟨h1,h2,nS.take k r⟩
theorem oz.append:∀{cs ds:List AV}{off:Nat},oz E b off cs->oz E b (off+cs.length) ds->oz E b off (cs++ds)
 |[],_,_,_,h=>by simpa using h
 |c::cs,_,off,⟨h1,h3⟩,h=>by
  refine⟨h1,oz.append h3 ?_⟩
  grind
end lists
structure yN where
 ps:Array Tmp
 assign:Code
 body:Code
 js:List (Int×Code)
def auz:List (Int×Code)->Int->Option Code
 |[],_=>none
 |(k,c)::cs,j=>match cs with
  |[]=>some c
  |_::_=>bif j==k then some c else auz cs j
def qy(js:List (Int×Code))(j:Int):Option Code:=bif j==0 then none else auz js j
inductive jT where
 |cells (cs:List AV)
 |lN (tN:Bool) (sz:Nat) (rows:List (List AV))
 |map (es:List (AV×AV))
 |loop (k:yN) (jV:List AV) (st:LoopState) (uu:Int)
 |iter (s:ByteArray) (pos:Nat)
 |Io (s:ByteArray)
 |xu
variable {H H':List jT}
structure jJ where
 jV:List AV
 heap:List jT
 low:Nat:=0
 df:List (aJY×List AV):=[]
variable {J:jJ}
def Kx:aJW->AV
 |.int k n=>.int k n
 |.bool b=>.bool b
 |.string s=>.str s
 |.slice none 0 0=>.kW true 0 []
 |v=>.sO v
def jJ.ev(J:jJ):aJV->AV
 |.tmp t=>J.jV.getD t .any
 |.const v=>Kx v
 |.global g=>.sO (.pointer (some ⟨g,0,none⟩))
 |.func f=>.func (.func f) [] []
def jJ.put(J:jJ)(dst:Option Tmp)(x:AV):jJ:=
 match dst with
 |some d=>{J with jV:=J.jV.set d x}
 |none=>J
def jT.AT:jT->aJW->Nat->Nat->Prop
 |.cells _,.pointer (some a),b,_=>b=a.block
 |.lN tN sz _,.slice (some a) n cap,b,o=>(b=a.block/\cap≠0)/\(tN=true->a.off+n*sz<=o)
 |.map _,.map (some r),b,_=>b=r
 |.loop _ _ _ _,.func (.yield r) _ _,b,_=>b=r\/b+1=r
 |.iter _ _,.pointer (some a),b,_=>b=a.block
 |.Io _,h,b,_=>h.ownBlock=some b
 |_,_,_,_=>False
def jT.block:jT->aJW->Nat->Prop
 |.cells _,.pointer (some a),b=>b=a.block
 |.lN _ _ _,.slice (some a) _ cap,b=>b=a.block/\cap≠0
 |.map _,.map (some r),b=>b=r
 |.loop _ _ _ _,.func (.yield r) _ _,b=>b=r\/b+1=r
 |.iter _ _,.pointer (some a),b=>b=a.block
 |.Io _,h,b=>h.ownBlock=some b
 |_,_,_=>False
theorem jT.nV{x:jT}{o:Nat}(m:x.AT h b o):x.block h b:=by
 unfold jT.AT at m;grind [jT.block]
def F8(U:Nat->aJW)(H:List jT)(b o:Nat):Prop:=∃(l:Nat)(x:jT),H[l]? =some x/\x.AT (U l) b o
def lZ:Option jT->Option Nat
 |some (.lN _ _ rows)=>some rows.length
 |some (.Io s)=>some s.size
 |_=>none
def World.more(w:aJX)(o:Obj):aJX:={w with heap:=w.heap.push o}
def aiX {w1:aJX}{o:Obj}(h:w1.heap=w.heap):tyk w (World.more w1 o):=aeJ o (by show w1.heap.push o=_;rw[h])
def aiD(w:aJX)(b:Nat)(c':Array aJW):tyk w (w.setRow b c'):=fun b' c t fz hc=>by
 by_cases e:b'=b
 ·subst e;exact⟨c',fz,setRow_heap w b' c c' t fz hc⟩
 ·exact⟨c,fz,by rw[setRow_other w b b' c' e];exact hc⟩
def Xl {base e sz:Nat}(h:w.ownsRowF base e sz v n xs)(hs:∀b,v.ownBlock=some b->w'.heap[b]? =w.heap[b]?):w'.ownsRowF base e sz v n xs:=by
 refine⟨h.1,?_⟩;rcases h.2 with hn|⟨g,cap,cur,fz,rfl,hb,hg,rest⟩
 ·exact .inl hn
 ·exact .inr ⟨g,cap,cur,fz,rfl,hb,by rw[hs g rfl];exact hg,rest⟩
structure qu where
 P:aJZ
 w0:aJX
 M0:Nat->Nat->Prop
 A:Nat->Nat->Prop
 hA:∀b o,A b o->b<w0.heap.size
 hk:aoZ w0 M0
 N0:Nat:=0
 U0:Nat->aJW:=fun _=>.tuple #[]
 ln0:Nat->Option Nat:=fun _=>none
variable {C:qu}
def qu.env(C:qu)(U:Nat->aJW)(H:List jT)(w:aJX):Dw:=
 {w,mu:=fun b o=>F8 U H b o\/C.A b o,U,ln:=fun l=>lZ H[l]?,n:=H.length}
def sP(E:Dw):List (AV×AV)->List MapEntry->Prop
 |[],es=>es=[]
 |(k,v)::r,es=>∃e s,es=e::s/\pg E k e.key/\pg E v e.val/\sP E r s
def n8(E:Dw):jT->aJW->Prop
 |.cells cs,h=>∃b c t,h=.pointer (some ⟨b,0,none⟩)/\E.w.heap[b]? =some (.cells c t (0,0))/\ko E cs c.toList/\∀u∈c.toList,u.oneCell'=true
 |.lN _ sz rows,h=>∃base cap,h=.slice base rows.length cap/\rows.length<=cap/\(base=none->cap=0)/\(∀r∈rows,r.length=sz)/\
     ∀a,base=some a->cap≠0->a.spot=none/\∃c t,E.w.heap[a.block]? =some (.cells c t (0,0))/\a.off+cap*sz<=c.size/\
      ko E rows.flatten ((c.toList.drop a.off).take (rows.length*sz))/\∀u∈(c.toList.drop a.off).take (rows.length*sz),u.oneCell'=true
 |.map es,h=>∃r entries clock,h=.map (some r)/\E.w.heap[r]? =some (.map entries clock)/\sP E es entries.toList
 |.loop k jV st uu,h=>∃D rec,h=.func (.yield (D+1)) #[] #[]/\E.w.heap[D+1]? =some (.loop rec)/\E.w.heap[D]? =some (.deferred (some []))/\
     (rec.params=k.ps/\rec.assign=k.assign/\rec.body=k.body/\rec.state=st/\rec.pending=qy k.js uu/\rec.defers=D)/\ko E jV rec.tmps.toList
 |.iter s p,h=>∃b,h=.pointer (some ⟨b,0,none⟩)/\E.w.heap[b]? =some (.stringIter s p)
 |.Io s,h=>E.w.ownsRowF 0 Kw 1 h s.size (aK s)
 |.xu,_=>True
def aAk(C:qu)(U:Nat->aJW)(H:List jT):Prop:=∀l,l<C.N0->(U l=C.U0 l/\(lZ H[l]? =C.ln0 l\/lZ H[l]? =none))\/
 ((∃k,C.ln0 l=some k/\∀k',lZ H[l]? =some k'->k<k')/\(∀a,C.U0 l≠ .pointer a)/\hdl (C.U0 l)=none)
def aeK(d:Deferred):Bool:=match d.target with
 |.collected _=>true
 |_=>false
def NR(E:Dw):List (aJY×List AV)->List Deferred->Prop
 |[],ds=>ds=[]
 |(f,xs)::r,ds=>∃d s cap,ds=d::s/\d.target=.fn (.func f) cap/\ko E xs (d.args++cap).toList/\NR E r s
def NR.imp(h:∀(xs:List AV)(vs:List aJW),ko E xs vs->ko E' xs vs):∀{df:List (aJY×List AV)}{ds:List Deferred},NR E df ds->NR E' df ds
 |[],_,r=>r
 |_::_,_,⟨d,s,cap,h1,h2,h3,h4⟩=>⟨d,s,cap,h1,h2,h _ _ h3,NR.imp h h4⟩
def NR.mono(h:E.Le E.n E')(r:NR E df ds):NR E' df ds:=
 r.imp fun _ _ r=>ko.mono h _ _ (ko.nb _ _ r) r
theorem NR.nb:∀{df:List (aJY×List AV)}{ds:List Deferred},NR E df ds->∀p∈df,w5 E.n p.2
 |[],_,_,_,h=>by cases h
 |q::r,_,⟨_,_,_,_,_,h3,h4⟩,p,hp=>by
  rcases aT.1 hp with rfl|hp
  ·exact ko.nb _ _ h3
  ·exact NR.nb h4 p hp
def sQ(C:qu)(U:Nat->aJW)(H:List jT)(w:aJX)(df:List (aJY×List AV))(ds:List Deferred):Prop:=
 (ds.filter aeK).Nodup/\(∀d∈ds,aeK d=true->∃D,d=⟨.collected D,#[]⟩/\w.heap[D]? =some (.deferred (some []))/\C.w0.heap.size<=D/\∀(l:Nat)(x:jT),H[l]? =some x-> ¬ x.block (U l) D)/\
   NR (C.env U H w) df (ds.filter fun d=> !aeK d)
theorem sQ.nil:sQ C U H w [] []:=⟨List.nodup_nil,fun _ h _=>(by cases h),rfl⟩
def sQ.ao0(h:sQ C U H w df ds)
 (hr:∀(xs:List AV)(vs:List aJW),(∃f,(f,xs)∈df)->ko (C.env U H w) xs vs->ko (C.env U' H' w') xs vs)
 (Iq:∀b,b<w.heap.size->(∀(l:Nat)(x:jT),H[l]? =some x-> ¬ x.block (U l) b)->w'.heap[b]? =w.heap[b]?)
 (HZ:∀(l:Nat)(x:jT)(b:Nat),H'[l]? =some x->x.block (U' l) b->(∃(k:Nat)(y:jT),H[k]? =some y/\y.block (U k) b)\/w.heap.size<=b):sQ C U' H' w' df ds:=by
 refine⟨h.1,fun d hd hm=>?_,?_⟩
 ·obtain⟨D,h1,h2,h3,h4⟩:=h.2.1 d hd hm
  grind
 ·have key:∀(df':List (aJY×List AV))(ds':List Deferred),(∀p∈df',p∈df)->NR (C.env U H w) df' ds'->NR (C.env U' H' w') df' ds':=by
   intro df';induction df' with
   |nil=>intro _ _ r;exact r
   |cons p r ih=>
    intro ds' hp ⟨d,s,cap,h1,h2,h3,h4⟩;exact⟨d,s,cap,h1,h2,hr _ _ ⟨p.1,hp p (List.mem_cons_self ..)⟩ h3,ih _ (fun q hq=>hp q (bJ _ hq)) h4⟩
  exact key df _ (fun _ h=>h) h.2.2
theorem sQ.step(h:sQ C U H w df ds)(le:(C.env U H w).Le H.length (C.env U' H' w'))
 (Iq:∀b,b<w.heap.size->(∀(l:Nat)(x:jT),H[l]? =some x-> ¬ x.block (U l) b)->w'.heap[b]? =w.heap[b]?)
 (HZ:∀(l:Nat)(x:jT)(b:Nat),H'[l]? =some x->x.block (U' l) b->(∃(k:Nat)(y:jT),H[k]? =some y/\y.block (U k) b)\/w.heap.size<=b):sQ C U' H' w' df ds:=
 h.ao0 (fun xs vs _ r=>ko.mono le _ _ (ko.nb _ _ r) r) Iq HZ
theorem sQ.same(h:sQ C U H w df ds)(le:(C.env U H w).Le H.length (C.env U H w'))(Iq:∀b,b<w.heap.size->w'.heap[b]? =w.heap[b]?):sQ C U H w' df ds:=
 h.step le (fun b hb _=>Iq b hb) (fun l x b hx hb=>.inl ⟨l,x,hx,hb⟩)
structure mM(C:qu)(U:Nat->aJW)(J:jJ)(a:Act)(w:aJX):Prop where
 jV:ko (C.env U J.heap w) J.jV a.tmps.toList
 defers:sQ C U J.heap w J.df a.defers
 nX:∀(l:Nat)(x:jT),J.heap[l]? =some x->n8 (C.env U J.heap w) x (U l)
 apart:∀(l l':Nat)(x x':jT)(b:Nat),J.heap[l]? =some x->J.heap[l']? =some x'->x.block (U l) b->x'.block (U l') b->l=l'
 tW:∀(l:Nat)(x:jT)(b o:Nat),J.heap[l]? =some x->x.block (U l) b-> ¬ C.A b o
 size:C.w0.heap.size<=w.heap.size
 F9:∀b o,b<C.w0.heap.size-> ¬ C.M0 b o->w.cell? ⟨b,o,none⟩=C.w0.cell? ⟨b,o,none⟩
 nM:∀b,b<C.w0.heap.size->(∀o,¬ C.M0 b o)->w.heap[b]? =C.w0.heap[b]?
 Ce:∀(l:Nat)(x:jT)(b o:Nat),J.heap[l]? =some x->x.AT (U l) b o->b<C.w0.heap.size->C.M0 b o
 wS:∀a,a.block<C.w0.heap.size->(∀o,¬ C.M0 a.block o)->w.frozen? a=C.w0.frozen? a
 rest:w.output=C.w0.output/\w.os=C.w0.os
 low:C.N0=J.low/\J.low<=J.heap.length
 lR:aAk C U J.heap
 ty:tyk C.w0 w:=by first|exact S.ty|exact S.ty.trans (by first|exact fun _ c _ fz h=>⟨c,fz,h⟩|exact aiX rfl|exact aiD _ _ _|exact aiW (by assumption)|assumption)|exact S.ty.trans S'.ty|exact fun _ c _ fz h=>⟨c,fz,h⟩|(rw[h0];exact CF _)
section basics
variable {a:Act}
def amg(E:Dw)(v:aJW):pg E (Kx v) v:=by
 unfold Kx;split
 ·rfl
 ·rfl
 ·rfl
 ·exact⟨none,0,rfl,av _,fun _=>rfl,fun _=>rfl,(by intro a h;cases h),(by intro a h;cases h)⟩
 ·rfl
theorem mM.ev(S:mM C U J a w)(x:aJV):pg (C.env U J.heap w) (J.ev x) (a.eval x):=by
 cases x with
 |tmp t=>
  simp only[jJ.ev,Act.eval,List.getD];cases h:J.jV[t]? with
  |none=>exact trivial
  |some c=>
   obtain⟨v,hv,r⟩:=S.jV.get h
   simp_all
 |const v=>exact amg _ v
 |global g=>rfl
 |func f=>exact⟨#[],#[],rfl,rfl,rfl⟩
theorem mM.put(S:mM C U J a w)(dst:Option Tmp)(r:pg (C.env U J.heap w) x v):mM C U (J.put dst x) (a.put dst v) w:=by
 cases dst with
 |none=>exact S
 |some d=>
  refine {S with jV:=?_,defers:=S.defers};have:=S.jV.set (i:=d) r
  grind [jJ.put,Act.put]
def qu.CG(hn:H.length<=H'.length)
 (hφ:∀l,l<H.length->U' l=U l/\lZ H'[l]? =lZ H[l]?)
 (aDt:∀b o u,¬ (F8 U H b o\/C.A b o)->w.cell? ⟨b,o,none⟩=some u-> ¬ (F8 U' H' b o\/C.A b o)/\w'.cell? ⟨b,o,none⟩=some u) (ht:tyk w w':=by first|exact fun _ c _ fz h=>⟨c,fz,h⟩|exact aiX rfl|exact aiD _ _ _|exact aiW (by assumption)|assumption):
 (C.env U H w).Le H.length (C.env U' H' w'):=
 ⟨hn,fun l hl=>.inl ⟨(hφ l hl).1,.inl (hφ l hl).2⟩,aDt,ht⟩
theorem FI {o:Nat}(h:w.cell? ⟨b,o,none⟩=some u):b<w.heap.size:=by
 grind [World.cell?]
def mM.know(S:mM C U J a w):aoZ w (F8 U J.heap) where
 cell b o h:=by
  obtain⟨v,hc,hv,hm⟩:=C.hk.cell b o h;have hb:=FI hc;refine⟨v,by rw[S.F9 b o hb hm];exact hc,hv,?_⟩;rintro⟨l,x,hx,hmu⟩;exact hm (S.Ce l x b o hx hmu hb)
 row b h:=by
  obtain⟨hm,t,fz,hc⟩:=C.hk.row b h;have hb:b<C.w0.heap.size:=(aI.1 hc).1;refine⟨?_,t,fz,by rw[S.nM b hb hm];exact hc⟩;rintro o ⟨l,x,hx,hmu⟩;exact hm o (S.Ce l x b o hx hmu hb)
@[simp] theorem Qf(w:aJX)(o:Obj):(World.more w o).heap.size=w.heap.size+1:=by simp [World.more]
theorem yO(w:aJX)(o:Obj)(h:b<w.heap.size):(World.more w o).heap[b]? =w.heap[b]? :=by
 grind [World.more]
theorem Ir(w:aJX)(o:Obj):(World.more w o).heap[w.heap.size]? =some o:=by
 show(w.heap.push o)[w.heap.size]? =some o;simp
theorem Fe(w:aJX)(o:Obj){i:Nat}(h:b<w.heap.size):(World.more w o).cell? ⟨b,i,none⟩=w.cell? ⟨b,i,none⟩:=by
 grind [World.cell?,yO]
theorem ak0(w:aJX)(c:Array aJW)(t:aJ0)(i:Nat):(World.more w (.cells c t)).cell? ⟨w.heap.size,i,none⟩=c[i]? :=by
 grind [World.cell?,Ir]
theorem wU(w:aJX)(o:Obj)(ho:∀c t lo hi,o=.cells c t (lo,hi)->lo=0/\hi=0)(a:Addr):(World.more w o).frozen? a=w.frozen? a:=by
 grind [World.frozen?,World.more]
def n8.qH{x:jT}(r:n8 E x h)(hb:x.block h b):b<E.w.heap.size:=by
 cases x with
 |cells cs=>
  obtain⟨b',c,t,rfl,hh,_⟩:=r
  grind [jT.block]
 |lN tN sz rows=>
  obtain⟨base,cap,rfl,_,_,_,hh⟩:=r;cases base with
  |none=>simp [jT.block]at hb
  |some a0=>
   grind [jT.block]
 |map es=>
  obtain⟨r',en,cl,rfl,hh,_⟩:=r
  grind [jT.block]
 |loop k jV st uu=>
  obtain⟨D,rec,rfl,h1,h2,_⟩:=r
  grind [jT.block]
 |iter s p=>
  obtain⟨b',rfl,hh⟩:=r
  grind [jT.block]
 |Io s=>exact(World.ownsRowF.lt r b hb).2
 |xu=>simp [jT.block]at hb
def sP.mono{N:Nat}(h:E.Le N E'):∀{es:List (AV×AV)}{xs:List MapEntry},(∀p∈es,p.1.nb N/\p.2.nb N)->sP E es xs->sP E' es xs
 |[],_,_,r=>r
 |(k,v)::_,_,hb,⟨e,s,he,r1,r2,r3⟩=>
  ⟨e,s,he,pg.mono h k _ (hb (k,v) (by simp)).1 r1,pg.mono h v _ (hb (k,v) (by simp)).2 r2,sP.mono h (fun p hp=>hb p (by simp [hp])) r3⟩
theorem sP.nb:∀{es:List (AV×AV)}{xs:List MapEntry},sP E es xs->∀p∈es,p.1.nb E.n/\p.2.nb E.n
 |[],_,_=>by simp
 |(k,v)::_,_,⟨e,s,he,r1,r2,r3⟩=>by
  intro p hp;simp only[aT]at hp;rcases hp with rfl|hp
  ·exact⟨pg.nb _ _ r1,pg.nb _ _ r2⟩
  ·exact sP.nb r3 p hp
def n8.mono{x:jT}{hd:aJW}(r:n8 E x hd)(h:E.Le E.n E')(hs:∀b,x.block hd b->E'.w.heap[b]? =E.w.heap[b]?):n8 E' x hd:=by
 cases x with
 |cells cs=>
  obtain⟨b,c,t,rfl,hh,rl,h1⟩:=r;exact⟨b,c,t,rfl,by rw[hs b rfl,hh],ko.mono h _ _ (ko.nb _ _ rl) rl,h1⟩
 |lN tN sz rows=>
  obtain⟨base,cap,rfl,h1,h2,h3,hh⟩:=r;refine⟨base,cap,rfl,h1,h2,h3,fun a0 ha hc=>?_⟩;obtain⟨h4,c,t,h5,h6,rl,h1⟩:=hh a0 ha hc;subst ha;exact⟨h4,c,t,by rw[hs _ ⟨rfl,hc⟩,h5],h6,ko.mono h _ _ (ko.nb _ _ rl) rl,h1⟩
 |map es=>
  obtain⟨r',en,cl,rfl,hh,rp⟩:=r;exact⟨r',en,cl,rfl,by rw[hs r' rfl,hh],sP.mono h (sP.nb rp) rp⟩
 |loop k jV st uu=>
  obtain⟨D,rec,rfl,h1,h2,h3,rl⟩:=r;exact⟨D,rec,rfl,by rw[hs (D+1) (.inl rfl),h1],by rw[hs D (.inr rfl),h2],h3,ko.mono h _ _ (ko.nb _ _ rl) rl⟩
 |iter s p=>
  obtain⟨b,rfl,hh⟩:=r;exact⟨b,rfl,by rw[hs b rfl,hh]⟩
 |Io s=>exact Xl r hs
 |xu=>trivial
theorem mM.more(S:mM C U J a w)(o:Obj)(ho:∀c t lo hi,o=.cells c t (lo,hi)->lo=0/\hi=0):mM C U J a (World.more w o):=by
 have le:(C.env U J.heap w).Le J.heap.length (C.env U J.heap (World.more w o)):=
  qu.CG (av _) (fun _ _=>⟨rfl,rfl⟩) (fun b i u hm hc=>⟨hm,by grind [Fe,FI]⟩)
 refine {jV:=ko.mono le _ _ (ko.nb _ _ S.jV) S.jV,defers:=S.defers.same le (fun b hb=>yO w o hb),nX:=?_,apart:=S.apart,tW:=S.tW,size:=?_,F9:=?_,nM:=?_,Ce:=S.Ce,wS:=?_,rest:=S.rest,low:=S.low,lR:=S.lR}
 ·intro l x hx;have r:=S.nX l x hx;exact n8.mono r le (fun b hb=>yO w o (r.qH hb))
 ·have:=S.size;simp;omega
 ·intro b i hb hm;rw[Fe w o (aa hb S.size)];exact S.F9 b i hb hm
 ·intro b hb hm;rw[yO w o (aa hb S.size)];exact S.nM b hb hm
 ·intro x hx;rw[wU w o ho];exact S.wS x hx
def mM.drew(S:mM C U J a w)(n:Nat):mM C U J a {w with drawn:=n}:=by
 have le:(C.env U J.heap w).Le J.heap.length (C.env U J.heap {w with drawn:=n}):=
  qu.CG (av _) (fun _ _=>⟨rfl,rfl⟩) (fun b i u hm hc=>⟨hm,hc⟩)
 exact {jV:=ko.mono le _ _ (ko.nb _ _ S.jV) S.jV,defers:=S.defers.same le (fun _ _=>rfl),nX:=fun l x hx=>n8.mono (S.nX l x hx) le (fun _ _=>rfl),apart:=S.apart,tW:=S.tW,size:=S.size,F9:=S.F9,nM:=S.nM,Ce:=S.Ce,wS:=S.wS,rest:=S.rest,low:=S.low,lR:=S.lR}
def mM.aAl(_S:mM C U J a w)(o:Obj):(C.env U J.heap w).Le J.heap.length (C.env U J.heap (World.more w o)):=
 qu.CG (av _) (fun _ _=>⟨rfl,rfl⟩) (fun b i u hm hc=>⟨hm,by grind [Fe,FI]⟩)
def ao1(S:mM C U J a w)(hb:w.heap.size<=b)(o:Nat): ¬ (F8 U J.heap b o\/C.A b o):=by
 rintro(⟨l,x,hx,hm⟩|hA)
 ·have:=(S.nX l x hx).qH (jT.nV hm);simp only[qu.env]at this;omega
 ·have:=C.hA _ _ hA;have:=S.size;omega
def aiY(S:mM C U J a w)(c:Array aJW)(t:aJ0)(h1: ∀u∈c.toList,u.oneCell'=true): ∀(cs:List AV)(off:Nat),ko (C.env U J.heap w) cs ((c.toList.drop off).take cs.length)->
 oz (C.env U J.heap (World.more w (.cells c t))) w.heap.size off cs
 |[],_,_=>trivial
 |x::cs,off,r=>by
  obtain⟨u,us,hu,r1,r2⟩:=r
  have hc:c[off]? =some u:=by
   have:(c.toList.drop off)[0]? =some u:=by
    have:=congrArg (fun l:List aJW=>l[0]?) hu;simpa using this
   simpa using this
  have htl:us=(c.toList.drop (off+1)).take cs.length:=by
   have h1:=congrArg List.tail hu;simp only[List.tail_cons]at h1;rw[<-h1];cases hd:c.toList.drop off with
   |nil=>rw[hd]at hu;simp at hu
   |cons y ys=>
    grind [bD]
  refine⟨⟨ao1 S (av _) _,u,by grind [qu.env,ak0],h1 u (bK (by simpa using hc)),pg.mono (S.aAl _) _ _ (pg.nb _ _ r1) r1⟩,aiY S c t h1 cs (off+1) (by rw[<-htl];exact r2)⟩
theorem ahe(S:mM C U J a w)(c:Array aJW)(t:aJ0)(h1:∀u∈c.toList,u.oneCell'=true)(sz:Nat):∀(rs:List (List AV))(off:Nat),(∀r∈rs,r.length=sz)->ko (C.env U J.heap w) rs.flatten ((c.toList.drop off).take (rs.length*sz))->
 nS (C.env U J.heap (World.more w (.cells c t))) sz w.heap.size off rs
 |[],_,_,_=>trivial
 |r::rs,off,hl,h=>by
  have hr:r.length=sz:=hl r (by simp);simp only[aD]at h;have h3:=ko.take r.length h;have h2:=ko.drop r.length h;simp only[aZ,a8,bE,aY,aR]at h3 h2;refine⟨hr,aiY S c t h1 r off ?_,ahe S c t h1 sz rs (off+sz) (fun q hq=>hl q (by simp [hq])) ?_⟩
  all_goals grind [az]
def mM.aC4(S:mM C U J a w)(c:Array aJW)(t:aJ0)(r:(C.env U J.heap w).Le J.heap.length (C.env (fun l=>if l=J.heap.length then .pointer (some ⟨w.heap.size,0,none⟩)else U l) (J.heap++[.cells cs]) (World.more w (.cells c t)))->ko (C.env (fun l=>if l=J.heap.length then .pointer (some ⟨w.heap.size,0,none⟩)else U l) (J.heap++[.cells cs]) (World.more w (.cells c t))) cs c.toList)(h1:∀u∈c.toList,u.oneCell'=true):
 mM C (fun l=>if l=J.heap.length then .pointer (some ⟨w.heap.size,0,none⟩)else U l) {J with heap:=J.heap++[.cells cs]} a (World.more w (.cells c t))/\
 (C.env U J.heap w).Le J.heap.length (C.env (fun l=>if l=J.heap.length then .pointer (some ⟨w.heap.size,0,none⟩)else U l) (J.heap++[.cells cs]) (World.more w (.cells c t))):=by
 let U':Nat->aJW:=fun l=>if l=J.heap.length then .pointer (some ⟨w.heap.size,0,none⟩)else U l
 have hφ:∀l,l<J.heap.length->U' l=U l:=fun l hl=>by grind
 have nA:∀(l:Nat)(x:jT),(J.heap++[.cells cs])[l]? =some x->(l<J.heap.length/\J.heap[l]? =some x)\/(l=J.heap.length/\x=.cells cs):=by
  grind
 have L0:∀b o,F8 U' (J.heap++[.cells cs]) b o->b=w.heap.size\/F8 U J.heap b o:=by
  rintro b o ⟨l,x,hx,hm⟩;rcases nA l x hx with⟨hl,hx⟩|⟨rfl,rfl⟩
  ·rw[hφ l hl]at hm;exact .inr ⟨l,x,hx,hm⟩
  grind [jT.AT]
 have le:(C.env U J.heap w).Le J.heap.length (C.env U' (J.heap++[.cells cs]) (World.more w (.cells c t))):=by
  refine qu.CG (by simp) (fun l hl=>⟨hφ l hl,by rw[ax hl]⟩) (fun b i u hm hc=>?_)
  grind [FI,Fe]
 have BM:sQ C U' (J.heap++[.cells cs]) (World.more w (.cells c t)) J.df a.defers:=by
  refine S.defers.step le (fun b hb _=>yO w _ hb) (fun l x b hx hb=>?_)
  grind [jT.block]
 refine⟨{jV:=ko.mono le _ _ (ko.nb _ _ S.jV) S.jV,defers:=BM,nX:=?_,apart:=?_,tW:=?_,size:=?_,F9:=?_,nM:=?_,Ce:=?_,wS:=?_,rest:=S.rest,low:=⟨S.low.1,by have:=S.low.2;simp;omega⟩,lR:=?_},le⟩
 ·intro l x hx;rcases nA l x hx with⟨hl,hx⟩|⟨rfl,rfl⟩
  ·have r0:=S.nX l x hx;have:n8 (C.env U' (J.heap++[.cells cs]) (World.more w (.cells c t))) x (U l):=n8.mono r0 le (fun b hb=>yO w _ (r0.qH hb))
   grind
  ·exact⟨w.heap.size,c,t,by simp,Ir w _,r le,h1⟩
 ·intro l l' x x' b hx Dt hb qR;rcases nA l x hx with⟨hl,hx⟩|⟨rfl,rfl⟩<;>rcases nA l' x' Dt with⟨Xf,Dt⟩|⟨rfl,rfl⟩
  ·rw[show(if l=J.heap.length then _ else U l)=U l from hφ l hl]at hb;rw[show(if l'=J.heap.length then _ else U l')=U l' from hφ l' Xf]at qR;exact S.apart l l' x x' b hx Dt hb qR
  ·rw[show(if l=J.heap.length then _ else U l)=U l from hφ l hl]at hb;have:=(S.nX l x hx).qH hb
   grind [jT.block,qu.env]
  ·rw[show(if l'=J.heap.length then _ else U l')=U l' from hφ l' Xf]at qR;have:=(S.nX l' x' Dt).qH qR
   grind [jT.block,qu.env]
  ·rfl
 ·intro l x b o hx hb;rcases nA l x hx with⟨hl,hx⟩|⟨rfl,rfl⟩
  ·rw[show(if l=J.heap.length then _ else U l)=U l from hφ l hl]at hb;exact S.tW l x b o hx hb
  ·simp only[jE,jT.block]at hb;intro hA;have:=C.hA _ _ hA;have:=S.size;omega
 ·have:=S.size;simp;omega
 ·intro b i hb hm;rw[Fe w _ (aa hb S.size)];exact S.F9 b i hb hm
 ·intro b hb hm;rw[yO w _ (aa hb S.size)];exact S.nM b hb hm
 ·intro l x b o hx hm hb;rcases nA l x hx with⟨hl,hx⟩|⟨rfl,rfl⟩
  ·rw[show(if l=J.heap.length then _ else U l)=U l from hφ l hl]at hm;exact S.Ce l x b o hx hm hb
  ·simp only[jE,jT.AT]at hm;have:=S.size;omega
 ·intro x hx;rw[wU w _ (by grind)];exact S.wS x hx
 ·intro l hl;have mR:l<J.heap.length:=by have:=S.low;omega
  have:=S.lR l hl
  grind
theorem mM.name(S:mM C U J a w)(c:Array aJW)(t:aJ0)(r:ko (C.env U J.heap w) cs c.toList)(h1:∀u∈c.toList,u.oneCell'=true):
 mM C (fun l=>if l=J.heap.length then .pointer (some ⟨w.heap.size,0,none⟩)else U l) {J with heap:=J.heap++[.cells cs]} a (World.more w (.cells c t))/\
 (C.env U J.heap w).Le J.heap.length (C.env (fun l=>if l=J.heap.length then .pointer (some ⟨w.heap.size,0,none⟩)else U l) (J.heap++[.cells cs]) (World.more w (.cells c t))):=
 S.aC4 c t (fun le=>ko.mono le _ _ (ko.nb _ _ r) r) h1
end basics
structure vW where
 val:AV
 rd:List Nat:=[]
 up:List (Nat×jT):=[]
 nw:List jT:=[]
 pre:Prop:=True
 whole:Bool:=false
variable {ef:vW}
def mh:List jT->List (Nat×jT)->List jT
 |H,[]=>H
 |H,(l,x)::r=>mh (H.set l x) r
def jJ.app(J:jJ)(dst:Option Tmp)(e:vW):jJ:=
 {J.put dst e.val with heap:=mh J.heap e.up++e.nw}
def l4(P:aJZ)(t:aJ0):Option (Bool×Nat):=
 match P.info? t with
 |none=>none
 |some i=>match P.underlying t with
  |some (.struct _)=>some (true,i.size)
  |some (.array _ _)=>some (true,i.size)
  |some _=>some (false,i.size)
  |none=>none
def lI(P:aJZ)(t:aJ0):Option (List AV):=
 match P.info? t with
 |none=>none
 |some i=>match i.zero with
  |some v=>if v.cells.toList.all Value.oneCell' then some (v.cells.toList.map Kx)else none
  |none=>none
def nP(P:aJZ)(t:aJ0)(i:Nat):Option (Nat×aJ0):=
 match P.underlying t with
 |some (.struct fs)=>match fs[i]? with
  |some f=>match P.info? f.type with
   |some j=>if j.size=0 then none else some (f.offset,f.type)
   |none=>none
  |none=>none
 |_=>none
def lv(P:aJZ)(t:aJ0):Option (aJ0×Nat×Nat):=
 match P.underlying t with
 |some (.slice e)=>match P.info? e with
  |some i=>some (e,i.size,i.bytes)
  |none=>none
 |_=>none
def ak1(P:aJZ)(t:aJ0):Option (Nat×Nat):=
 match P.underlying t with
 |some (.array n e)=>match P.info? e with
  |some i=>some (n,i.size)
  |none=>none
 |_=>none
def oR(P:aJZ)(t:aJ0):Bool:=
 match P.underlying t with
 |some .string=>true
 |_=>false
def aiZ(P:aJZ)(t:aJ0):Option IntKind:=
 match P.underlying t with
 |some (.int k)=>some k
 |_=>none
def k9(P:aJZ)(t:aJ0):Bool:=
 match P.underlying t with
 |some (.int _)=>false
 |some _=>true
 |none=>false
def mr(P:aJZ)(t:aJ0):Bool:=
 match P.underlying t with
 |some (.interface _)=>false
 |some _=>true
 |none=>false
def AV.qM:AV->Bool
 |.any|.agg _|.Ip _|.sn _ _=>false
 |.sO v=>v.oneCell'
 |_=>true
def cellsOf:AV->Option (List AV)
 |.agg cs=>if cs.all AV.qM then some cs else none
 |x=>if x.qM then some [x] else none
def mN(g:Bool)(n:Nat)(cs:List AV):Option AV:=
 match g with
 |true=>if n<=cs.length then some (.agg (cs.take n))else none
 |false=>match cs with
  |c::_=>some c
  |[]=>none
def wm(cs:List AV)(off:Nat)(xs:List AV):List AV:=cs.take off++xs++cs.drop (off+xs.length)
def Xm(place:Nat->Option (Nat×Nat))(cs:List AV):List (Nat×AV)->Option (List AV)
 |[]=>some cs
 |(i,x)::rest=>match place i,cellsOf x with
  |some (off,size),some xs=>if xs.length=size/\off+size<=cs.length then Xm place (wm cs off xs) rest else none
  |_,_=>none
def Sb(P:aJZ)(t:aJ0):Option (Nat->Option (Nat×Nat)):=
 match P.underlying t with
 |some (.array _ e)=>match P.info? e with
  |some ie=>some fun i=>some (i*ie.size,ie.size)
  |none=>none
 |some (.struct fields)=>match fields.toList.mapM (fun f=>(P.info? f.type).map fun i=>(f.offset,i.size))with
  |some places=>some fun i=>places.toArray[i]?
  |none=>none
 |_=>none
def q7(P:aJZ)(t:aJ0):Bool:=(Sb P t).isSome
def kq(P:aJZ)(t:aJ0)(i:Nat):Option (Nat×Nat):=
 match Sb P t with
 |some f=>f i
 |none=>none
def Xn(sz:Nat)(rows:List (List AV)):List (Nat×AV)->Option (List (List AV))
 |[]=>some rows
 |(i,x)::rest=>match cellsOf x with
  |some xs=>if i<rows.length/\xs.length=sz then Xn sz (rows.set i xs) rest else none
  |none=>none
def axv(k:IntKind)(f:BitVec k.bits->BitVec k.bits->BitVec k.bits)(a b:Int):Int:=k.wrap (f (BitVec.ofInt k.bits a) (BitVec.ofInt k.bits b)).toNat
def amh(op:BinOp)(x y:AV):Option AV:=
 match x,y with
 | .int k a,.int k' b=>
   if k≠k' then none else
   match op with
   |.add=>some (.int k (k.wrap (a+b)))
   |.sub=>some (.int k (k.wrap (a-b)))
   |.mul=>some (.int k (k.wrap (a*b)))
   |.eql=>some (.bool (a==b))
   |.neq=>some (.bool (a !=b))
   |.lss=>some (.bool (decide (a<b)))
   |.leq=>some (.bool (decide (a<=b)))
   |.gtr=>some (.bool (decide (b<a)))
   |.geq=>some (.bool (decide (b<=a)))
   |.quo=>if b=0 then none else some (.int k (k.wrap (a.tdiv b)))
   |.rem=>if b=0 then none else some (.int k (a.tmod b))
   |.and=>some (.int k (axv k (· &&& ·) a b))
   |.or=>some (.int k (axv k (· ||| ·) a b))
   |.xor=>some (.int k (axv k (· ^^^ ·) a b))
   |.andNot=>some (.int k (axv k (fun x y=>x&&& ~~~y) a b))
   |_=>none
 | .str a,.str b=>
   match op with
   |.eql=>some (.bool (a.toList==b.toList))
   |.neq=>some (.bool (!(a.toList==b.toList)))
   |.add=>if a.size+b.size<=9223372036854775807 then some (.str (a++b))else none
   |.lss=>some (.bool (bS a.toList b.toList))
   |.leq=>some (.bool (bS a.toList b.toList||a.toList==b.toList))
   |.gtr=>some (.bool (!(bS a.toList b.toList||a.toList==b.toList)))
   |.geq=>some (.bool (!bS a.toList b.toList))
   |_=>none
 |_,_=>none
def eq1:AV->AV->Bool
 |.int _ a,.int _ b=>a==b
 |.str a,.str b=>a.toList==b.toList
 |.bool a,.bool b=>a==b
 |_,_=>false
def eqB:List AV->List AV->Bool
 |[],[]=>true
 |x::xs,y::ys=>eq1 x y&&eqB xs ys
 |_,_=>false
def ami(P:aJZ)(t:aJ0)(cs ds:List AV):Prop:=
 ∀ (E:Dw) (vs us:Array aJW) (w:aJX) (x y:aJV),ko E cs vs.toList->ko E ds us.toList->
   (do eqGuard .eql t x y (.agg vs) (.agg us);binOp .eql t (.agg vs) (.agg us):Sem aJW).run P w=.ok (.bool (eqB cs ds)) w/\
   (do eqGuard .neq t x y (.agg vs) (.agg us);binOp .neq t (.agg vs) (.agg us):Sem aJW).run P w=.ok (.bool (!eqB cs ds)) w
def tbl(P:aJZ)(t:aJ0):Bool:=
 match P.underlying t with
 |some .bool=>true
 |_=>false
def ar5(P:aJZ)(t:aJ0):Bool:=
 match P.underlying t with
 |some (.interface ms)=>ms.isEmpty
 |_=>false
def af5(P:aJZ)(op:BinOp)(t:aJ0)(x y:AV):Option vW:=
 match op,x,y with
 |.eql,.agg cs,.agg ds=>some {val:=.bool (eqB cs ds),pre:=ami P t cs ds}
 |.neq,.agg cs,.agg ds=>some {val:=.bool (!eqB cs ds),pre:=ami P t cs ds}
 |.eql,.bool a,.bool b=>if tbl P t then some {val:=.bool (a==b)} else none
 |.neq,.bool a,.bool b=>if tbl P t then some {val:=.bool (!(a==b))} else none
 |.eql,.iface _ _,.sO .nilIface=>if ar5 P t then some {val:=.bool false} else none
 |.neq,.iface _ _,.sO .nilIface=>if ar5 P t then some {val:=.bool true} else none
 |.eql,.sO .nilIface,.sO .nilIface=>if ar5 P t then some {val:=.bool true} else none
 |.neq,.sO .nilIface,.sO .nilIface=>if ar5 P t then some {val:=.bool false} else none
 |_,_,_=>none
def ad5(P:aJZ)(op:BinOp)(t:aJ0)(x:AV)(y:aJV):Option vW:=
 match op,x,y with
 |.eql,.sO (.slice a _ _),.const (.slice none 0 0)=>if (lv P t).isSome then some {val:=.bool a.isNone} else none
 |.eql,.kW _ _ rows,.const (.slice none 0 0)=>if rows.isEmpty=false/\(lv P t).isSome then some {val:=.bool false} else none
 |_,_,_=>none
def amj(P:aJZ)(op:BinOp)(t:aJ0)(y:aJV)(a b:AV):Option vW:=
 match ad5 P op t a y with
 |some e=>some e
 |none=>af5 P op t a b
def Ca(J:jJ)(d:Nat):Option aJV->Option Int
 |none=>some d
 |some x=>match J.ev x with
  |.int _ n=>some n
  |_=>none
def acf(mx:Option aJV)(t:Bool)(h n m:Int):Bool:=
 match mx with
 |none=>t&&decide (h=n)
 |some _=>decide (h=m)
def aeL (J:jJ) (sz:Nat) (x:AV) (lo hi mx:Option aJV):Option vW:=
 match x with
 | .kW t Ph rows=>
   match Ca J 0 lo,Ca J rows.length hi,Ca J rows.length mx with
   |some l,some h,some m=>if (Ph=sz\/rows.length=0)/\0<=l/\l<=h/\h<=m/\m<=rows.length then
     some {val:=.kW (acf mx t h rows.length m) sz ((rows.take h.toNat).drop l.toNat)} else none
   |_,_,_=>none
 | .lN k n=>match J.heap[k]? with
   |some (.lN true Ph rows)=>
    match Ca J 0 lo,Ca J rows.length hi,Ca J rows.length mx with
    |some l,some h,some m=>if Ph=sz/\rows.length=n/\0<=l/\l<=h/\h<=m/\m<=rows.length then
      some {val:=.kW (acf mx false h rows.length m) sz ((rows.take h.toNat).drop l.toNat),rd:=[k]} else none
    |_,_,_=>none
   |_=>none
 |_=>none
def Xo(J:jJ)(sz:Nat):AV->Option (List Nat×List (List AV))
 |.kW _ Ph rows=>if Ph=sz\/rows.length=0 then some ([],rows)else none
 | .lN l n=>match J.heap[l]? with
   |some (.lN true Ph rows)=>if Ph=sz/\rows.length=n then some ([l],rows)else none
   |_=>none
 |.sO (.slice _ 0 _)=>some ([],[])
 |_=>none
def room(n bytes:Nat):Prop:=n*bytes<=2 ^ 44
def Ql (im:Bool) (J:jJ) (sz bytes:Nat) (x y:AV):Option vW:=
 match Xo J sz y with
 |none=>none
 |some (rd,ys)=>match x with
  | .lN l n=>match J.heap[l]? with
    |some (.lN tN Ph rows)=>if Ph=sz/\rows.length=n then
      some {val:=.lN l (rows++ys).length,rd:=l::rd,up:=[(l,.lN tN sz (rows++ys))],pre:=room (rows.length+ys.length) bytes} else none
    |_=>none
  | .kW true Ph rows=>if Ph=sz\/rows.length=0 then
      (if rows.length=0\/0<ys.length then some {val:=.lN J.heap.length (rows++ys).length,rd:=rd,nw:=[.lN im sz (rows++ys)],pre:=room (rows.length+ys.length) bytes}
        else some {val:=.kW true Ph rows,rd:=rd})else none
  |_=>none
def ant(P:aJZ):Bool:=match P.info? Kw with
 |some i=>(match i.zero with
  |some (.int .u8 0)=>true
  |_=>false)&&(i.size==1)&&(i.bytes==1)
 |none=>false
def acg(J:jJ)(e:aJ0)(x:AV)(u:ByteArray):Option vW:=match x with
 | .lN l n=>match J.heap[l]? with
   |some (.Io s)=>if s.size=n/\e=Kw then some {val:=.lN l (s.size+u.size),rd:=[l],up:=[(l,.Io (s++u))],pre:=room (s.size+u.size) 1} else none
   |_=>none
 |_=>none
def Qm(P:aJZ)(u:aJ0)(im:Bool)(J:jJ)(e:aJ0)(sz bytes:Nat)(x y:AV):Option vW:=match y with
 |.str s=>if ant P=true/\oR P u=true then acg J e x s else none
 |_=>Ql im J sz bytes x y
theorem ahf{u:aJ0}{e:aJ0}{sz bytes:Nat}(h: ¬ ∃s,y=.str s):Qm P u im J e sz bytes x y=Ql im J sz bytes x y:=by
 unfold Qm;split
 ·rename_i s;exact absurd ⟨s,rfl⟩ h
 ·rfl
def amk(P:aJZ)(J:jJ)(t:aJ0):AV->Option vW
 |.str s=>if oR P t then some {val:=.int .i64 s.size} else none
 |.kW _ _ rows=>if (lv P t).isSome then some {val:=.int .i64 rows.length} else none
 | .lN l n=>if (lv P t).isSome then match J.heap[l]? with
   |some (.lN _ _ rows)=>if rows.length=n then some {val:=.int .i64 n,rd:=[l]} else none
   |some (.Io s)=>if s.size=n then some {val:=.int .i64 n,rd:=[l]} else none
   |_=>none else none
 |_=>none
def aml:List aJV->Nat
 |.tmp t::_=>t
 |_=>0
def MV (P:aJZ) (J:jJ) (b:Builtin) (j8:List aJV) (ts:List aJ0) (xs:List AV):Option vW:=
 match b,ts,xs with
 |.len,[t],[x]=>amk P J t x
 | .append,[t,u],[x,y]=>match lv P t,k9 P u with
   |some (e,sz,bytes),true=>match lI P e with
    |some z=>if z.length=sz/\0<sz/\0<bytes then Qm P u (aDs t (aml j8)) J e sz bytes x y else none
    |none=>none
   |_,_=>none
 |.max,[_,_],[.int k m,.int _ n]=>some {val:=.int k (if n>m then n else m)}
 |.min,[_,_],[.int k m,.int _ n]=>some {val:=.int k (if n<m then n else m)}
 |_,_,_=>none
def vwL (H:List jT):List AV->Option (List AV×List Nat)
 |[]=>some ([],[])
 | .lN l n::cs=>match H[l]? with
   |some (.lN tN sz rows)=>if rows.length=n then match vwL H cs with
    |some (ds,ns)=>some ((bif tN then .kW false sz rows else .lN l n)::ds,l::ns)
    |none=>none else none
   |_=>none
 |c::cs=>match vwL H cs with
  |some (ds,ns)=>some (c::ds,ns)
  |none=>none
def ldV(H:List jT)(l:Nat):AV->Option vW
 | .agg cs=>match vwL H cs with
   |some (ds,ns)=>some {val:=.agg ds,rd:=l::ns}
   |none=>none
 |v=>some {val:=v,rd:=[l]}
def ai0(sz:Nat):Nat->List AV->Option (List AV)
 |0,cs=>if sz<=cs.length then some (cs.take sz)else none
 |n+1,cs=>ai0 sz n (cs.drop sz)
def tz1(P:aJZ)(t:aJ0):Option AV:=
 match P.info? t with
 |some i=>match i.zero with
  |some (.bool b)=>some (.bool b)
  |some (.int k n)=>some (.int k n)
  |some (.string s)=>some (.str s)
  |some (.agg vs)=>some (.agg (vs.toList.map Kx))
  |_=>none
 |none=>none
def aam(P:aJZ)(t:aJ0):Option AV:=
 match P.underlying t with
 |some (.map k e)=>match P.underlying k with
  |some .string=>tz1 P e
  |_=>none
 |_=>none
def OU:List (AV×AV)->Bool
 |[]=>true
 |(.str _,_)::es=>OU es
 |_=>false
def ze(s:ByteArray):List (AV×AV)->Option AV
 |(.str k,v)::es=>bif s==k then some v else ze s es
 |_=>none
def MW(s:ByteArray)(v:AV):List (AV×AV)->List (AV×AV)
 |(.str k,u)::es=>bif s==k then(.str k,v)::es else(.str k,u)::MW s v es
 |_=>[(.str s,v)]
def ach(z:AV)(l:Nat)(s:ByteArray):Option jT->Option vW
 |some (.map es)=>if OU es=true then some {val:=(ze s es).getD z,rd:=[l]} else none
 |_=>none
def amm(z:AV)(l:Nat):Option AV->vW
 |some v=>{val:=.Ip [v,.bool true],rd:=[l]}
 |none=>{val:=.Ip [z,.bool false],rd:=[l]}
def af6(z:AV)(l:Nat)(s:ByteArray):Option jT->Option vW
 |some (.map es)=>if OU es=true then some (amm z l (ze s es))else none
 |_=>none
def anu(P:aJZ)(t:aJ0):AV->Option vW
 |.iface t' x=>if t'=t/\mr P t=true then some {val:=.Ip [x,.bool true]} else none
 |_=>none
def CH(l:Nat)(s:ByteArray)(v:AV):Option jT->Option vW
 |some (.map es)=>if OU es=true then some {val:=.any,rd:=[l],up:=[(l,.map (MW s v es))]} else none
 |_=>none
def ai1:aJW->Option vW
 | .pointer (some ⟨b,o,none⟩)=>match aAi b with
   |some k=>(auy b o).bind fun m=>some {val:=.int k m}
   |none=>none
 |_=>none
def aci(l:Nat):Option jT->Option vW
 |some (.iter s p)=>if p<s.size then some {val:=.Ip [.bool true,.int .i64 p,.int .i32 (Utf8.decode s p).1],rd:=[l],up:=[(l,.iter s (p+(Utf8.decode s p).2))]}
   else some {val:=.Ip [.bool false],rd:=[l]}
 |_=>none
def zB(t:Nat)(z:List AV):List AV:=bif aeI t then(match z with
 |x::.kW true 0 []::r=>x::.sO (.slice none 0 0)::r
 |z=>z)else z
def Ky(t l:Nat)(z:List AV):vW:=bif aeI t then(match z with
 |.sO (.pointer none)::.sO (.slice none 0 0)::r=>{val:=.ptr (l+1) 0,nw:=[.Io ar,.cells (.sn t (l+1)::.lN l 0::r)]}
 |_=>{val:=.ptr l 0,nw:=[.cells z]})else {val:=.ptr l 0,nw:=[.cells z]}
theorem amn {t:Nat}:(Ky t l z).nw≠[]:=by
 unfold Ky;cases aeI t with
 |false=>simp
 |true=>rw[jy];split<;>simp
def ao2 {t:Nat}:(Ky t l z).rd=[]/\(Ky t l z).up=[]/\(Ky t l z).pre=True/\(Ky t l z).whole=false:=by
 unfold Ky;cases aeI t with
 |false=>simp
 |true=>rw[jy];split<;>simp
def kQ (P:aJZ) (J:jJ):Op->Option vW
 |.move x=>some {val:=J.ev x}
 |.assign x=>some {val:=J.ev x}
 | .pick c x y=>match J.ev c with
   |.bool b=>some {val:=bif b then J.ev x else J.ev y}
   |_=>none
 | .alloc t=>match lI P t with
   |some z=>some (Ky t J.heap.length (zB t z))
   |none=>none
 | .box t x=>match cellsOf (J.ev x) with
   |some cs=>some (Ky t J.heap.length cs)
   |none=>none
 | .build t parts=>match q7 P t,lI P t with
   |true,some z=>match Xm (kq P t) (zB t z) (parts.toList.map fun p=>(p.1,J.ev p.2))with
    |some cs=>some {val:=.agg cs}
    |none=>none
   |_,_=>none
 | .buildSlice t len parts=>match lv P t with
   |some (e,sz,_)=>match lI P e with
    |some z=>if z.length=sz/\len*sz<=16777216 then
      match Xn sz (an len z) (parts.toList.map fun p=>(p.1,J.ev p.2))with
      |some rows=>bif aAh t (aml (parts.toList.map (·.2)))then some {val:=.lN J.heap.length rows.length,nw:=[.lN (aDs t (aml (parts.toList.map (·.2)))) sz rows]} else some {val:=.kW true sz rows}
      |none=>none
     else none
    |none=>none
   |none=>none
 | .load t x=>match l4 P t,J.ev x with
   |some (g,n),.ptr l off=>match J.heap[l]? with
    |some (.cells cs)=>match mN g n (cs.drop off)with
     |some v=>ldV J.heap l v
     |none=>none
    |_=>none
   |some (g,n),.pp cs=>match mN g n cs with
    |some v=>some {val:=v}
    |none=>none
   |some (g,n),.own l i m o sz=>match J.heap[l]? with
    |some (.lN false Ph rows)=>if Ph=sz/\rows.length=m then match rows[i]? with
     |some r=>match mN g n (r.drop o)with
      |some v=>some {val:=v,rd:=[l]}
      |none=>none
     |none=>none else none
    |_=>none
   |some (false,_),.sO v=>ai1 v
   |_,_=>none
 | .store t x y=>match l4 P t,J.ev x,cellsOf (J.ev y) with
   |some (_,n),.ptr l off,some ys=>match J.heap[l]? with
    |some (.cells cs)=>if ys.length=n/\off+n<=cs.length then some {val:=.any,rd:=[l],up:=[(l,.cells (wm cs off ys))]} else none
    |_=>none
   |some (_,n),.own l i m o sz,some ys=>match J.heap[l]? with
    |some (.lN false Ph rows)=>if Ph=sz/\rows.length=m then match rows[i]? with
     |some r=>if ys.length=n/\o+n<=sz then some {val:=.any,rd:=[l],up:=[(l,.lN false sz (rows.set i (wm r o ys)))]} else none
     |none=>none else none
    |_=>none
   |_,_,_=>none
 | .binOp op t x y _=>match amh op (J.ev x) (J.ev y) with
   |some v=>some {val:=v}
   |none=>amj P op t y (J.ev x) (J.ev y)
 | .unOp op _ x=>match op,J.ev x with
   |.not,.bool b=>some {val:=.bool (!b)}
   |.neg,.int k n=>some {val:=.int k (k.wrap (0-n))}
   |.xor,.int k n=>some {val:=.int k (axv k (· ^^^ ·) (if k.signed then-1 else k.max) n)}
   |_,_=>none
 | .fieldAddr t x i=>match nP P t i,J.ev x with
   |some (o,_),.ptr l off=>some {val:=.ptr l (off+o)}
   |some (o,_),.pp cs=>some {val:=.pp (cs.drop o)}
   |some (o,_),.own l i m o' sz=>some {val:=.own l i m (o'+o) sz}
   |_,_=>none
 | .field t x i=>match nP P t i,J.ev x with
   |some (o,u),.agg cs=>match l4 P u with
    |some (g,n)=>match mN g n (cs.drop o)with
     |some v=>some {val:=v}
     |none=>none
    |none=>none
   |_,_=>none
 | .indexAddr t x i=>match lv P t with
   |some (_,sz,_)=>match J.ev x,J.ev i with
    | .kW _ Ph rows,.int _ n=>if Ph=sz/\0<=n then match rows[n.toNat]? with
      |some r=>some {val:=.pp r}
      |none=>none else none
    | .lN l m,.int _ n=>match J.heap[l]? with
      |some (.lN true Ph rows)=>if Ph=sz/\0<=n/\rows.length=m then match rows[n.toNat]? with
       |some r=>some {val:=.pp r,rd:=[l]}
       |none=>none else none
      |some (.lN false Ph rows)=>if Ph=sz/\0<=n/\rows.length=m/\n<m then some {val:=.own l n.toNat m 0 sz,rd:=[l]} else none
      |_=>none
    |_,_=>none
   |none=>match ak1 P t with
    |some (len,sz)=>match J.ev x,J.ev i with
     |.ptr l off,.int _ n=>if 0<=n/\n<len then some {val:=.ptr l (off+n.toNat*sz)} else none
     |.pp cs,.int _ n=>if 0<=n/\n<len then(ai0 sz n.toNat cs).bind fun ds=>some {val:=.pp ds} else none
     |.sO (.pointer (some ⟨b,o,none⟩)),.int _ n=>if 0<=n/\n<len then some {val:=.sO (.pointer (some ⟨b,o+n.toNat*sz,none⟩))} else none
     |_,_=>none
    |none=>none
 | .index t x i=>match oR P t,J.ev x,J.ev i with
   |true,.str s,.int _ n=>if 0<=n then match s[n.toNat]? with
    |some b=>some {val:=.int .u8 b.toNat}
    |none=>none else none
   |_,_,_=>none
 | .slice t x lo hi mx=>match lv P t with
   |some (_,sz,_)=>if mx.isSome&&hi.isNone then none else aeL J sz (J.ev x) lo hi mx
   |none=>match oR P t,J.ev x,mx with
    |true,.str s,none=>match Ca J 0 lo,Ca J s.size hi with
     |some l,some h=>if 0<=l/\l<=h/\h<=s.size then some {val:=.str (s.extract l.toNat h.toNat)} else none
     |_,_=>none
    |_,_,_=>none
 | .nilCheck x=>match J.ev x with
   |.ptr l off=>some {val:=.ptr l off}
   |.pp cs=>some {val:=.pp cs}
   |.func (.func f) fs cs=>some {val:=.func (.func f) fs cs}
   |_=>none
 | .convert s d x=>match J.ev x with
   |.str v=>if oR P s&&oR P d then some {val:=.str v} else none
   | .int _ n=>match aiZ P s,aiZ P d with
     |some _,some k=>some {val:=.int k (k.wrap n)}
     |some _,none=>if oR P d then some {val:=.str (Utf8.encode n)} else none
     |_,_=>none
   | .kW _ _ [[.int k n]]=>match lv P s with
     |some (e,sz,_)=>if sz=1/\k=.u8/\aiZ P e=some .u8/\oR P d=true then some {val:=.str ⟨[UInt8.ofNat n.toNat].toArray⟩} else none
     |none=>none
   |_=>none
 |.makeInterface t x=>if mr P t then some {val:=.iface t (J.ev x)} else none
 | .makeSlice t x y=>match lv P t,J.ev x,J.ev y with
   |some (e,sz,bytes),.int .i64 n,.int .i64 m=>match lI P e with
    |some z=>if z.length=sz/\0<sz/\0<=n/\n=m then
      some {val:=.lN J.heap.length n.toNat,nw:=[.lN false sz (an n.toNat z)],pre:=room n.toNat bytes/\n<2 ^ 62} else none
    |none=>none
   |_,_,_=>none
 |.call {callee:=.builtin b,args,argTypes}=>MV P J b args.toList argTypes.toList (args.toList.map J.ev)
 | .extract x i=>match J.ev x with
   | .Ip vs=>match vs[i]? with
     |some v=>some {val:=v}
     |none=>none
   |_=>none
 |.makeFunc fn f c=>some {val:=.func fn (f.toList.map J.ev) (c.toList.map J.ev)}
 | .range t x=>match oR P t,J.ev x with
   |true,.str s=>some {val:=.ptr J.heap.length 0,nw:=[.iter s 0]}
   |_,_=>none
 | .next x true=>match J.ev x with
   |.ptr l 0=>aci l J.heap[l]?
   |_=>none
 |.makeMap _ none=>some {val:=.map J.heap.length,nw:=[.map []]}
 | .lookup t x k false=>match aam P t,J.ev x,J.ev k with
   |some z,.map l,.str s=>ach z l s J.heap[l]?
   |_,_,_=>none
 | .lookup t x k true=>match aam P t,J.ev x,J.ev k with
   |some z,.map l,.str s=>af6 z l s J.heap[l]?
   |_,_,_=>none
 |.typeAssert x _ t true=>anu P t (J.ev x)
 | .mapUpdate t x k y=>match aam P t,J.ev x,J.ev k with
   |some _,.map l,.str s=>CH l s (J.ev y) J.heap[l]?
   |_,_,_=>none
 | .insert t x k y=>match aam P t,J.ev x,J.ev k with
   |some _,.map l,.str s=>CH l s (J.ev y) J.heap[l]?
   |_,_,_=>none
 |_=>none
section sound
variable {a:Act}
def Ag(C:qu)(J:jJ)(a:Act)(w:aJX)(dst:Option Tmp)(r:Result Next)(e:vW):Prop:=
 ∃n v w' U',r=.ok n w'/\(n=.value v\/(n=.skip/\v=undef))/\mM C U' (J.app dst e) (a.put dst v) w'
def MX(h:l4 C.P t=some (g,n)):(isAgg t).run C.P w=.ok g w/\(sizeOf t).run C.P w=.ok n w:=by
 unfold l4 at h;cases hi:C.P.info? t with
 |none=>simp [hi]at h
 |some i=>
  simp only[hi]at h;cases hu:C.P.underlying t with
  |none=>simp [hu]at h
  |some d=>
   simp only[hu]at h;constructor
   ·cases d<;>simp_all [isAgg,run_underlying hu]
   ·simp only[sizeOf,typeInfo];cases d<;>simp_all
def ai2{c:AV}(h:c.qM=true)(r:pg E c v):v.oneCell'=true:=by
 cases c with
 |any|agg _|Ip _|sn _ _=>simp [AV.qM]at h
 |bool b|int k n|str s=>simp only[pg]at r;subst r;rfl
 |sO u=>simp only[pg]at r;subst r;exact h
 |kW t sz rows=>obtain⟨_,_,rfl,_⟩:=r;rfl
 |lN l n=>obtain⟨_,⟨_,_,_,rfl⟩,_⟩:=r;rfl
 |own l i n o sz=>obtain⟨_,⟨_,rfl⟩,_⟩:=r;rfl
 |ptr l off=>obtain⟨_,_,_,rfl⟩:=r;rfl
 |map l=>
  obtain⟨_,rfl,_,h2⟩:=r;revert h2;generalize E.U l=h;intro h2;unfold hdl at h2;split at h2<;>first|rfl|cases h2
 |pp cs=>obtain⟨_,_,rfl,_⟩:=r;rfl
 |func fn f c=>obtain⟨_,_,rfl,_⟩:=r;rfl
 |iface t x=>obtain⟨_,rfl,_⟩:=r;rfl
def ahg{E:Dw}:∀{cs:List AV}{vs:List aJW},cs.all AV.qM=true->ko E cs vs->∀v∈vs,v.oneCell'=true
 |[],_,_,rfl=>by simp
 |c::cs,_,h,⟨u,us,rfl,r1,r2⟩=>by
  simp only[List.all_cons,aS]at h;intro v hv;simp only[aT]at hv;rcases hv with rfl|hv
  ·exact ai2 h.1 r1
  ·exact ahg h.2 r2 v hv
end sound
section sound
variable {a:Act}
def ao3(E:Dw)(b off:Nat)(cs:List AV):Prop:=∃us:List aJW,ko E cs us/\∀j u,us[j]? =some u->E.w.cell? ⟨b,off+j,none⟩=some u
def OV{E:Dw}{b:Nat}:∀{cs:List AV}{off:Nat},oz E b off cs->ao3 E b off cs
 |[],_,_=>⟨[],rfl,by simp⟩
 |c::cs,off,⟨⟨_,u,hu,_,r⟩,r2⟩=>by
  obtain⟨us,rl,h⟩:=OV r2;refine⟨u::us,⟨u,us,rfl,r,rl⟩,fun j v hj=>?_⟩
  grind
def ai3{fr:Nat×Nat}(hh:E.w.heap[b]? =some (.cells c t fr))(r:ko E cs c.toList)(off:Nat):
 ao3 E b off (cs.drop off):=
 ⟨c.toList.drop off,r.drop off,fun j u hj=>by
   grind [World.cell?]⟩
theorem Aa(b off j:Nat):(⟨b,off,none⟩:Addr).add j=⟨b,off+j,none⟩:=by
 unfold Addr.add;split<;>simp_all
theorem ak2{a:Addr}{m:Mode}(h:w.cell? a=some u):(load a m).run P w=.ok u w:=by rw[run_load,h]
def Xp(hm:ao3 E b off cs)(ha:(isAgg t).run P E.w= .ok g E.w)(hs:(sizeOf t).run P E.w= .ok n E.w)(hl:mN g n cs=some x):
 ∃v,(loadVar t ⟨b,off,none⟩).run P E.w=.ok v E.w/\pg E x v:=by
 obtain⟨us,rl,h⟩:=hm;unfold mN at hl;cases g with
 |true=>
  simp only at hl;split at hl
  ·rename_i hn;cases hl;have hlen:=rl.length;refine⟨.agg (us.take n).toArray,?_,(us.take n).toArray,rfl,by simpa using rl.take n⟩
   have:=run_loadCells_list (P:=P) E.w ⟨b,off,none⟩ (us.take n) (fun j v hj=>by
    grind [Aa])
   simp_all [loadVar]
  ·cases hl
 |false=>
  simp only at hl;split at hl
  ·rename_i c cs;cases hl;obtain⟨u,us',rfl,r1,_⟩:=rl;have:=h 0 u (by simp)
   grind [loadVar,aj,af,ak2]
  ·cases hl
def Is{xs:List AV}(h:cellsOf x=some xs)(r:pg E x v):ko E xs v.cells.toList/\∀u∈v.cells.toList,u.oneCell'=true:=by
 unfold cellsOf at h;split at h
 ·rename_i cs;split at h
  ·rename_i hs;cases h;obtain⟨vs,rfl,rl⟩:=r;exact⟨rl,ahg hs rl⟩
  ·cases h
 ·split at h
  ·rename_i hs;cases h;have h1:=ai2 hs r;have:v.cells= #[v]:=by cases v<;>first|rfl|(simp [Value.oneCell']at h1)
   rw[this];exact⟨⟨v,[],rfl,r,rfl⟩,by simpa using h1⟩
  ·cases h
def Xq(E:Dw):∀vs:List aJW,ko E (vs.map Kx) vs
 |[]=>rfl
 |v::vs=>⟨v,vs,rfl,amg E v,Xq E vs⟩
def af7(h:lI P t=some z):∃v,(zeroValue t).run P w=.ok v w/\(∀E,ko E z v.cells.toList)/\∀u∈v.cells.toList,u.oneCell'=true:=by
 unfold lI at h;cases hi:P.info? t with
 |none=>simp [hi]at h
 |some i=>
  simp only[hi]at h;cases hz:i.zero with
  |none=>simp [hz]at h
  |some v=>
   simp only[hz]at h;split at h
   ·rename_i h1;cases h;exact⟨v,by simp [zeroValue,typeInfo,hi,hz],fun E=>Xq E _,bq.1 h1⟩
   ·cases h
def ar6(h:lI P t=some z):∃v,(zeroValue t).run P w=.ok v w/\z=v.cells.toList.map Kx/\∀u∈v.cells.toList,u.oneCell'=true:=by
 unfold lI at h;cases hi:P.info? t with
 |none=>simp [hi]at h
 |some i=>
  simp only[hi]at h;cases hz:i.zero with
  |none=>simp [hz]at h
  |some v=>
   simp only[hz]at h;split at h
   ·rename_i h1;cases h;exact⟨v,by simp [zeroValue,typeInfo,hi,hz],rfl,bq.1 h1⟩
   ·cases h
def anv(h:Kx v=.kW true 0 []):v=.slice none 0 0:=by
 unfold Kx at h;split at h<;>first|rfl|cases h
def axw(E:Dw)(t:Nat){vs:List aJW}(h:z=vs.map Kx):ko E (zB t z) vs:=by
 have r0:ko E z vs:=by rw[h];exact Xq E vs
 unfold zB;cases aeI t with
 |false=>exact r0
 |true=>
  rw[jy];split
  ·obtain⟨v0,vs',rfl,h0,v1,aIV,rfl,_,h2⟩:=r0;simp only[bL,aA]at h;exact⟨v0,_,rfl,h0,v1,_,rfl,anv h.2.1.symm,h2⟩
  ·exact r0
def mM.write(S:mM C U J a w){cs':List AV}{c':Array aJW}(hl:J.heap[l]? =some (.cells cs))(hφ:U l=.pointer (some ⟨b,0,none⟩))
 (hh:w.heap[b]? =some (.cells c t (0,0))) (hr:ko (C.env U J.heap w) cs' c'.toList) (h1:∀u∈c'.toList,u.oneCell'=true):mM C U {J with heap:=J.heap.set l (.cells cs')} a (w.setRow b c'):=by
 have mR:l<J.heap.length:=(ak.1 hl).1
 have nA:∀(k:Nat)(x:jT),(J.heap.set l (.cells cs'))[k]? =some x->(k=l/\x=.cells cs')\/(k≠l/\J.heap[k]? =some x):=by
  grind
 have L0:∀b' o,F8 U (J.heap.set l (.cells cs')) b' o->F8 U J.heap b' o:=by
  rintro b' o ⟨k,x,hx,hm⟩;rcases nA k x hx with⟨rfl,rfl⟩|⟨_,hx⟩
  ·exact⟨k,_,hl,by rw[hφ]at hm ⊢;exact hm⟩
  ·exact⟨k,x,hx,hm⟩
 have hmb:∀o,F8 U J.heap b o:=fun o=>⟨l,_,hl,by rw[hφ];rfl⟩
 have le:(C.env U J.heap w).Le J.heap.length (C.env U (J.heap.set l (.cells cs')) (w.setRow b c')):=by
  refine qu.CG (by simp) (fun k hk=>⟨rfl,?_⟩) (fun b' o u hm hc=>?_)
  ·by_cases e:k=l
   ·subst e;rw[aP mR,hl];rfl
   grind
  grind [cell_setRow_other]
 have BM:sQ C U (J.heap.set l (.cells cs')) (w.setRow b c') J.df a.defers:=by
  refine S.defers.step le (fun b' _ hno=>?_) (fun k x b' hx hb=>?_)
  ·refine setRow_other w b b' c' (fun e=>?_);subst e;exact hno l _ hl (by rw[hφ];rfl)
  ·rcases nA k x hx with⟨rfl,rfl⟩|⟨sA,hx⟩
   ·exact .inl ⟨k,_,hl,by rw[hφ]at hb ⊢;exact hb⟩
   ·exact .inl ⟨k,x,hx,hb⟩
 refine {jV:=ko.mono le _ _ (ko.nb _ _ S.jV) S.jV,defers:=BM,nX:=?_,apart:=?_,tW:=?_,size:=by simpa using S.size,F9:=?_,nM:=?_,Ce:=?_,wS:=?_,rest:=S.rest,low:=⟨S.low.1,by simpa using S.low.2⟩,lR:=?_}
 ·intro k x hx;rcases nA k x hx with⟨rfl,rfl⟩|⟨sA,hx⟩
  ·exact⟨b,c',t,hφ,setRow_heap w b c c' t _ hh,ko.mono le _ _ (ko.nb _ _ hr) hr,h1⟩
  ·refine n8.mono (S.nX k x hx) le (fun b' qR=>?_);refine setRow_other w b b' c' (fun e=>?_);subst e;exact sA (S.apart k l x _ b' hx hl qR (by rw[hφ];rfl))
 ·intro k k' x x' b' hx Dt hb qR;rcases nA k x hx with⟨rfl,rfl⟩|⟨sA,Vr⟩<;>rcases nA k' x' Dt with⟨rfl,rfl⟩|⟨ak3,RC⟩
  ·rfl
  ·exact S.apart k k' _ x' b' hl RC (by rw[hφ]at hb ⊢;exact hb) qR
  ·exact S.apart k k' x _ b' Vr hl hb (by rw[hφ]at qR ⊢;exact qR)
  ·exact S.apart k k' x x' b' Vr RC hb qR
 ·intro k x b' o hx hb;rcases nA k x hx with⟨rfl,rfl⟩|⟨sA,hx⟩
  ·exact S.tW k _ b' o hl (by rw[hφ]at hb ⊢;exact hb)
  ·exact S.tW k x b' o hx hb
 ·intro b' o qR hm;by_cases e:b'=b
  ·subst e;exact absurd (S.Ce l _ b' o hl (by rw[hφ];rfl) qR) hm
  ·rw[cell_setRow_other w b c' _ e];exact S.F9 b' o qR hm
 ·intro b' qR hm;by_cases e:b'=b
  ·subst e;exact absurd (S.Ce l _ b' 0 hl (by rw[hφ];rfl) qR) (hm 0)
  ·rw[setRow_other w b b' c' e];exact S.nM b' qR hm
 ·intro k x b' o hx hm qR;rcases nA k x hx with⟨rfl,rfl⟩|⟨sA,hx⟩
  ·exact S.Ce k _ b' o hl (by rw[hφ]at hm ⊢;exact hm) qR
  ·exact S.Ce k x b' o hx hm qR
 ·intro x hx hm0;rw[<-S.wS x hx hm0];by_cases e:x.block=b
  ·simp only[World.frozen?];rw[e,setRow_heap w b c c' t _ hh,hh]
  grind [World.frozen?,setRow_other]
 ·intro k hk;have:=S.lR k hk;by_cases e:k=l
  ·subst e;rw[aP mR];rw[hl]at this;exact this
  grind
def ao4(S:mM C U J a w){ys:List AV}(ht:l4 C.P t=some (g,n))(hl:J.heap[l]? =some (.cells cs))
 (hr:ko (C.env U J.heap w) ys v.cells.toList) (h1:∀u∈v.cells.toList,u.oneCell'=true) (hn:ys.length=n) (aDu:off+n<=cs.length) {p:aJW}
 (hp:pg (C.env U J.heap w) (.ptr l off) p):
 ∃w',(bn t p v).run C.P w=.ok () w'/\mM C U {J with heap:=J.heap.set l (.cells (wm cs off ys))} a w':=by
 obtain⟨_,b,hφ,rfl⟩:=hp;simp only[qu.env]at hφ;obtain⟨b2,c,t2,hφ2,hh,rl,zf⟩:=S.nX l _ hl;have e:b2=b:=by grind
 subst e;simp only[qu.env]at hh;have hcl:c.size=cs.length:=by have:=rl.length;simpa using this
 have hvl:v.cells.size=n:=by have:=hr.length;simp at this;omega
 have Xg:=run_storeCells_at C.P b2 off t2 v.cells.toList 0 c w hh (by simp;omega) h1;refine⟨_,?_,S.write hl hφ hh (c':=(c.toList.take off++v.cells.toList++c.toList.drop (off+v.cells.toList.length)).toArray) ?_ ?_⟩
 ·have hs:=(MX (C:=C) (w:=w) ht).2
  grind [bn,aw,storeVar,aj,af]
 ·have e1:v.cells.toList.length=ys.length:=hr.length;rw[e1];exact((rl.take off).append hr).append (rl.drop _)
 grind
theorem aeM(off:Nat):∀(xs:List aJW)(k:Nat)(cs:Array aJW),off+k+xs.length<=cs.size->
 (((xs.zipIdx k).foldl (fun cs p=>cs.setIfInBounds (off+p.2) p.1) cs).toList=cs.toList.take (off+k)++xs++cs.toList.drop (off+k+xs.length))
 |[],k,cs,_=>by simp
 |x::xs,k,cs,h=>by
  simp only[List.zipIdx_cons,List.foldl_cons];rw[aeM off xs (k+1) _ (by simp at h ⊢;omega)];have e:=list_seg_step cs.toList (off+k) x xs (by simp at h ⊢;omega)
  simp_all [bM]
def ad6{E:Dw}(place:Nat->Option (Nat×Nat)): ∀(ps:List (Nat×AV))(qs:List (Nat×aJW))(cs:List AV)(vs:Array aJW)(out:List AV),
 ko E cs vs.toList->(∀u∈vs.toList,u.oneCell'=true)->qs.map (·.1)=ps.map (·.1)->ko E (ps.map (·.2)) (qs.map (·.2))->Xm place cs ps=some out->
 ∃us,Instr.fill place vs qs=some us/\ko E out us.toList/\∀u∈us.toList,u.oneCell'=true
 |[],[],cs,vs,out,r,h1,_,_,h=>by
  simp only[Xm]at h;cases h;exact⟨vs,rfl,r,h1⟩
 |[],_::_,_,_,_,_,_,h,_,_=>by simp at h
 |_::_,[],_,_,_,_,_,h,_,_=>by simp at h
 |(i,x)::ps,(j,v)::qs,cs,vs,out,r,h1,hi,hr,h=>by
  simp only[bL,aA]at hi;obtain⟨rfl,hi⟩:=hi;obtain⟨u,us,hus,r1,r2⟩:=hr;simp only[bL,aA]at hus;obtain⟨rfl,rfl⟩:=hus;simp only[Xm]at h;split at h
  ·rename_i off size xs hp hx;split at h
   ·rename_i hc;obtain⟨hrl,zf⟩:=Is hx r1;have hlen:=hrl.length;have hcl:=r.length;have hsz:v.cells.size=size:=by simp at hlen;omega
    have hsp:off+v.cells.size<=vs.size:=by simp at hcl;omega
    have hf:=aeM off v.cells.toList 0 vs (by simpa using hsp);simp only[br]at hf
    have aDv:(v.cells.zipIdx.foldl (fun cs (c,j)=>cs.setIfInBounds (off+j) c) vs).toList=vs.toList.take off++v.cells.toList++vs.toList.drop (off+v.cells.toList.length):=by
     rw[<-hf,<-Array.foldl_toList];simp
    obtain⟨us',axx,hr',ho'⟩:=ad6 place ps qs (wm cs off xs) (v.cells.zipIdx.foldl (fun cs (c,j)=>cs.setIfInBounds (off+j) c) vs) out (by
     rw[aDv,hlen];exact((r.take off).append hrl).append (r.drop _)) (by
     grind) hi r2 h
    grind [Instr.fill]
   ·cases h
  ·cases h
theorem ao5(S:mM C U J a w)(hb:q7 C.P t=true)(hz:lI C.P t=some z)
 (hf:Xm (kq C.P t) (zB t z) (parts.toList.map fun p=>(p.1,J.ev p.2))=some cs):
 ∃v,(Instr.build t (parts.map fun(i,x)=>(i,a.eval x))).run C.P w=.ok v w/\pg (C.env U J.heap w) (.agg cs) v:=by
 have Xr:∀ps:List (Nat×aJV),ko (C.env U J.heap w) ((ps.map fun p=>(p.1,J.ev p.2)).map (·.2)) ((ps.map fun p=>(p.1,a.eval p.2)).map (·.2)):=by
  intro ps;induction ps with
  |nil=>rfl
  |cons p ps ih=>exact⟨_,_,rfl,S.ev p.2,ih⟩
 unfold lI at hz;cases hi:C.P.info? t with
 |none=>simp [hi]at hz
 |some it=>
  simp only[hi]at hz;cases hz0:it.zero with
  |none=>simp [hz0]at hz
  |some zv=>
   simp only[hz0]at hz;split at hz
   case isFalse=>cases hz
   rename_i zf;cases hz;obtain⟨us,hus,hr,_⟩:=ad6 (kq C.P t) _ (parts.toList.map fun p=>(p.1,a.eval p.2)) _ zv.cells cs (axw (C.env U J.heap w) t rfl) (bq.1 zf) (by simp) (Xr _) hf;refine⟨.agg us,run_build w t _ us ?_,us,rfl,hr⟩;have ar7:(parts.map fun(i,x)=>(i,a.eval x)).toList=parts.toList.map fun p=>(p.1,a.eval p.2):=by simp
   rw[ar7];unfold q7 at hb;unfold Program.built;cases hu:C.P.underlying t with
   |none=>simp [Sb,hu]at hb
   |some d=>
    cases d<;>try (simp [Sb,hu]at hb;done)
    case array n e=>
     cases he:C.P.info? e with
     |none=>simp [Sb,hu,he]at hb
     |some ie=>
      have:kq C.P t=fun i=>some (i*ie.size,ie.size):=by grind [kq,Sb]
      grind
    case struct fs=>
     cases hp:fs.toList.mapM (fun f=>(C.P.info? f.type).map fun i=>(f.offset,i.size))with
     |none=>simp [Sb,hu,hp]at hb
     |some pl=>
      have:kq C.P t=fun i=>pl.toArray[i]? :=by grind [kq,Sb]
      grind
end sound
section sound
variable {a:Act}
def Kz {e:aJ0}{sz bytes:Nat}(h:lv P t=some (e,sz,bytes)):P.underlying t=some (.slice e)/\∃i,P.info? e=some i/\i.size=sz/\i.bytes=bytes:=by
 grind [lv]
theorem adq(z:List aJW):∀n,(List.range (n*z.length)).map (fun i=>z.toArray[i % z.length]!)=(an n z).flatten
 |0=>by simp
 |n+1=>by
  rw[az,bT,Nat.add_comm,List.range_add,List.map_append,List.map_map,bQ,aD,<-adq z n];congr 1
  ·apply List.ext_getElem?
   grind [Nat.mod_eq_of_lt]
  simp_all
theorem CJ{W:Type}{sz:Nat}:∀{rows:List (List W)},(∀r∈rows,r.length=sz)->rows.flatten.length=rows.length*sz
 |[],_=>by simp
 |r::rows,h=>by
  simp only[aD,List.length_append,aG,az,bT];rw[CJ (fun q hq=>h q (by simp [hq])),h r (by simp)];omega
theorem ahh{sz:Nat}:∀{rows:List (List AV)}{i:Nat}{xs:List AV},(∀r∈rows,r.length=sz)->i<rows.length->xs.length=sz->
 (rows.set i xs).flatten=wm rows.flatten (i*sz) xs
 |[],_,_,_,h,_=>by simp at h
 |r::rows,0,xs,hl,_,hx=>by
  grind [wm]
 |r::rows,i+1,xs,hl,hi,hx=>by
  have hr:=hl r (by simp);have ih:=ahh (rows:=rows) (i:=i) (xs:=xs) (fun q hq=>hl q (bJ _ hq)) (by simpa using hi) hx;simp only[List.set_cons_succ,aD,ih,wm];have e1:(i+1)*sz=r.length+i*sz:=by rw[az,hr];omega
  have e2:(i+1)*sz+xs.length=r.length+(i*sz+xs.length):=by omega
  rw[e2,e1,List.take_length_add_append,List.drop_length_add_append];simp
def ahj{sz:Nat}: ∀{ps:List (Nat×AV)}{rows out:List (List AV)},(∀r∈rows,r.length=sz)->Xn sz rows ps=some out->
 Xm (fun i=>some (i*sz,sz)) rows.flatten ps=some out.flatten/\out.length=rows.length/\∀r∈out,r.length=sz
 |[],rows,out,hl,h=>by
  simp only[Xn]at h;cases h;exact⟨rfl,rfl,hl⟩
 |(i,x)::ps,rows,out,hl,h=>by
  simp only[Xn]at h;split at h
  ·rename_i xs hx;split at h
   ·rename_i hc
    have Xf:∀r∈rows.set i xs,r.length=sz:=by
     grind
    obtain⟨h1,h2,h3⟩:=ahj Xf h;refine⟨?_,by simpa using h2,h3⟩;simp only[Xm,hx];have hfl:=CJ hl
    have:i*sz+sz<=rows.length*sz:=by
     have:(i+1)*sz<=rows.length*sz:=au _ hc.1;rw[az]at this;omega
    grind [ahh]
   ·cases h
  ·cases h
theorem DN{E:Dw}{z:List AV}{vs:List aJW}(r:ko E z vs):∀n,ko E (an n z).flatten (an n vs).flatten
 |0=>by simp [ko]
 |n+1=>by
  simp only[bQ,aD];exact r.append (DN r n)
theorem aeN(zv:aJW)(n sz:Nat)(hz:zv.cells.size=sz):
 ((bl (n*sz)).map (fun i=>(if n*sz=0 then(#[]:Array aJW)else zv.cells)[i % (if n*sz=0 then(#[]:Array aJW)else zv.cells).size]!)).toList=(an n zv.cells.toList).flatten:=by
 have:=adq zv.cells.toList n;simp only[bi,hz]at this;rw[<-this];by_cases h:n*sz=0
 ·simp [h]
 ·simp [h,hz]
def aan(S:mM C U J a w){e:aJ0}{len sz bytes:Nat}(ht:lv C.P t=some (e,sz,bytes))
 (hz:lI C.P e=some z) (hl:z.length=sz/\len*sz<=16777216) (hf:Xn sz (an len z) (parts.toList.map fun p=>(p.1,J.ev p.2))=some rows):
 ∃us:Array aJW,(aL t len (parts.map fun(i,x)=>(i,a.eval x))).run C.P w=.ok (.slice (some ⟨w.heap.size,0,none⟩) len len) (World.more w (.cells us e))/\
  ko (C.env U J.heap w) rows.flatten us.toList/\(∀u∈us.toList,u.oneCell'=true)/\rows.length=len/\(∀r∈rows,r.length=sz)/\us.toList.length=len*sz:=by
 obtain⟨hu,i,hi,rfl,rfl⟩:=Kz ht
 have Xr:∀ps:List (Nat×aJV),ko (C.env U J.heap w) ((ps.map fun p=>(p.1,J.ev p.2)).map (·.2)) ((ps.map fun p=>(p.1,a.eval p.2)).map (·.2)):=by
  intro ps;induction ps with
  |nil=>rfl
  |cons p ps ih=>exact⟨_,_,rfl,S.ev p.2,ih⟩
 obtain⟨zv,hzr,axy,aFr⟩:=af7 (w:=w) hz;have hzl:zv.cells.size=i.size:=by have:=(axy (C.env U J.heap w)).length;simp at this;omega
 have hrl:∀r∈an len z,r.length=i.size:=by
  grind
 obtain⟨h1,h2,h3⟩:=ahj hrl hf
 have aao:ko (C.env U J.heap w) (an len z).flatten ((bl (len*i.size)).map (fun j=>(if len*i.size=0 then(#[]:Array aJW)else zv.cells)[j % (if len*i.size=0 then(#[]:Array aJW)else zv.cells).size]!)).toList:=by
  grind [aeN,DN]
 obtain⟨us,hus,hr,zf⟩:=ad6 (fun j=>some (j*i.size,i.size)) _ (parts.toList.map fun p=>(p.1,a.eval p.2)) _ _ rows.flatten aao (by
  grind [aeN,List.mem_flatten]) (by simp) (Xr _) h1
 have hlen:rows.length=len:=by simpa using h2
 have axx:us.toList.length=len*i.size:=by
  rw[hr.length,CJ h3,hlen]
 refine⟨us,?_,hr,zf,hlen,h3,axx⟩;have ar7:(parts.map fun(i,x)=>(i,a.eval x)).toList=parts.toList.map fun p=>(p.1,a.eval p.2):=by simp
 have hsz:(sizeOf e).run C.P w=.ok i.size w:=by simp [sizeOf,typeInfo,hi]
 by_cases h0:len*i.size=0
 ·simp only[h0,jE]at hus;simp only[aL,aj,run_underlying hu,af,hsz,h0,jE,ar7];simp only[bz,if_false,gt_iff_lt];simp only[hus,newRow,aj,run_newObj,af,aq];rfl
 ·simp only[h0,if_false]at hus;have hle: ¬ (len*i.size>2 ^ 24):=by omega
  simp only[aL,aj,run_underlying hu,af,hsz,h0,if_false,aq,ar7,hle,hzr];simp only[hus,newRow,aj,run_newObj,af,aq];rfl
def af8(S:mM C U J a w){e:aJ0}{len sz bytes:Nat}(ht:lv C.P t=some (e,sz,bytes))
 (hz:lI C.P e=some z) (hl:z.length=sz/\len*sz<=16777216) (hf:Xn sz (an len z) (parts.toList.map fun p=>(p.1,J.ev p.2))=some rows):
 ∃v c,(aL t len (parts.map fun(i,x)=>(i,a.eval x))).run C.P w=.ok v (World.more w (.cells c e))/\
  pg (C.env U J.heap (World.more w (.cells c e))) (.kW true sz rows) v:=by
 obtain⟨us,uz,hr,zf,hlen,h3,axx⟩:=aan S ht hz hl hf;refine⟨.slice (some ⟨w.heap.size,0,none⟩) len len,us,uz,some ⟨w.heap.size,0,none⟩,len,by rw[hlen],by omega,fun _=>hlen.symm,by simp,by simp,?_⟩
 grind [ahe]
end sound
section sound
variable {a:Act}
def OW {u e:aJ0}{sLen sCap:Nat}{x:aJW}(hu:P.underlying t=some (.slice e))(hi:P.info? e=some i)
 (hd:P.underlying u=some d) (hni:∀k,d≠ .int k) (hlen:(bN x).run P w=.ok n w) (ak4:(ap i.size n x).run P w=.ok us w) (af9:sLen+n<=sCap):
 (am #[t,u] ty #[.slice base sLen sCap,x]).run P w=
   (match base with|some a=>(storeCells (a.add (sLen*i.size)) us.toList).run P w|none=>.ok () w).andThen fun _ w'=>.ok (.slice base (sLen+n) sCap) w':=by
 have hsz:(sizeOf e).run P w=.ok i.size w:=by simp [sizeOf,typeInfo,hi]
 cases d<;>try (exact absurd rfl (hni _))
 all_goals
  simp only[am,bF,aN,bw,aj,run_underlying hu,run_underlying hd,af,hsz,hlen,af9,jE,aq,aH,if_false,bG,ak4];cases base with
  |none=>rfl
  |some b=>simp only[aj,aq]
theorem amo(axz:Nat):∀(r c:Nat),256<=c->bH axz r c<=2 ^ r*c
 |0,c,_=>by simp [bH]
 |r+1,c,h=>by
  unfold bH;split
  ·have:1<=2 ^ (r+1):=Nat.one_le_two_pow
   calc c=1*c:=by omega
    _<=_:=au _ this
  ·have h1:=amo axz r (c+(c+768) / 4) (by omega);have h2:c+(c+768) / 4<=2*c:=by omega
   calc _<=2 ^ r*(c+(c+768) / 4):=h1
    _<=2 ^ r*(2*c):=Nat.mul_le_mul_left _ h2
    _=2 ^ (r+1)*c:=by grind
def ar8{lr cap:Nat}(h:cap<lr):bb lr cap<=16*lr:=by
 grind [bb,amo]
def Vt {u e:aJ0}{sLen sCap:Nat}{x zv:aJW}{F9:Array aJW}(hu:P.underlying t=some (.slice e))(hi:P.info? e=some i)
 (hd:P.underlying u=some d) (hni:∀k,d≠ .int k) (hlen:(bN x).run P w=.ok n w) (ak4:∀k,(ap i.size n x).run P {w with drawn:=k}=.ok us {w with drawn:=k})
 (hold:∀k,(ap i.size sLen (.slice base sLen sCap)).run P {w with drawn:=k}=.ok F9 {w with drawn:=k}) (hz:i.zero=some zv)
 (aHE:sCap<sLen+n) (NS:(sLen+n)*i.bytes<=2 ^ 44) (hb:0<i.bytes):
 ∃cap,sLen+n<=cap/\(am #[t,u] ty #[.slice base sLen sCap,x]).run P w=
  .ok (.slice (some ⟨w.heap.size,0,none⟩) (sLen+n) cap) (World.more {w with drawn:=w.drawn+1} (.cells (F9++us++bp zv.cells (cap-(sLen+n))) e)):=by
 have hsz:∀w:aJX,(sizeOf e).run P w=.ok i.size w:=fun w=>by simp [sizeOf,typeInfo,hi]
 have hti:∀w:aJX,(typeInfo e).run P w=.ok i w:=fun w=>by simp [typeInfo,hi]
 have hzv:∀w:aJX,(zeroValue e).run P w=.ok zv w:=fun w=>by simp [zeroValue,typeInfo,hi,hz]
 have aIM:sLen+n<=2 ^ 44:=bc (Nat.le_mul_of_pos_right _ hb) NS
 have CK: ¬ (bb (sLen+n) sCap*i.bytes>2 ^ 48):=by
  have h1:=au i.bytes (ar8 aHE);rw[Nat.mul_assoc]at h1;omega
 have hb0:i.bytes≠0:=by omega
 have af9: ¬ (sLen+n<=sCap):=by omega
 refine⟨(sLen+n)+w.tape w.drawn (.appendCap (sLen+n) sCap e) % (2 ^ 63-(sLen+n)),by omega,?_⟩;cases d<;>try (exact absurd rfl (hni _))
 all_goals
  simp only[am,bF,aN,bw,aj,run_underlying hu,run_underlying hd,af,hsz,hlen,af9,if_false,aq,hti,aH,hb0,or_self,and_false,CK,run_choose,Question.forced,Question.cut,run_askRoom,hold,ak4,hzv,bG,jE,newRow,run_newObj];rfl
def mM.ar9(S:mM C U J a w){sz:Nat}{tN:Bool}(hl:J.heap[l]? =some (.lN tN sz rows))(hys:0<ys.length\/h'=U l)
 (Vu:w.heap.size<=w'.heap.size)
 (tO:∀b o,b<w.heap.size-> ¬ (jT.lN tN sz rows).AT (U l) b o->w'.cell? ⟨b,o,none⟩=w.cell? ⟨b,o,none⟩)
 (Iq:∀b,b<w.heap.size-> ¬ (jT.lN tN sz rows).block (U l) b->w'.heap[b]? =w.heap[b]?)
 (axA:∀x,w'.frozen? x=w.frozen? x) (uh:w'.output=w.output/\w'.os=w.os)
 (Fi:∀b,(jT.lN tN sz (rows++ys)).block h' b->(jT.lN tN sz rows).block (U l) b\/w.heap.size<=b)
 (ahk:∀b o,(jT.lN tN sz (rows++ys)).AT h' b o->(jT.lN tN sz rows).AT (U l) b o\/w.heap.size<=b)
 (OX:∀E',(C.env U J.heap w).Le J.heap.length E'->E'.w=w'->n8 E' (.lN tN sz (rows++ys)) h') (hty:tyk w w':=by first|exact fun _ c _ fz h=>⟨c,fz,h⟩|exact aiX rfl|exact aiD _ _ _|exact aiW (by assumption)|assumption):
 mM C (fun k=>if k=l then h' else U k) {J with heap:=J.heap.set l (.lN tN sz (rows++ys))} a w':=by
 have mR:l<J.heap.length:=(ak.1 hl).1
 let U':Nat->aJW:=fun k=>if k=l then h' else U k
 have hφl:U' l=h':=by simp [U']
 have hφk:∀k,k≠l->U' k=U k:=fun k hk=>by simp [U',hk]
 have nA:∀(k:Nat)(x:jT),(J.heap.set l (.lN tN sz (rows++ys)))[k]? =some x->(k=l/\x=.lN tN sz (rows++ys))\/(k≠l/\J.heap[k]? =some x):=by
  grind
 have aHF:∀a,U l≠ .pointer a:=by
  obtain⟨base,cap,hh,_⟩:=S.nX l _ hl;intro a;rw[hh];simp
 have aFs:hdl (U l)=none:=by
  obtain⟨base,cap,hh,_⟩:=S.nX l _ hl;rw[hh];rfl
 have L0:∀b o,F8 U' (J.heap.set l (.lN tN sz (rows++ys))) b o->F8 U J.heap b o\/w.heap.size<=b:=by
  rintro b o ⟨k,x,hx,hm⟩;rcases nA k x hx with⟨rfl,rfl⟩|⟨sA,hx⟩
  ·rw[hφl]at hm;exact(ahk b o hm).imp (fun h=>⟨k,_,hl,h⟩) id
  ·rw[hφk k sA]at hm;exact .inl ⟨k,x,hx,hm⟩
 have le:(C.env U J.heap w).Le J.heap.length (C.env U' (J.heap.set l (.lN tN sz (rows++ys))) w'):=by
  refine⟨by simp [qu.env],fun k hk=>?_,fun b o u hm hc=>?_,hty⟩
  ·grind [qu.env,lZ]
  ·have hb:=FI hc;simp only[qu.env]at hb hm ⊢;refine⟨fun h=>?_,?_⟩
   ·grind
   ·rw[tO b o hb (fun h=>hm (.inl ⟨l,_,hl,h⟩))];exact hc
 have BM:sQ C U' (J.heap.set l (.lN tN sz (rows++ys))) w' J.df a.defers:=by
  refine S.defers.step le (fun b hb hno=>Iq b hb (hno l _ hl)) (fun k x b hx hb=>?_)
  grind
 refine {jV:=ko.mono le _ _ (ko.nb _ _ S.jV) S.jV,defers:=BM,nX:=?_,apart:=?_,tW:=?_,size:=bc S.size Vu,F9:=?_,nM:=?_,Ce:=?_,wS:=fun x hx=>by rw[axA];exact S.wS x hx,rest:=⟨by rw[uh.1];exact S.rest.1,by rw[uh.2];exact S.rest.2⟩,low:=⟨S.low.1,by simpa using S.low.2⟩,lR:=?_}
 ·intro k x hx;rcases nA k x hx with⟨rfl,rfl⟩|⟨sA,hx⟩
  ·have:=OX _ le rfl;simpa using this
  ·have r0:=S.nX k x hx
   have:n8 (C.env U' (J.heap.set l (.lN tN sz (rows++ys))) w') x (U k):=by
    refine n8.mono r0 le (fun b hb=>Iq b (r0.qH hb) (fun h=>?_));exact sA (S.apart k l x _ b hx hl hb h)
   simpa [sA] using this
 ·intro k k' x x' b hx Dt hb qR;rcases nA k x hx with⟨rfl,rfl⟩|⟨sA,Vr⟩<;>rcases nA k' x' Dt with⟨rfl,rfl⟩|⟨ak3,RC⟩
  ·rfl
  ·simp only[jE]at hb;simp only[ak3,if_false]at qR;rcases Fi b hb with h|h
   ·exact S.apart k k' _ x' b hl RC h qR
   ·have:=(S.nX k' x' RC).qH qR;simp only[qu.env]at this;omega
  ·simp only[jE]at qR;simp only[sA,if_false]at hb;rcases Fi b qR with h|h
   ·exact S.apart k k' x _ b Vr hl hb h
   ·have:=(S.nX k x Vr).qH hb;simp only[qu.env]at this;omega
  ·simp only[sA,ak3,if_false]at hb qR;exact S.apart k k' x x' b Vr RC hb qR
 ·intro k x b o hx hb;rcases nA k x hx with⟨rfl,rfl⟩|⟨sA,Vr⟩
  ·simp only[jE]at hb;rcases Fi b hb with h|h
   ·exact S.tW k _ b o hl h
   ·intro hA;have:=C.hA _ _ hA;have:=S.size;omega
  ·simp only[sA,if_false]at hb;exact S.tW k x b o Vr hb
 ·intro b o hb hm;rw[tO b o (aa hb S.size) (fun h=>hm (S.Ce l _ b o hl h hb))];exact S.F9 b o hb hm
 ·intro b hb hm;rw[Iq b (aa hb S.size) (fun h=>?_)]
  ·exact S.nM b hb hm
  ·obtain⟨base,cap,hh,_⟩:=S.nX l _ hl;rw[hh]at h;cases base with
   |none=>simp [jT.block]at h
   |some a0=>
    simp only[jT.block]at h;exact hm (a0.off+rows.length*sz) (S.Ce l _ b _ hl (by rw[hh];exact⟨h,fun _=>av _⟩) hb)
 ·intro k x b o hx hm hb;rcases nA k x hx with⟨rfl,rfl⟩|⟨sA,Vr⟩
  ·simp only[jE]at hm;rcases ahk b o hm with h|h
   ·exact S.Ce k _ b o hl h hb
   ·have:=S.size;omega
  ·simp only[sA,if_false]at hm;exact S.Ce k x b o Vr hm hb
 ·intro k hk;have:=S.lR k hk
  grind [lZ]
def mM.Xs(S:mM C U J a w){tN:Bool}{sz:Nat}
 (Vu:w.heap.size<=w'.heap.size) (Iq:∀b,b<w.heap.size->w'.heap[b]? =w.heap[b]?)
 (axA:∀x,w'.frozen? x=w.frozen? x) (uh:w'.output=w.output/\w'.os=w.os)
 (Fi:∀b,(jT.lN tN sz rows).block h' b->w.heap.size<=b)
 (OX:∀E',(C.env U J.heap w).Le J.heap.length E'->E'.w=w'->n8 E' (.lN tN sz rows) h'):
 mM C (fun k=>if k=J.heap.length then h' else U k) {J with heap:=J.heap++[.lN tN sz rows]} a w':=by
 let U':Nat->aJW:=fun k=>if k=J.heap.length then h' else U k
 have hφ:∀l,l<J.heap.length->U' l=U l:=fun l hl=>by grind
 have nA:∀(l:Nat)(x:jT),(J.heap++[.lN tN sz rows])[l]? =some x->(l<J.heap.length/\J.heap[l]? =some x)\/(l=J.heap.length/\x=.lN tN sz rows):=by
  grind
 have tO:∀b o,b<w.heap.size->w'.cell? ⟨b,o,none⟩=w.cell? ⟨b,o,none⟩:=by
  grind [World.cell?]
 have L0:∀b o,F8 U' (J.heap++[.lN tN sz rows]) b o->w.heap.size<=b\/F8 U J.heap b o:=by
  rintro b o ⟨l,x,hx,hm⟩;rcases nA l x hx with⟨hl,hx⟩|⟨rfl,rfl⟩
  ·rw[hφ l hl]at hm;exact .inr ⟨l,x,hx,hm⟩
  ·simp only[U',jE]at hm;exact .inl (Fi b (jT.nV hm))
 have le:(C.env U J.heap w).Le J.heap.length (C.env U' (J.heap++[.lN tN sz rows]) w'):=by
  refine qu.CG (by simp) (fun l hl=>⟨hφ l hl,by rw[ax hl]⟩) (fun b i u hm hc=>?_)
  grind [FI]
 have BM:sQ C U' (J.heap++[.lN tN sz rows]) w' J.df a.defers:=by
  refine S.defers.step le (fun b hb _=>Iq b hb) (fun l x b hx hb=>?_)
  grind
 refine {jV:=ko.mono le _ _ (ko.nb _ _ S.jV) S.jV,defers:=BM,nX:=?_,apart:=?_,tW:=?_,size:=bc S.size Vu,F9:=?_,nM:=?_,Ce:=?_,wS:=fun x hx=>by rw[axA];exact S.wS x hx,rest:=⟨by rw[uh.1];exact S.rest.1,by rw[uh.2];exact S.rest.2⟩,low:=⟨S.low.1,by have:=S.low.2;simp;omega⟩,lR:=?_}
 ·intro l x hx;rcases nA l x hx with⟨hl,hx⟩|⟨rfl,rfl⟩
  ·have r0:=S.nX l x hx;have:n8 (C.env U' (J.heap++[.lN tN sz rows]) w') x (U l):=n8.mono r0 le (fun b hb=>Iq b (r0.qH hb))
   grind
  ·have:=OX _ le rfl;simpa using this
 ·intro l l' x x' b hx Dt hb qR;rcases nA l x hx with⟨hl,Vr⟩|⟨rfl,rfl⟩<;>rcases nA l' x' Dt with⟨Xf,RC⟩|⟨rfl,rfl⟩
  ·rw[show(if l=J.heap.length then _ else U l)=U l from hφ l hl]at hb;rw[show(if l'=J.heap.length then _ else U l')=U l' from hφ l' Xf]at qR;exact S.apart l l' x x' b Vr RC hb qR
  ·rw[show(if l=J.heap.length then _ else U l)=U l from hφ l hl]at hb;have:=(S.nX l x Vr).qH hb
   grind [qu.env]
  ·rw[show(if l'=J.heap.length then _ else U l')=U l' from hφ l' Xf]at qR;have:=(S.nX l' x' RC).qH qR
   grind [qu.env]
  ·rfl
 ·intro l x b o hx hb;rcases nA l x hx with⟨hl,Vr⟩|⟨rfl,rfl⟩
  ·rw[show(if l=J.heap.length then _ else U l)=U l from hφ l hl]at hb;exact S.tW l x b o Vr hb
  ·simp only[jE]at hb;intro hA;have:=C.hA _ _ hA;have:=Fi b hb;have:=S.size;omega
 ·intro b i hb hm;rw[tO b i (aa hb S.size)];exact S.F9 b i hb hm
 ·intro b hb hm;rw[Iq b (aa hb S.size)];exact S.nM b hb hm
 ·intro l x b o hx hm hb;rcases nA l x hx with⟨hl,Vr⟩|⟨rfl,rfl⟩
  ·rw[show(if l=J.heap.length then _ else U l)=U l from hφ l hl]at hm;exact S.Ce l x b o Vr hm hb
  ·simp only[jE]at hm;have:=Fi b (jT.nV hm);have:=S.size;omega
 ·intro l hl;have mR:l<J.heap.length:=by have:=S.low;omega
  have:=S.lR l hl
  grind
end sound
section sound
variable {a:Act}
def aap{E:Dw}{sz b:Nat}:∀{rows:List (List AV)}{off:Nat},nS E sz b off rows->oz E b off rows.flatten/\∀r∈rows,r.length=sz
 |[],_,_=>⟨trivial,by simp⟩
 |r::rows,off,⟨h1,h2,h3⟩=>by
  obtain⟨m,hl⟩:=aap h3
  grind [oz.append]
def adr{E:Dw}{b:Nat}:∀{cs:List AV}{off:Nat}{us:List aJW},oz E b off cs->ko E cs us->(∀j u,us[j]? =some u->E.w.cell? ⟨b,off+j,none⟩=some u)->∀u∈us,u.oneCell'=true
 |[],_,_,_,rfl,_=>by simp
 |c::cs,off,_,⟨⟨_,u,hu,h1,_⟩,r2⟩,⟨u',us,rfl,_,rl⟩,hc=>by
  intro v hv;simp only[aT]at hv;rcases hv with rfl|hv
  ·have:=hc 0 v (by simp)
   grind
  ·exact adr r2 rl (fun j w hj=>by rw[<-hc (j+1) w (by simpa using hj)];congr 2;omega) v hv
def axB(P:aJZ)(E:Dw)(sz:Nat)(rows:List (List AV))(v:aJW):Prop:=
 ∃us:List aJW,ko E rows.flatten us/\us.length=rows.length*sz/\(∀r∈rows,r.length=sz)/\(∀u∈us,u.oneCell'=true)/\
  ∀k,(ap sz rows.length v).run P {E.w with drawn:=k}=.ok us.toArray {E.w with drawn:=k}
def amq{sz Ph:Nat}{t:Bool}(h:Ph=sz\/rows.length=0)(r:pg E (.kW t Ph rows) v):axB P E sz rows v:=by
 obtain⟨base,cap,rfl,h2,h3,h4,h5,h6⟩:=r;cases base with
 |none=>
  have h0:rows.length=0:=by have:=h4 rfl;omega
  have:rows=[]:=ah h0;subst this;exact⟨[],rfl,by simp,by simp,by simp,fun k=>by simp [ap]⟩
 |some a=>
  by_cases hr:rows=[]
  ·subst hr;exact⟨[],rfl,by simp,by simp,by simp,fun k=>by simp [ap,loadCells,loadCellsFrom]⟩
  ·have hsz:Ph=sz:=by
    grind
   subst hsz;obtain⟨m,hl⟩:=aap (h6 a rfl);obtain⟨us,rl,hc⟩:=OV m;have zf:=adr m rl hc;have hlen:us.length=rows.length*Ph:=by rw[rl.length,CJ hl]
   refine⟨us,rl,hlen,hl,zf,fun k=>?_⟩;have hsp:=h5 a rfl hr;have ha:a=⟨a.block,a.off,none⟩:=by cases a;simp_all
   have:=run_loadCells_list (P:=P) {E.w with drawn:=k} a us (fun j v hj=>by
    rw[ha,Aa];exact hc j v hj)
   grind [ap]
def amr(S:mM C U J a w){sz:Nat}{tN:Bool}(hl:J.heap[l]? =some (.lN tN sz rows)):axB P (C.env U J.heap w) sz rows (U l):=by
 obtain⟨base,cap,hh,h2,h3,h4,h5⟩:=S.nX l _ hl;rw[hh];cases base with
 |none=>
  have h0:rows.length=0:=by have:=h3 rfl;omega
  have:rows=[]:=ah h0;subst this;exact⟨[],rfl,by simp,by simp,by simp,fun k=>by simp [ap]⟩
 |some b=>
  by_cases CK:cap=0
  ·have h0:rows.length=0:=by omega
   have:rows=[]:=ah h0;subst this;exact⟨[],rfl,by simp,by simp,by simp,fun k=>by simp [ap,loadCells,loadCellsFrom]⟩
  ·obtain⟨hsp,c,t,hc,hsz,rl,zf⟩:=h5 b rfl CK;have hle:rows.length*sz<=cap*sz:=au _ h2
   have hlen:((c.toList.drop b.off).take (rows.length*sz)).length=rows.length*sz:=by
    grind
   refine⟨_,rl,hlen,h4,zf,fun k=>?_⟩;have ha:b=⟨b.block,b.off,none⟩:=by cases b;simp_all
   grind [run_loadCells_list,Aa,World.cell?,ap]
def ND(_S:mM C U J a w){sz:Nat}{tN:Bool}(hl:J.heap[l]? =some (.lN tN sz rows))(hn:rows.length=n)
 (r:pg (C.env U J.heap w) (.lN l n) v):v=U l:=by
 obtain⟨_,_,h⟩:=r
 grind [qu.env,lZ]
def aaq (S:mM C U J a w){sz:Nat} (hl:J.heap[l]? =some (.lN true sz rows)):pg (C.env U J.heap w) (.kW false sz rows) (U l):=by
 obtain⟨base,cap,hh,h2,h3,h4,h5⟩:=S.nX l _ hl;refine⟨base,cap,hh,h2,(by intro h;cases h),h3,?_,?_⟩
 ·intro b hb sA;have hc:cap≠0:=fun h0=>sA (ah (by omega))
  exact(h5 b hb hc).1
 ·intro b hb;by_cases hc:cap=0
  ·have:rows=[]:=ah (by omega);subst this;trivial
  ·obtain⟨hsp,c,t,hcb,hsz,rl,zf⟩:=h5 b hb hc;subst hb;have hle:rows.length*sz<=cap*sz:=au _ h2
   have hnm:∀o,o<b.off+rows.length*sz-> ¬ (F8 U J.heap b.block o\/C.A b.block o):=by
    intro o ho hmu;have hbl:(jT.lN true sz rows).block (U l) b.block:=by rw[hh];exact⟨rfl,hc⟩
    rcases hmu with⟨l',x,hx,hm⟩|hA
    ·have e:=S.apart l' l x _ b.block hx hl (jT.nV hm) hbl;subst e;rw[hl]at hx;cases hx;rw[hh]at hm;have:=hm.2 rfl;omega
    ·exact S.tW l _ b.block o hl hbl hA
   have key: ∀ (rs:List (List AV)) (off:Nat),(∀r∈rs,r.length=sz)->off+rs.length*sz<=b.off+rows.length*sz->
    ko (C.env U J.heap w) rs.flatten ((c.toList.drop off).take (rs.length*sz))->(∀u∈(c.toList.drop off).take (rs.length*sz),u.oneCell'=true)->nS (C.env U J.heap w) sz b.block off rs:=by
    have mem:∀(cs:List AV)(off:Nat),off+cs.length<=b.off+rows.length*sz->ko (C.env U J.heap w) cs ((c.toList.drop off).take cs.length)->(∀u∈(c.toList.drop off).take cs.length,u.oneCell'=true)->
     oz (C.env U J.heap w) b.block off cs:=by
     intro cs;induction cs with
     |nil=>intro _ _ _ _;trivial
     |cons x cs ih=>
      intro off ho r h1;obtain⟨u,us,hu,r1,r2⟩:=r
      have hcu:c[off]? =some u:=by
       have:(c.toList.drop off)[0]? =some u:=by
        have:=congrArg (fun l:List aJW=>l[0]?) hu;simpa using this
       simpa using this
      have htl:us=(c.toList.drop (off+1)).take cs.length:=by
       have h1:=congrArg List.tail hu;simp only[List.tail_cons]at h1;rw[<-h1];cases hd:c.toList.drop off with
       |nil=>rw[hd]at hu;simp at hu
       |cons y ys=>
        grind [bD]
      simp only[aG]at ho;simp only[qu.env]at hcb;refine⟨⟨hnm off (by omega),u,by grind [qu.env,World.cell?],h1 u (by rw[hu];simp),r1⟩,ih (off+1) (by omega) (by rw[<-htl];exact r2) (fun v hv=>h1 v (by rw[hu,htl];simp [hv]))⟩
    intro rs;induction rs with
    |nil=>intro _ _ _ _ _;trivial
    |cons r rs ih=>
     intro off Xf ho h h1;have hr:r.length=sz:=Xf r (by simp);simp only[aD]at h;have h3:=ko.take r.length h;have h2:=ko.drop r.length h;simp only[aZ,a8,bE,aY,aR]at h3 h2
     have e1:min r.length ((r::rs).length*sz)=r.length:=by
      grind [az]
     have e2:(r::rs).length*sz-r.length=rs.length*sz:=by grind [az]
     simp only[aG,az,bT]at ho;rw[e1]at h3;rw[e2,hr]at h2;refine⟨hr,mem r off (by omega) h3 (fun u hu=>h1 u ?_),ih (off+sz) (fun q hq=>Xf q (by simp [hq])) (by omega) h2 (fun u hu=>h1 u ?_)⟩
     ·have:(c.toList.drop off).take r.length=((c.toList.drop off).take ((r::rs).length*sz)).take r.length:=by rw[bE,e1]
      grind
     ·have:(c.toList.drop (off+sz)).take (rs.length*sz)=((c.toList.drop off).take ((r::rs).length*sz)).drop sz:=by
       grind [aY,aR]
      grind
   grind
def ak5(S:mM C U J a w){sz:Nat}(h:Xo J sz y=some (rd,ys))(r:pg (C.env U J.heap w) y v):
 axB P (C.env U J.heap w) sz ys v/\(bN v).run P w=.ok ys.length w:=by
 unfold Xo at h;split at h
 ·split at h
  ·rename_i hc;cases h;refine⟨amq hc r,?_⟩;obtain⟨_,_,rfl,_⟩:=r;rfl
  ·cases h
 ·split at h
  ·rename_i hl;split at h
   ·rename_i hc;cases h;have hv:=ND S hl hc.2 r;subst hv;refine⟨hc.1 ▸ amr S hl,?_⟩;obtain⟨base,cap,hh,_⟩:=S.nX _ _ hl;rw[hh];rfl
   ·cases h
  ·cases h
 ·cases h;have r:v=_:=r;subst r;exact⟨⟨[],rfl,by simp,by simp,by simp,fun k=>by rename_i base cap;cases base<;>simp [ap,loadCells,loadCellsFrom]⟩,rfl⟩
 ·cases h
theorem aar(z:Array aJW)(n:Nat):(bp z n).size=n*z.size:=by simp [bp]
def ai4 {sz cap:Nat}{e:aJ0}{us:List aJW}{zs:Array aJW}{tN:Bool}(L8:∀r∈rows,r.length=sz)
 (hr:ko E' rows.flatten us) (zf:∀u∈us,u.oneCell'=true) (hw:E'.w.heap[b]? =some (.cells c e (0,0))) (hc:c.toList=us++zs.toList) (hz:zs.size=(cap-rows.length)*sz) (hle:rows.length<=cap):
 n8 E' (.lN tN sz rows) (.slice (some ⟨b,0,none⟩) rows.length cap):=by
 have hus:us.length=rows.length*sz:=by rw[hr.length,CJ L8]
 refine⟨some ⟨b,0,none⟩,cap,rfl,hle,by simp,L8,fun a ha _=>?_⟩;simp only[ai]at ha;subst ha;refine⟨rfl,c,e,hw,?_,?_⟩
 ·have:c.size=rows.length*sz+(cap-rows.length)*sz:=by grind [bi]
  rw[this,<-az]
  grind
 grind
theorem aga(J:jJ)(dst:Option Tmp)(x:AV)(rd:List Nat)(l:Nat)(o:jT)(p:Prop):
 J.app dst {val:=x,rd,up:=[(l,o)],pre:=p}=jJ.put {J with heap:=J.heap.set l o} dst x:=by
 cases dst<;>simp [jJ.app,mh,jJ.put]
theorem agb(J:jJ)(dst:Option Tmp)(x:AV)(rd:List Nat)(o:jT)(p:Prop):
 J.app dst {val:=x,rd,nw:=[o],pre:=p}=jJ.put {J with heap:=J.heap++[o]} dst x:=by
 cases dst<;>simp [jJ.app,mh,jJ.put]
def anw (S:mM C U J a w){u e:aJ0} {sz bytes:Nat}{vy:aJW} (ht:lv C.P t=some (e,sz,bytes)) (hu:k9 C.P u=true)
 (hz:lI C.P e=some z) (hzl:z.length=sz/\0<sz/\0<bytes) (h:Ql im J sz bytes x y=some ef) (hp:ef.pre)
 (rx:pg (C.env U J.heap w) x vx) (ry:pg (C.env U J.heap w) y vy):
 ∃v w' U',(am #[t,u] ty #[vx,vy]).run C.P w=.ok v w'/\mM C U' (J.app dst ef) (a.put dst v) w':=by
 obtain⟨hut,i,hi,rfl,rfl⟩:=Kz ht
 obtain⟨d,hd,hni⟩:∃d,C.P.underlying u=some d/\∀k,d≠ .int k:=by
  grind [k9]
 obtain⟨zv,hzi,hzs⟩:∃zv,i.zero=some zv/\zv.cells.size=i.size:=by
  grind [lI]
 unfold Ql at h;split at h
 ·cases h
 rename_i rd ys ak4;obtain⟨⟨us,rus,lus,aFt,auA,aAm⟩,ao6⟩:=ak5 (P:=C.P) S ak4 ry;simp only[qu.env]at aAm;have axC:(ap i.size ys.length vy).run C.P w=.ok us.toArray w:=aAm w.drawn;split at h
 ·
  rename_i l n;split at h
  ·rename_i tN Ph rows hl;split at h
   ·rename_i hc;obtain⟨rfl,hn⟩:=hc;cases h;simp only at hp;have hvx:=ND S hl hn rx;subst hvx;obtain⟨base,cap,hh,h2,h3,h4,h5⟩:=S.nX l _ hl
    have L8:∀r∈rows++ys,r.length=i.size:=by
     grind
    have mR:l<J.heap.length:=(ak.1 hl).1
    have xw:∀{h':aJW}{w':aJX},(∃b m c,h'=.slice b m c)->(am #[t,u] ty #[U l,vy]).run C.P w=.ok h' w'->
     mM C (fun k=>if k=l then h' else U k) {J with heap:=J.heap.set l (.lN tN i.size (rows++ys))} a w'->
     ∃v w' U',(am #[t,u] ty #[U l,vy]).run C.P w=.ok v w'/\
      mM C U' (J.app dst {val:=.lN l (rows++ys).length,rd:=l::rd,up:=[(l,.lN tN i.size (rows++ys))],pre:=room (rows.length+ys.length) i.bytes}) (a.put dst v) w':=by
     intro h' w' hsl uz hS;refine⟨h',w',(fun k=>if k=l then h' else U k),uz,?_⟩
     have:=hS.put dst (x:=.lN l (rows++ys).length) (v:=h') ⟨by simpa [qu.env] using mR,hsl,fun k hk=>by
      grind [qu.env,lZ]⟩
     rw[aga];exact this
    by_cases af9:rows.length+ys.length<=cap
    ·have uz:=OW (w:=w) (ty:=ty) (base:=base) (sLen:=rows.length) (sCap:=cap) hut hi hd hni ao6 axC af9;by_cases CK:cap=0
     ·
      have hr0:rows=[]:=ah (by omega);have hy0:ys=[]:=ah (by omega);subst hr0 hy0;have hu0:us=[]:=by simpa using lus
      subst hu0;rw[<-hh]at uz
      have ai5:(am #[t,u] ty #[U l,vy]).run C.P w=.ok (U l) w:=by
       rw[uz,hh];cases base<;>simp [storeCells]
      refine xw ⟨_,_,_,hh⟩ ai5 (S.ar9 hl (.inr rfl) (av _) (fun _ _ _ _=>rfl) (fun _ _ _=>rfl) (fun _=>rfl) ⟨rfl,rfl⟩ (fun b hb=>.inl (by simpa using hb)) (fun b o hm=>.inl (by simpa using hm)) ?_);intro E' hle hw;rw[hh];exact⟨base,cap,by simp,by simp,h3,by simp,fun b hb hc=>absurd CK hc⟩
     ·cases base with
      |none=>exact absurd (h3 rfl) CK
      |some b=>
       obtain⟨hsp,c,tc,hcb,hsz,rl,aFu⟩:=h5 b rfl CK;simp only[qu.env]at hcb;have hb:b=⟨b.block,b.off,none⟩:=by cases b;simp_all
       have e1:(rows.length+ys.length)*i.size<=cap*i.size:=au _ af9;have e2:(rows.length+ys.length)*i.size=rows.length*i.size+ys.length*i.size:=az ..
       have Xg:=run_storeCells_at C.P b.block (b.off+rows.length*i.size) tc us 0 c w hcb (by omega) auA;simp only[br]at Xg
       let c':Array aJW:=(c.toList.take (b.off+rows.length*i.size)++us++c.toList.drop (b.off+rows.length*i.size+us.length)).toArray
       have ai5:(am #[t,u] ty #[U l,vy]).run C.P w=.ok (.slice (some b) (rows.length+ys.length) cap) (w.setRow b.block c'):=by
        grind [Aa,af]
       have aAn:∀o,o<b.off+rows.length*i.size->c'[o]? =c[o]? :=by
        grind [ax]
       refine xw ⟨_,_,_,rfl⟩ ai5 (S.ar9 hl ?_ (by simp) ?_ ?_ ?_ ⟨rfl,rfl⟩ ?_ ?_ ?_)
       ·grind
       ·intro b' o qR hm;by_cases e:b'=b.block
        ·subst e;simp only[World.cell?];rw[setRow_heap w b.block c c' tc _ hcb,hcb];simp only[Option.isSome_none,aH,if_false];apply aAn;rw[hh]at hm;cases tN with
         |false=>exact absurd ⟨⟨rfl,CK⟩,fun h=>by cases h⟩ hm
         |true=>
          by_cases ho:o<b.off+rows.length*i.size
          ·exact ho
          ·exact absurd ⟨⟨rfl,CK⟩,fun _=>by omega⟩ hm
        grind [cell_setRow_other]
       ·intro b' qR hbl;rw[hh]at hbl;exact setRow_other w b.block b' c' (fun e=>hbl ⟨e,CK⟩)
       ·intro x;by_cases e:x.block=b.block
        ·simp only[World.frozen?];rw[e,setRow_heap w b.block c c' tc _ hcb,hcb]
        grind [World.frozen?,setRow_other]
       ·intro b' qR;left;rw[hh];exact qR
       ·intro b' o hm;left;rw[hh];refine⟨hm.1,fun hi'=>?_⟩;have:=hm.2 hi';omega
       ·intro E' hle hw;refine⟨some b,cap,by simp,by simpa using af9,by simp,L8,fun b0 hb0 _=>?_⟩;simp only[ai]at hb0;subst hb0;refine⟨hsp,c',tc,by rw[hw];exact setRow_heap w b.block c c' tc _ hcb,?_,?_⟩
        ·have:c'.size=c.size:=by simp [c'];omega
         omega
        ·have rl':=ko.mono hle _ _ (ko.nb _ _ rl) rl;have ru':=ko.mono hle _ _ (ko.nb _ _ rus) rus;have:=rl'.append ru';rw[bj]
         have e3:(c'.toList.drop b.off).take ((rows++ys).length*i.size)=(c.toList.drop b.off).take (rows.length*i.size)++us:=by
          have hcl:b.off+rows.length*i.size<=c.toList.length:=by simp;omega
          have e4:c'.toList=c.toList.take b.off++((c.toList.drop b.off).take (rows.length*i.size)++(us++c.toList.drop (b.off+rows.length*i.size+us.length))):=by
           simp only[c',aQ];rw[<-aQ (c.toList.take b.off),<-bO]
          rw[e4,bh (by simp;omega),aY];simp only[Nat.sub_self,List.take_zero,List.nil_append];rw[<-aQ];apply aZ;simp only[List.length_append,bt,List.length_drop,lus,az];omega
         rw[e3];exact⟨this,fun v hv=>(be.1 hv).elim (aFu v) (auA v)⟩
    ·
     have hold:=(amr (P:=C.P) S hl);obtain⟨os,ros,los,_,axD,avB⟩:=hold;rw[hh]at avB;simp only[qu.env]at avB;obtain⟨aHG,hle,uz⟩:=Vt (w:=w) (ty:=ty) hut hi hd hni ao6 aAm avB hzi (by omega) hp hzl.2.2;rw[<-hh]at uz;refine xw ⟨_,_,_,rfl⟩ uz (S.ar9 hl (.inl (by omega)) (by simp) ?_ ?_ ?_ ⟨rfl,rfl⟩ ?_ ?_ ?_)
     ·intro b o hb _;exact Fe {w with drawn:=w.drawn+1} _ hb
     ·intro b hb _;exact yO {w with drawn:=w.drawn+1} _ hb
     ·intro x;rw[wU {w with drawn:=w.drawn+1} _ (by intro c' t' lo hi h;cases h;exact⟨rfl,rfl⟩)];rfl
     ·intro b hb;right;have:b=w.heap.size:=hb.1;omega
     ·intro b o hm;right;have:b=w.heap.size:=hm.1.1;omega
     ·intro E' axE hw;have ro':=ko.mono axE _ _ (ko.nb _ _ ros) ros;have ru':=ko.mono axE _ _ (ko.nb _ _ rus) rus;have hll:(rows++ys).length=rows.length+ys.length:=by simp
      rw[<-hll];refine ai4 (us:=os++us) L8 (by rw[bj];exact ro'.append ru') (fun v hv=>(be.1 hv).elim (axD v) (auA v)) (by rw[hw];exact Ir {w with drawn:=w.drawn+1} _) (by simp;rfl) ?_ (by omega);rw[aar,hzs,hll]
   ·cases h
  ·cases h
 ·
  rename_i Ph rows;split at h
  ·rename_i hc;split at h
   case isFalse sA=>
    cases h;have hy0:ys=[]:=ah (by omega);subst hy0;have hu0:us=[]:=by simpa using lus
    subst hu0;obtain⟨base,cap,rfl,h2,h3,h4,h5,h6⟩:=id rx;have CK:=h3 rfl;subst CK;have uz:=OW (w:=w) (ty:=ty) (base:=base) (sLen:=rows.length) (sCap:=rows.length) hut hi hd hni ao6 axC (by simp)
    have ai5:(am #[t,u] ty #[.slice base rows.length rows.length,vy]).run C.P w=.ok (.slice base rows.length rows.length) w:=by
     rw[uz];cases base<;>simp [storeCells]
    refine⟨_,w,U,ai5,?_⟩;have:=S.put dst rx;simpa [jJ.app,mh,jJ.put] using (by cases dst<;>simpa [jJ.put] using this)
   rename_i sA;cases h;have NS:=hp;obtain⟨os,ros,los,aFv,axD,avB⟩:=amq (P:=C.P) hc rx;obtain⟨base,cap,rfl,h2,h3,h4,h5,h6⟩:=rx;have CK:=h3 rfl;subst CK;simp only[qu.env]at avB
   have L8:∀r∈rows++ys,r.length=i.size:=by
    intro r hr;rcases be.1 hr with hr|hr
    ·exact aFv r hr
    ·exact aFt r hr
   have xw:∀{h':aJW}{w':aJX},(∃b m c,h'=.slice b m c)->(am #[t,u] ty #[.slice base rows.length rows.length,vy]).run C.P w=.ok h' w'->
    mM C (fun k=>if k=J.heap.length then h' else U k) {J with heap:=J.heap++[.lN im i.size (rows++ys)]} a w'->
    ∃v w' U',(am #[t,u] ty #[.slice base rows.length rows.length,vy]).run C.P w=.ok v w'/\
     mM C U' (J.app dst {val:=.lN J.heap.length (rows++ys).length,rd:=rd,nw:=[.lN im i.size (rows++ys)],pre:=room (rows.length+ys.length) i.bytes}) (a.put dst v) w':=by
    intro h' w' hsl uz hS;refine⟨h',w',(fun k=>if k=J.heap.length then h' else U k),uz,?_⟩
    have:=hS.put dst (x:=.lN J.heap.length (rows++ys).length) (v:=h') ⟨by simp [qu.env],hsl,fun k hk=>by
     simp only[qu.env,List.getElem?_append_right (av _),Nat.sub_self,aN,lZ,ai]at hk;exact⟨by omega,fun _=>by simp [qu.env]⟩⟩
    rw[agb];exact this
   by_cases af9:rows.length+ys.length<=rows.length
   ·have hy0:ys=[]:=ah (by omega);subst hy0
    have hr0:rows=[]:=by
     rcases sA with h|h
     ·exact ah h
     ·simp at h
    subst hr0;have hu0:us=[]:=by simpa using lus
    subst hu0;have uz:=OW (w:=w) (ty:=ty) (base:=base) (sLen:=0) (sCap:=0) hut hi hd hni ao6 axC (by simp)
    have ai5:(am #[t,u] ty #[.slice base 0 0,vy]).run C.P w=.ok (.slice base 0 0) w:=by
     rw[uz];cases base<;>simp [storeCells]
    refine xw ⟨_,_,_,rfl⟩ ai5 (S.Xs (av _) (fun _ _=>rfl) (fun _=>rfl) ⟨rfl,rfl⟩ ?_ ?_)
    ·intro b hb;cases base<;>simp [jT.block]at hb
    ·intro E' _ _;exact⟨base,0,rfl,by simp,fun _=>rfl,by simp,fun b _ h0=>absurd rfl h0⟩
   ·obtain⟨aHG,hle,uz⟩:=Vt (w:=w) (ty:=ty) hut hi hd hni ao6 aAm avB hzi (by omega) NS hzl.2.2;refine xw ⟨_,_,_,rfl⟩ uz (S.Xs (by simp) ?_ ?_ ⟨rfl,rfl⟩ ?_ ?_)
    ·intro b hb;exact yO {w with drawn:=w.drawn+1} _ hb
    ·intro x;rw[wU {w with drawn:=w.drawn+1} _ (by intro c' t' lo hi h;cases h;exact⟨rfl,rfl⟩)];rfl
    ·intro b hb;have:b=w.heap.size:=hb.1;omega
    ·intro E' axE hw;have ro':=ko.mono axE _ _ (ko.nb _ _ ros) ros;have ru':=ko.mono axE _ _ (ko.nb _ _ rus) rus;have hll:(rows++ys).length=rows.length+ys.length:=by simp
     rw[<-hll];refine ai4 (us:=os++us) L8 (by rw[bj];exact ro'.append ru') (fun v hv=>(be.1 hv).elim (axD v) (auA v)) (by rw[hw];exact Ir {w with drawn:=w.drawn+1} _) (by simp;rfl) ?_ (by omega);rw[aar,hzs,hll]
  ·cases h
 ·cases h
end sound
section sound
variable {a:Act}
theorem KA(J:jJ)(dst:Option Tmp)(x:AV)(rd:List Nat)(p:Prop):J.app dst {val:=x,rd,pre:=p}=J.put dst x:=by
 cases dst<;>simp [jJ.app,mh,jJ.put]
theorem kY(S:mM C U J a w){m:Sem aJW}(h:∃v,m.run C.P w=.ok v w/\pg (C.env U J.heap w) x v):
 Ag C J a w dst ((do pure (.value (<-m)):Sem Next).run C.P w) {val:=x,rd,pre:=p}:=by
 obtain⟨v,hr,rep⟩:=h;refine⟨.value v,v,w,U,by simp [hr],.inl rfl,?_⟩;rw[KA];exact S.put dst rep
def auB {u:aJ0}{i o:Nat}(h:nP P t i=some (o,u)):∃fs f j,P.underlying t=some (.struct fs)/\fs[i]? =some f/\P.info? f.type=some j/\j.size≠0/\f.offset=o/\f.type=u:=by
 grind [nP]
def mM.axF(S:mM C U J a w){cap sz:Nat}{xD:List (List AV)}{c':Array aJW}(hl:J.heap[l]? =some (.lN false sz rows))(hφ:U l=.slice (some ⟨b,off,none⟩) rows.length cap)(CK:cap≠0)
 (hle:rows.length<=cap) (hlen:xD.length=rows.length) (hh:w.heap[b]? =some (.cells c t (0,0))) (hsz:∀r∈xD,r.length=sz) (af9:off+cap*sz<=c'.size)
 (hr:ko (C.env U J.heap w) xD.flatten ((c'.toList.drop off).take (xD.length*sz))) (h1:∀u∈(c'.toList.drop off).take (xD.length*sz),u.oneCell'=true):
 mM C U {J with heap:=J.heap.set l (.lN false sz xD)} a (w.setRow b c'):=by
 have mR:l<J.heap.length:=(ak.1 hl).1
 have nA:∀(k:Nat)(x:jT),(J.heap.set l (.lN false sz xD))[k]? =some x->(k=l/\x=.lN false sz xD)\/(k≠l/\J.heap[k]? =some x):=by
  grind
 have ahk:∀b' o,(jT.lN false sz xD).AT (U l) b' o->(jT.lN false sz rows).AT (U l) b' o:=by
  intro b' o hm;rw[hφ]at hm ⊢;exact⟨hm.1,fun h=>by cases h⟩
 have HZ:∀b',(jT.lN false sz xD).block (U l) b'->(jT.lN false sz rows).block (U l) b':=by
  intro b' hm;rw[hφ]at hm ⊢;exact hm
 have hmb:∀o,(jT.lN false sz rows).AT (U l) b o:=by
  intro o;rw[hφ];exact⟨⟨rfl,CK⟩,fun h=>by cases h⟩
 have hbb:(jT.lN false sz rows).block (U l) b:=by rw[hφ];exact⟨rfl,CK⟩
 have L0:∀b' o,F8 U (J.heap.set l (.lN false sz xD)) b' o->F8 U J.heap b' o:=by
  rintro b' o ⟨k,x,hx,hm⟩;rcases nA k x hx with⟨e,rfl⟩|⟨_,hx⟩
  ·rw[e]at hm;exact⟨l,_,hl,ahk b' o hm⟩
  ·exact⟨k,x,hx,hm⟩
 have ao7:∀k:Nat,lZ (J.heap.set l (.lN false sz xD))[k]? =lZ J.heap[k]? :=by
  grind [lZ]
 have le:(C.env U J.heap w).Le J.heap.length (C.env U (J.heap.set l (.lN false sz xD)) (w.setRow b c')):=by
  refine qu.CG (by simp) (fun k _=>⟨rfl,ao7 k⟩) (fun b' o u hm hc=>?_);have sA:b'≠b:=fun e=>hm (.inl (e ▸ ⟨l,_,hl,hmb o⟩))
  grind [cell_setRow_other]
 have BM:sQ C U (J.heap.set l (.lN false sz xD)) (w.setRow b c') J.df a.defers:=by
  refine S.defers.step le (fun b' _ hno=>?_) (fun k x b' hx hb=>?_)
  all_goals grind [setRow_other]
 refine {jV:=ko.mono le _ _ (ko.nb _ _ S.jV) S.jV,defers:=BM,nX:=?_,apart:=?_,tW:=?_,size:=by simpa using S.size,F9:=?_,nM:=?_,Ce:=?_,wS:=?_,rest:=S.rest,low:=⟨S.low.1,by simpa using S.low.2⟩,lR:=?_}
 ·intro k x hx;rcases nA k x hx with⟨e,rfl⟩|⟨sA,hx⟩
  ·rw[e];refine⟨some ⟨b,off,none⟩,cap,by rw[hlen];exact hφ,by rw[hlen];exact hle,by simp,hsz,?_⟩;intro a0 ha _;simp only[ai]at ha;subst ha;exact⟨rfl,c',t,setRow_heap w b c c' t _ hh,af9,ko.mono le _ _ (ko.nb _ _ hr) hr,h1⟩
  ·refine n8.mono (S.nX k x hx) le (fun b' qR=>?_);refine setRow_other w b b' c' (fun e=>?_);subst e;exact sA (S.apart k l x _ b' hx hl qR hbb)
 ·intro k k' x x' b' hx Dt hb qR;rcases nA k x hx with⟨e1,rfl⟩|⟨sA,Vr⟩<;>rcases nA k' x' Dt with⟨e2,rfl⟩|⟨ak3,RC⟩
  ·rw[e1,e2]
  ·rw[e1]at hb ⊢;exact S.apart l k' _ x' b' hl RC (HZ b' hb) qR
  ·rw[e2]at qR ⊢;exact S.apart k l x _ b' Vr hl hb (HZ b' qR)
  ·exact S.apart k k' x x' b' Vr RC hb qR
 ·intro k x b' o hx hb;rcases nA k x hx with⟨e,rfl⟩|⟨sA,hx⟩
  ·rw[e]at hb;exact S.tW l _ b' o hl (HZ b' hb)
  ·exact S.tW k x b' o hx hb
 ·intro b' o qR hm;by_cases e:b'=b
  ·subst e;exact absurd (S.Ce l _ b' o hl (hmb o) qR) hm
  ·rw[cell_setRow_other w b c' _ e];exact S.F9 b' o qR hm
 ·intro b' qR hm;by_cases e:b'=b
  ·subst e;exact absurd (S.Ce l _ b' 0 hl (hmb 0) qR) (hm 0)
  ·rw[setRow_other w b b' c' e];exact S.nM b' qR hm
 ·intro k x b' o hx hm qR;rcases nA k x hx with⟨e,rfl⟩|⟨sA,hx⟩
  ·rw[e]at hm;exact S.Ce l _ b' o hl (ahk b' o hm) qR
  ·exact S.Ce k x b' o hx hm qR
 ·intro x hx hm0;rw[<-S.wS x hx hm0];by_cases e:x.block=b
  ·simp only[World.frozen?];rw[e,setRow_heap w b c c' t _ hh,hh]
  grind [World.frozen?,setRow_other]
 ·intro k hk;have:=S.lR k hk
  grind
def axG(S:mM C U J a w){i o sz:Nat}{r:List AV}(hl:J.heap[l]? =some (.lN false sz rows))(hn:rows.length=n)(hi:rows[i]? =some r)
 (rv:pg (C.env U J.heap w) (.own l i n o sz) v):∃b off cap c t,U l=.slice (some ⟨b,off,none⟩) rows.length cap/\cap≠0/\rows.length<=cap/\v=.pointer (some ⟨b,off+i*sz+o,none⟩)/\w.heap[b]? =some (.cells c t (0,0))/\
   off+cap*sz<=c.size/\(∀q∈rows,q.length=sz)/\ko (C.env U J.heap w) rows.flatten ((c.toList.drop off).take (rows.length*sz))/\∀u∈(c.toList.drop off).take (rows.length*sz),u.oneCell'=true:=by
 obtain⟨_,_,h⟩:=rv;obtain⟨b,off,m,cp,hφ,hv⟩:=(h rows.length (by simp [qu.env,hl,lZ])).2 hn.symm;obtain⟨base,cap,hh,h2,h3,h4,h5⟩:=S.nX l _ hl;simp only[qu.env]at hφ;rw[hh]at hφ;simp only[Value.slice.injEq]at hφ;obtain⟨hb,_,_⟩:=hφ;subst hb;have mR:i<rows.length:=(ak.1 hi).1;have CK:cap≠0:=by omega
 obtain⟨_,c,t,h6,h7,h8,h9⟩:=h5 _ rfl CK;exact⟨b,off,cap,c,t,hh,CK,h2,hv,h6,h7,h4,h8,h9⟩
theorem aas{sz:Nat}:∀{rows:List (List AV)}{i:Nat}{r:List AV},(∀q∈rows,q.length=sz)->rows[i]? =some r->rows.flatten.drop (i*sz)=r++(rows.drop (i+1)).flatten
 |q::rows,0,r,_,h=>by simp at h;subst h;simp
 |q::rows,i+1,r,hl,h=>by
  simp at h;have hq:q.length=sz:=hl q (by simp);have:=aas (fun p hp=>hl p (by simp [hp])) h
  grind [az,List.drop_append,Nat.add_sub_cancel_left,bC]
theorem axH(S:mM C U J a w){k i o sz:Nat}{r:List AV}(ht:l4 C.P t=some (g,k))(hl:J.heap[l]? =some (.lN false sz rows))(hn:rows.length=n)
 (hi:rows[i]? =some r) (hx:mN g k (r.drop o)=some x) (rv:pg (C.env U J.heap w) (.own l i n o sz) v):∃u,(aM t v).run C.P w=.ok u w/\pg (C.env U J.heap w) x u:=by
 obtain⟨b,off,cap,c,t2,hφ,CK,hle,rfl,hh,af9,hsz,rl,_⟩:=axG S hl hn hi rv;have hrl:=rl.drop (i*sz);rw[aas hsz hi]at hrl;have hr:=hrl.take r.length;rw[aZ rfl]at hr;have hr2:=hr.drop o;have hi':=MX (C:=C) (w:=w) ht
 have hm:ao3 (C.env U J.heap w) b (off+i*sz+o) (r.drop o):=by
  refine⟨_,hr2,fun j u hj=>?_⟩
  grind [qu.env,World.cell?]
 obtain⟨u,hu,ru⟩:=Xp (P:=C.P) (t:=t) hm hi'.1 hi'.2 hx
 grind [aM,aw,qu.env]
theorem YW{sz:Nat}:∀{rows:List (List AV)}{i:Nat}{r q:List AV},(∀p∈rows,p.length=sz)->rows[i]? =some r->q.length=sz->
 (rows.set i q).flatten=rows.flatten.take (i*sz)++q++rows.flatten.drop (i*sz+sz)
 |p::rows,0,r,q,hl,h,hq=>by
  grind
 |p::rows,i+1,r,q,hl,h,hq=>by
  simp at h;have hp:p.length=sz:=hl p (by simp);have ih:=YW (q:=q) (fun p hp=>hl p (by simp [hp])) h hq;simp only[List.set_cons_succ,aD,ih]
  grind [az,List.take_append,List.drop_append,bC]
def aDw{L V:List W}{p k:Nat}(hV:V.length=k)(h:p+k<=n)(hL:off+n<=L.length):
 ((L.take (off+p)++V++L.drop (off+p+k)).drop off).take n=((L.drop off).take n).take p++V++((L.drop off).take n).drop (p+k):=by
 have e1:L.take (off+p)=L.take off++(L.drop off).take p:=by rw[bO]
 have e2:L.drop (off+p+k)=(L.drop off).drop (p+k):=by rw[aR,bM]
 have hA:(L.take off).length=off:=by rw[bt];omega
 have hB:((L.drop off).take p).length=p:=by grind
 rw[e1,e2,aQ,aQ,a8 hA]
 grind [aY,List.take_append,List.take_of_length_le]
def avC(S:mM C U J a w){i o k sz:Nat}{r ys:List AV}{p:aJW}(ht:l4 C.P t=some (g,k))(hl:J.heap[l]? =some (.lN false sz rows))(hn:rows.length=n)
 (hi:rows[i]? =some r) (hr:ko (C.env U J.heap w) ys v.cells.toList) (h1:∀u∈v.cells.toList,u.oneCell'=true) (hk:ys.length=k) (aDu:o+k<=sz) (hp:pg (C.env U J.heap w) (.own l i n o sz) p):
 ∃w',(bn t p v).run C.P w=.ok () w'/\mM C U {J with heap:=J.heap.set l (.lN false sz (rows.set i (wm r o ys)))} a w':=by
 obtain⟨b,off,cap,c,t2,hφ,CK,hle,rfl,hh,af9,hsz,rl,zf⟩:=axG S hl hn hi hp;have mR:i<rows.length:=(ak.1 hi).1;have hrl:r.length=sz:=hsz r (bK hi);have hvl:v.cells.size=k:=by have:=hr.length;simp at this;omega
 have hmul:i*sz+sz<=rows.length*sz:=by
  have:(i+1)*sz<=rows.length*sz:=au _ mR
  grind
 have aIN:rows.length*sz<=cap*sz:=au _ hle;have Xg:=run_storeCells_at C.P b (off+i*sz+o) t2 v.cells.toList 0 c w hh (by simp;omega) h1
 have aDv:(wm r o ys).length=sz:=by
  grind [wm]
 have hfl:rows.flatten.length=rows.length*sz:=CJ hsz
 have aFw:(rows.set i (wm r o ys)).flatten=rows.flatten.take (i*sz+o)++ys++rows.flatten.drop (i*sz+o+k):=by
  rw[YW hsz hi aDv];have hd:=aas hsz hi
  have e1:rows.flatten.take (i*sz+o)=rows.flatten.take (i*sz)++r.take o:=by
   rw[bO,hd,List.take_append_of_le_length (by omega)]
  have e2:rows.flatten.drop (i*sz+o+k)=r.drop (o+k)++rows.flatten.drop (i*sz+sz):=by
   have e3:rows.flatten.drop (i*sz+sz)=(rows.drop (i+1)).flatten:=by
    rw[<-aR,hd,<-hrl,a8];rfl
   rw[e3,bM,<-aR,hd,bh (by omega)]
  grind [wm]
 let c':Array aJW:=(c.toList.take (off+i*sz+o)++v.cells.toList++c.toList.drop (off+i*sz+o+v.cells.toList.length)).toArray
 have hc':c'.toList=c.toList.take (off+i*sz+o)++v.cells.toList++c.toList.drop (off+i*sz+o+k):=by
  grind
 have hcs:c'.size=c.size:=by
  grind
 have aAo:(c'.toList.drop off).take (rows.length*sz)=((c.toList.drop off).take (rows.length*sz)).take (i*sz+o)++v.cells.toList++((c.toList.drop off).take (rows.length*sz)).drop (i*sz+o+k):=by
  rw[hc'];have hcl:c.toList.length=c.size:=by simp
  have:=aDw (L:=c.toList) (V:=v.cells.toList) (off:=off) (p:=i*sz+o) (k:=k) (n:=rows.length*sz) (by simpa using hvl) (by omega) (by omega)
  grind
 refine⟨_,?_,S.axF hl hφ CK hle (by rw[List.length_set]) hh (c':=c') (hsz:=?_) (by rw[hcs];exact af9) ?_ ?_⟩
 ·have hs:=(MX (C:=C) (w:=w) ht).2
  grind [bn,aw,storeVar,aj,af]
 ·grind
 ·rw[aFw,List.length_set,aAo];exact((rl.take _).append hr).append (rl.drop _)
 grind
theorem ahP(_S:mM C U J a w){u:aJ0}{i o:Nat}(h:nP C.P t i=some (o,u))(rx:pg (C.env U J.heap w) x v):
 (∀l off,x=.ptr l off->∃v',(aO t v i).run C.P w=.ok v' w/\pg (C.env U J.heap w) (.ptr l (off+o)) v')/\
 (∀cs,x=.pp cs->∃v',(aO t v i).run C.P w=.ok v' w/\pg (C.env U J.heap w) (.pp (cs.drop o)) v')/\
 (∀l j n o' sz,x=.own l j n o' sz->∃v',(aO t v i).run C.P w=.ok v' w/\pg (C.env U J.heap w) (.own l j n (o'+o) sz) v'):=by
 obtain⟨fs,f,j,hu,hf,hj,hs,rfl,rfl⟩:=auB h;have hsz:(sizeOf f.type).run C.P w=.ok j.size w:=by simp [sizeOf,typeInfo,hj]
 have key:∀b off,(aO t (.pointer (some ⟨b,off,none⟩)) i).run C.P w=.ok (.pointer (some ⟨b,off+f.offset,none⟩)) w:=by
  simp_all [aO,run_underlying,aw,fieldPlace,Aa]
 refine⟨?_,?_,?_⟩
 ·rintro l off rfl;obtain⟨hl,b,hb,rfl⟩:=rx;exact⟨_,key b off,hl,b,hb,rfl⟩
 ·rintro cs rfl;obtain⟨b,off,rfl,rm⟩:=rx;exact⟨_,key b off,b,_,rfl,rm.drop _⟩
 ·rintro l j n o' sz rfl;obtain⟨hl,⟨ad,rfl⟩,hr⟩:=rx
  have aHH:(aO t (.pointer (some ad)) i).run C.P w=.ok (.pointer (some (ad.add f.offset))) w:=by
   simp_all [aO,run_underlying,aw,fieldPlace]
  refine⟨_,aHH,hl,⟨_,rfl⟩,fun k hk=>?_⟩
  grind
def asa {o:Nat}{vs:Array aJW}(ha:(isAgg t).run P w= .ok g w)(hs:(sizeOf t).run P w= .ok n w)
 (r:ko E cs vs.toList) (hl:mN g n (cs.drop o)=some x):∃v,(part t vs o).run P w=.ok v w/\pg E x v:=by
 unfold mN at hl;cases g with
 |true=>
  simp only at hl;split at hl
  ·cases hl;refine⟨.agg (vs.extract o (o+n)),by simp [part,ha,hs],_,rfl,?_⟩;have:=(r.drop o).take n
   simp_all
  ·cases hl
 |false=>
  cases hd:cs.drop o with
  |nil=>rw[hd]at hl;cases hl
  |cons c cs'=>
   rw[hd]at hl;injection hl with hl
   subst hl
   have h0:cs[o]? =some c:=by
    have:=congrArg (fun l:List AV=>l[0]?) hd;simpa using this
   obtain⟨v,hv,rv⟩:=r.get h0
   simp_all [part]
def ads {e:aJ0}{sz bytes:Nat}{r:List AV}{n:Int}(ht:lv C.P t=some (e,sz,bytes))(hn:0<=n)
 (hr:rows[n.toNat]? =some r) (rx:pg (C.env U J.heap w) (.kW tt sz rows) v):∃v',(aJ t v (.int k n)).run C.P w=.ok v' w/\pg (C.env U J.heap w) (.pp r) v':=by
 obtain⟨hu,i,hi,rfl,rfl⟩:=Kz ht;obtain⟨base,cap,rfl,h2,h3,h4,h5,h6⟩:=rx;have mR:n.toNat<rows.length:=(ak.1 hr).1;have sA:rows≠[]:=by intro h;subst h;simp at mR
 have hsz:(sizeOf e).run C.P w=.ok i.size w:=by simp [sizeOf,typeInfo,hi]
 cases base with
 |none=>have:=h4 rfl;omega
 |some b=>
  have hb:b=⟨b.block,b.off,none⟩:=by have:=h5 b rfl sA;cases b;simp_all
  obtain⟨_,hm⟩:=nS.get (h6 b rfl) hr;refine⟨.pointer (some ⟨b.block,b.off+n.toNat*i.size,none⟩),?_,b.block,_,rfl,hm⟩;have aDx:0<=n/\n<(rows.length:Int):=⟨hn,by omega⟩;simp only[aJ,asIntOf,aj,aq,af,run_underlying hu,aDx,and_self,jE,hsz];rw[hb,Aa]
def ak6(S:mM C U J a w){e:aJ0}{sz bytes m:Nat}{r:List AV}{n:Int}(ht:lv C.P t=some (e,sz,bytes))(hn:0<=n)
 (hl:J.heap[l]? =some (.lN true sz rows)) (hm:rows.length=m) (hr:rows[n.toNat]? =some r) (rx:pg (C.env U J.heap w) (.lN l m) v):
 ∃v',(aJ t v (.int k n)).run C.P w=.ok v' w/\pg (C.env U J.heap w) (.pp r) v':=by
 have hv:=ND S hl hm rx;subst hv;exact ads (tt:=false) ht hn hr (aaq S hl)
theorem ahl(b:Addr)(h:b.spot=none)(k:Nat):b.add k=⟨b.block,b.off+k,none⟩:=by
 have hb:b=⟨b.block,b.off,none⟩:=by cases b;simp_all
 rw[hb,Aa]
def CL{n:Int}{y:Nat}{c:BoundsCode}(h:0<=n/\n<=y):(aB (.int k n) y c).run P w=.ok n.toNat w:=by
 simp [aB,asIntOf,h]
def JA(S:mM C U J a w){d:Nat}{x:Option aJV}{n:Int}(h:Ca J d x=some n):(x=none/\n=d)\/∃y k,x=some y/\a.eval y=.int k n:=by
 unfold Ca at h;cases x with
 |none=>grind
 |some y=>
  right;simp only at h;have r:=S.ev y;split at h
  ·rename_i k m hm;cases h;rw[hm]at r;exact⟨y,k,rfl,r⟩
  ·cases h
def YX(S:mM C U J a w){s:Bool}{len cap:Nat}{mx:Option aJV}{l h m:Int}(hl:Ca J 0 lo=some l)(hh:Ca J len hi=some h)(hm:Ca J len mx=some m)
 (hb:0<=l/\l<=h/\h<=m/\m<=len) (hc:len<=cap) (hmx:mx≠none->hi≠none):
 (aE s len cap (lo.map a.eval) (hi.map a.eval) (mx.map a.eval)).run C.P w=.ok (l.toNat,h.toNat,if mx=none then cap else m.toNat) w:=by
 have e0:(0:Int)<=h:=by omega
 rcases JA S hm with⟨rfl,rfl⟩|⟨ym,km,rfl,em⟩
 ·rcases JA S hh with⟨rfl,rfl⟩|⟨yh,kh,rfl,eh⟩
  ·rcases JA S hl with⟨rfl,rfl⟩|⟨yl,kl,rfl,el⟩
   ·simp [aE]
   ·have e3:∀c,(aB (.int kl l) len c).run C.P w=.ok l.toNat w:=fun c=>CL (by omega)
    simp [aE,el,e3]
  ·have e1:∀c,(aB (.int kh h) cap c).run C.P w=.ok h.toNat w:=fun c=>CL (by omega)
   rcases JA S hl with⟨rfl,rfl⟩|⟨yl,kl,rfl,el⟩
   ·simp [aE,eh,e1]
   ·have e3:∀c,(aB (.int kl l) h.toNat c).run C.P w=.ok l.toNat w:=fun c=>CL (by omega)
    simp_all [aE]
 ·rcases JA S hh with⟨rfl,rfl⟩|⟨yh,kh,rfl,eh⟩
  ·grind
  ·have e1:∀c,(aB (.int kh h) m.toNat c).run C.P w=.ok h.toNat w:=fun c=>CL (by omega)
   have e2:∀c,(aB (.int km m) cap c).run C.P w=.ok m.toNat w:=fun c=>CL (by omega)
   rcases JA S hl with⟨rfl,rfl⟩|⟨yl,kl,rfl,el⟩
   ·simp_all [aE]
   ·have e3:∀c,(aB (.int kl l) h.toNat c).run C.P w=.ok l.toNat w:=fun c=>CL (by omega)
    simp_all [aE]
theorem ams(S:mM C U J a w){e:aJ0}{sz Ph bytes:Nat}{mx:Option aJV}{l h m:Int}(ht:lv C.P t=some (e,sz,bytes))
 (hl:Ca J 0 lo=some l) (hh:Ca J rows.length hi=some h) (hm:Ca J rows.length mx=some m) (hsz:Ph=sz\/rows.length=0) (hb:0<=l/\l<=h/\h<=m/\m<=rows.length)
 (hmx:(mx.isSome&&hi.isNone)=false) (rx:pg (C.env U J.heap w) (.kW tt Ph rows) v):
 ∃v',(aU t v (lo.map a.eval) (hi.map a.eval) (mx.map a.eval)).run C.P w=.ok v' w/\
  pg (C.env U J.heap w) (.kW (acf mx tt h rows.length m) sz ((rows.take h.toNat).drop l.toNat)) v':=by
 obtain⟨hu,i,hi',rfl,rfl⟩:=Kz ht;obtain⟨base,cap,rfl,h2,h3,h4,h5,h6⟩:=rx;have Vu:(sizeOf e).run C.P w=.ok i.size w:=by simp [sizeOf,typeInfo,hi']
 have hbs:=YX S (s:=true) (cap:=cap) hl hh hm hb h2 (by
  intro h1 h2
  simp_all)
 have hlen:((rows.take h.toNat).drop l.toNat).length=h.toNat-l.toNat:=by
  grind
 obtain⟨m',hm',hm1,hm2⟩:∃m',(if mx=none then cap else m.toNat)=m'/\(mx=none->m'=cap)/\(mx≠none->m'=m.toNat):=by
  grind
 have hm3:h.toNat<=m':=by
  grind
 rw[hm']at hbs;clear hm'
 have uz:(aU t (.slice base rows.length cap) (lo.map a.eval) (hi.map a.eval) (mx.map a.eval)).run C.P w=
  .ok (.slice (if m'=l.toNat then base else base.map (·.add (l.toNat*i.size))) (h.toNat-l.toNat) (m'-l.toNat)) w:=by
  simp_all [aU,run_underlying,Instr.slice]
 refine⟨_,uz,_,_,by rw[hlen],?_,?_,?_,?_,?_⟩
 ·rw[hlen];omega
 ·intro htt;rw[hlen];cases mx with
  |none=>
   grind [acf]
  |some y=>
   grind [acf]
 ·intro amt;cases base with
  |none=>
   grind
  |some b=>
   grind
 ·intro b qR sA;cases base with
  |none=>split at qR<;>simp at qR
  |some b0=>
   have L8:rows≠[]:=by intro h0;subst h0;simp at sA
   grind [ahl]
 ·intro b qR;by_cases L8:rows=[]
  ·subst L8;simp [nS]
  ·have aHI:Ph=i.size:=by
    grind
   subst aHI;cases base with
   |none=>split at qR<;>simp at qR
   |some b0=>
    have hsp:=h5 b0 rfl L8;have rr:=h6 b0 rfl;split at qR
    ·rename_i heq;have hlh:h.toNat<=l.toNat:=by omega
     have:(rows.take h.toNat).drop l.toNat=[]:=List.drop_eq_nil_of_le (by rw[bt];omega);rw[this];trivial
    grind [ahl,nS.drop,nS.take]
theorem avD(S:mM C U J a w){l h:Int}(ht:oR C.P t=true)(hl:Ca J 0 lo=some l)(hh:Ca J s.size hi=some h)(hb:0<=l/\l<=h/\h<=s.size):
 (aU t (.string s) (lo.map a.eval) (hi.map a.eval) none).run C.P w=.ok (.string (s.extract l.toNat h.toNat)) w:=by
 have hu:C.P.underlying t=some .string:=by
  grind [oR]
 have hbs:=YX S (s:=false) (mx:=none) (cap:=s.size) (m:=s.size) hl hh rfl (by omega) (av _) (by intro h;exact absurd rfl h);simp only[Option.map_none]at hbs;simp only[aU,aj,run_underlying hu,af,Instr.slice,Option.isSome_none,aH,if_false,hbs,aq]
end sound
section
variable {a:Act}
def anx(_S:mM C U J a w)(hl:J.heap[l]? =some (.Io s))(hn:s.size=n)(r:pg (C.env U J.heap w) (.lN l n) v):v=U l:=by
 obtain⟨_,_,h⟩:=r
 grind [qu.env,lZ]
def agc {base e:Nat}(h:w.ownsRowF base e 1 v n xs):∃b cap,v=.slice b n cap:=by
 rcases h.2 with⟨rfl,rfl⟩|⟨g,cap,cur,fz,rfl,_⟩
 ·exact⟨_,_,rfl⟩
 ·exact⟨_,_,rfl⟩
def asb(w:aJX)(t u ty e:aJ0)(i:TypeInfo)(ht:P.underlying t=some (.slice e))(hu:P.underlying u=some .string)(hi:P.info? e=some i)(hz:i.zero=some (.int .u8 0))
 (Vu:i.size=1) (hby:i.bytes=1) (v:aJW) (n:Nat) (xs:List aJW) (aat:w.ownsRowF 0 e 1 v n xs) (s:ByteArray) (h63:n+s.size<=maxLen) (axI:n+s.size<=140737488355328):
 ∃v' w',(am #[t,u] ty #[v,.string s]).run P w=.ok v' w'/\w'.ownsRowF 0 e 1 v' (n+s.size) (xs++aK s)/\w.grownBy w' v.ownBlock/\(s.size=0->v'=v)/\
  (∀k,v'.ownBlock=some k->v.ownBlock=some k\/w.heap.size<=k)/\tyk w w':=by
 obtain⟨v1,w1,h1,h2,h3,h4⟩:=bo (P:=P) w 0 t u ty e i ht hu hi hz Vu hby v n xs aat s h63 axI (bU _);refine⟨v1,w1,h1,h2,h3,?_⟩;rcases aat.2 with⟨rfl,rfl⟩|⟨g,cap,cur,fz,rfl,hbg,hg,hfz,hnc,hcm,hcs,amu⟩
 ·refine⟨fun h0=>h4.2 ⟨rfl,h0⟩,fun k hk=>.inr ?_,aiW (fun b hb=>h3.block b hb (by simp [Value.ownBlock]))⟩;obtain⟨v2,w2,k1,k2,_⟩:=bo (P:=P) w w.heap.size t u ty e i ht hu hi hz Vu hby (.slice none 0 0) 0 xs ⟨aat.1,.inl ⟨rfl,rfl⟩⟩ s h63 axI (av _);rw[h1]at k1;injection k1 with e1 e2
  subst e1 e2;exact(k2.lt k hk).1
 ·have aIW:cur.size=cap:=by simpa using hcs
  by_cases NS:n+s.size<=cap
  ·have hr:=Lib.run_append_room_stringF (P:=P) w t u ty e i ht hu hi Vu g n cap cur fz hg (by simpa using hfz) s NS (by omega);rw[h1]at hr;injection hr with e1 e2
   subst e1 e2;exact⟨fun h0=>by rw[h0,br],fun k hk=>.inl hk,aiD _ _ _⟩
  ·have holds:∀j u,xs[j]? =some u->w.cell? ((⟨g,0,none⟩:Addr).add j)=some u:=aat.cells (g:=g) rfl;have hxl:xs.length=n:=by simpa using aat.1
   simp only[maxLen]at h63;have hr:=Lib.run_append_grow_string (P:=P) (ty:=ty) w t u e i (.int .u8 0) ht hu hi hz ⟨g,0,none⟩ n cap xs (by rw[Vu];simpa using hxl) holds s (by omega) (by omega) (by rw[hby];exact growslice_fits (by omega) (by omega));rw[h1]at hr;injection hr with e1 e2
   subst e1 e2;refine⟨fun h0=>absurd NS (by omega),fun k hk=>.inr ?_,aeJ _ rfl⟩;simp only[Value.ownBlock,ai]at hk;omega
def mM.auC(S:mM C U J a w){s':ByteArray}(hl:J.heap[l]? =some (.Io s))(hys:s.size<s'.size\/(h'=U l/\s'.size=s.size))
 (aat:w'.ownsRowF 0 Kw 1 h' s'.size (aK s')) (hg:w.grownBy w' (U l).ownBlock) (Fi:∀k,h'.ownBlock=some k->(U l).ownBlock=some k\/w.heap.size<=k) (hty:tyk w w'):
 mM C (fun k=>if k=l then h' else U k) {J with heap:=J.heap.set l (.Io s')} a w':=by
 have mR:l<J.heap.length:=(ak.1 hl).1
 let U':Nat->aJW:=fun k=>if k=l then h' else U k
 have hφl:U' l=h':=by simp [U']
 have hφk:∀k,k≠l->U' k=U k:=fun k hk=>by simp [U',hk]
 have nA:∀(k:Nat)(x:jT),(J.heap.set l (.Io s'))[k]? =some x->(k=l/\x=.Io s')\/(k≠l/\J.heap[k]? =some x):=by
  grind
 have aFx:w.ownsRowF 0 Kw 1 (U l) s.size (aK s):=S.nX l _ hl;obtain⟨b0,c0,hsl⟩:=agc aFx;have aHF:∀a,U l≠ .pointer a:=by intro a;rw[hsl];simp
 have aFs:hdl (U l)=none:=by rw[hsl];rfl
 have Iq:∀b,b<w.heap.size-> ¬ (U l).ownBlock=some b->w'.heap[b]? =w.heap[b]? :=fun b hb hn=>hg.block b hb (fun e=>hn e.symm)
 have L0:∀b o,F8 U' (J.heap.set l (.Io s')) b o->F8 U J.heap b o\/w.heap.size<=b:=by
  rintro b o ⟨k,x,hx,hm⟩;rcases nA k x hx with⟨rfl,rfl⟩|⟨sA,hx⟩
  ·rw[hφl]at hm;exact(Fi b hm).imp (fun h=>⟨k,_,hl,h⟩) id
  ·rw[hφk k sA]at hm;exact .inl ⟨k,x,hx,hm⟩
 have le:(C.env U J.heap w).Le J.heap.length (C.env U' (J.heap.set l (.Io s')) w'):=by
  refine⟨by simp [qu.env],fun k hk=>?_,fun b o u hm hc=>?_,hty⟩
  ·grind [qu.env,lZ]
  ·have hb:=FI hc;simp only[qu.env]at hb hm hc ⊢;refine⟨fun h=>?_,?_⟩
   ·grind
   ·rw[<-hc];simp only[World.cell?];rw[Iq b hb (fun h=>hm (.inl ⟨l,_,hl,h⟩))]
 have BM:sQ C U' (J.heap.set l (.Io s')) w' J.df a.defers:=by
  refine S.defers.step le (fun b hb hno=>Iq b hb (hno l _ hl)) (fun k x b hx hb=>?_);rcases nA k x hx with⟨rfl,rfl⟩|⟨sA,hx⟩
  ·rw[hφl]at hb;exact(Fi b hb).imp (fun h=>⟨k,_,hl,h⟩) id
  ·rw[hφk k sA]at hb;exact .inl ⟨k,x,hx,hb⟩
 refine {jV:=ko.mono le _ _ (ko.nb _ _ S.jV) S.jV,defers:=BM,nX:=?_,apart:=?_,tW:=?_,size:=bc S.size hg.size,F9:=?_,nM:=?_,Ce:=?_,wS:=?_,rest:=⟨by rw[hg.output];exact S.rest.1,by rw[hg.os];exact S.rest.2⟩,low:=⟨S.low.1,by simpa using S.low.2⟩,lR:=?_}
 ·intro k x hx;rcases nA k x hx with⟨rfl,rfl⟩|⟨sA,hx⟩
  ·show n8 _ (.Io s') (U' k);rw[hφl];exact aat
  ·have r0:=S.nX k x hx;show n8 _ x (U' k);rw[hφk k sA];refine n8.mono r0 le (fun b hb=>Iq b (r0.qH hb) (fun h=>?_));exact sA (S.apart k l x _ b hx hl hb h)
 ·intro k k' x x' b hx Dt hb qR;have hb:x.block (U' k) b:=hb;have qR:x'.block (U' k') b:=qR;rcases nA k x hx with⟨rfl,rfl⟩|⟨sA,Vr⟩<;>rcases nA k' x' Dt with⟨rfl,rfl⟩|⟨ak3,RC⟩
  ·rfl
  ·rw[hφl]at hb;rw[hφk k' ak3]at qR;rcases Fi b hb with h|h
   ·exact S.apart k k' _ x' b hl RC h qR
   ·have:=(S.nX k' x' RC).qH qR;simp only[qu.env]at this;omega
  ·rw[hφl]at qR;rw[hφk k sA]at hb;rcases Fi b qR with h|h
   ·exact S.apart k k' x _ b Vr hl hb h
   ·have:=(S.nX k x Vr).qH hb;simp only[qu.env]at this;omega
  ·rw[hφk k sA]at hb;rw[hφk k' ak3]at qR;exact S.apart k k' x x' b Vr RC hb qR
 ·intro k x b o hx hb;have hb:x.block (U' k) b:=hb;rcases nA k x hx with⟨rfl,rfl⟩|⟨sA,Vr⟩
  ·rw[hφl]at hb;rcases Fi b hb with h|h
   ·exact S.tW k _ b o hl h
   ·intro hA;have:=C.hA _ _ hA;have:=S.size;omega
  ·rw[hφk k sA]at hb;exact S.tW k x b o Vr hb
 ·intro b o hb hm;have:=Iq b (aa hb S.size) (fun h=>hm (S.Ce l _ b o hl h hb));rw[<-S.F9 b o hb hm];simp only[World.cell?,this]
 ·intro b hb hm;rw[Iq b (aa hb S.size) (fun h=>hm 0 (S.Ce l _ b 0 hl h hb))];exact S.nM b hb hm
 ·intro k x b o hx hm hb;have hm:x.AT (U' k) b o:=hm;rcases nA k x hx with⟨rfl,rfl⟩|⟨sA,Vr⟩
  ·rw[hφl]at hm;rcases Fi b hm with h|h
   ·exact S.Ce k _ b o hl h hb
   ·have:=S.size;omega
  ·rw[hφk k sA]at hm;exact S.Ce k x b o Vr hm hb
 ·intro x hx hm0;rw[<-S.wS x hx hm0];have:=Iq x.block (aa hx S.size) (fun h=>hm0 0 (S.Ce l _ _ 0 hl h hx));simp only[World.frozen?,this]
 ·intro k hk;have:=S.lR k hk
  grind [lZ]
def mM.aFy(S:mM C U J a w):mM C (fun k=>if k=J.heap.length then .slice none 0 0 else U k) {J with heap:=J.heap++[.Io ar]} a w/\
 (C.env U J.heap w).Le J.heap.length (C.env (fun k=>if k=J.heap.length then .slice none 0 0 else U k) (J.heap++[.Io ar]) w):=by
 let U':Nat->aJW:=fun k=>if k=J.heap.length then .slice none 0 0 else U k
 have hφ:∀l,l<J.heap.length->U' l=U l:=fun l hl=>by grind
 have hn:U' J.heap.length=.slice none 0 0:=by simp [U']
 have nA:∀(l:Nat)(x:jT),(J.heap++[.Io ar])[l]? =some x->(l<J.heap.length/\J.heap[l]? =some x)\/(l=J.heap.length/\x=.Io ar):=by
  grind
 have hno:∀b,¬ (jT.Io ar).block (.slice none 0 0) b:=by
  intro b h;cases h
 have L0:∀b o,F8 U' (J.heap++[.Io ar]) b o->F8 U J.heap b o:=by
  rintro b o ⟨l,x,hx,hm⟩;rcases nA l x hx with⟨hl,hx⟩|⟨rfl,rfl⟩
  ·rw[hφ l hl]at hm;exact⟨l,x,hx,hm⟩
  ·rw[hn]at hm;exact absurd (jT.nV hm) (hno b)
 have le:(C.env U J.heap w).Le J.heap.length (C.env U' (J.heap++[.Io ar]) w):=by
  refine qu.CG (by simp) (fun l hl=>⟨hφ l hl,by rw[ax hl]⟩) (fun b i u hm hc=>⟨fun h=>hm (h.imp (L0 b i) id),hc⟩)
 have HZ:∀(l:Nat)(x:jT)(b:Nat),(J.heap++[.Io ar])[l]? =some x->x.block (U' l) b->l<J.heap.length/\J.heap[l]? =some x/\x.block (U l) b:=by
  intro l x b hx hb;rcases nA l x hx with⟨hl,hx⟩|⟨rfl,rfl⟩
  ·rw[hφ l hl]at hb;exact⟨hl,hx,hb⟩
  ·rw[hn]at hb;exact absurd hb (hno b)
 have BM:sQ C U' (J.heap++[.Io ar]) w J.df a.defers:=by
  refine S.defers.step le (fun b hb _=>rfl) (fun l x b hx hb=>?_);obtain⟨_,h2,h3⟩:=HZ l x b hx hb;exact .inl ⟨l,x,h2,h3⟩
 refine⟨?_,le⟩;refine {jV:=ko.mono le _ _ (ko.nb _ _ S.jV) S.jV,defers:=BM,nX:=?_,apart:=?_,tW:=?_,size:=S.size,F9:=S.F9,nM:=S.nM,Ce:=?_,wS:=S.wS,rest:=S.rest,low:=⟨S.low.1,by have:=S.low.2;simp;omega⟩,lR:=?_}
 ·intro l x hx;show n8 _ x (U' l);rcases nA l x hx with⟨hl,hx⟩|⟨rfl,rfl⟩
  ·rw[hφ l hl];exact n8.mono (S.nX l x hx) le (fun _ _=>rfl)
  ·rw[hn];exact World.ownsRowF_nil w 0 Kw 1
 ·intro l l' x x' b hx Dt hb qR;obtain⟨_,h2,h3⟩:=HZ l x b hx hb;obtain⟨_,h2',h3'⟩:=HZ l' x' b Dt qR;exact S.apart l l' x x' b h2 h2' h3 h3'
 ·intro l x b o hx hb;obtain⟨_,h2,h3⟩:=HZ l x b hx hb;exact S.tW l x b o h2 h3
 ·intro l x b o hx hm hb;obtain⟨h1,h2,_⟩:=HZ l x b hx (jT.nV hm);have hm:x.AT (U' l) b o:=hm;rw[hφ l h1]at hm;exact S.Ce l x b o h2 hm hb
 ·intro l hl;have mR:l<J.heap.length:=by have:=S.low;omega
  have:=S.lR l hl
  grind
theorem ahQ(s u:ByteArray):aK (s++u)=aK s++aK u:=by
 simp [aK]
def ak7(S:mM C U J a w){u e:aJ0}{sz bytes:Nat}(ht:lv C.P t=some (e,sz,bytes))(hc:ant C.P=true/\oR C.P u=true)
 (h:acg J e x s=some ef) (hp:ef.pre) (rx:pg (C.env U J.heap w) x vx):
 ∃v w' U',(am #[t,u] ty #[vx,.string s]).run C.P w=.ok v w'/\mM C U' (J.app dst ef) (a.put dst v) w':=by
 obtain⟨hut,i,hi,rfl,rfl⟩:=Kz ht;unfold acg at h;split at h
 ·rename_i l n;split at h
  ·rename_i s0 hl;split at h
   ·rename_i hcn;obtain⟨hn,he⟩:=hcn;subst he;cases h;have hv:=anx S hl hn rx;subst hv;have hb:=hc.1;unfold ant at hb;rw[hi]at hb;simp only[aS,beq_iff_eq]at hb;obtain⟨⟨hz,hs1⟩,hb1⟩:=hb
    have aFz:i.zero=some (.int .u8 0):=by
     revert hz;split
     ·intro _;assumption
     ·intro h;cases h
    have hus:C.P.underlying u=some .string:=by have:=hc.2;grind [oR]
    have hp:(s0.size+s.size)*1<=2 ^ 44:=hp;have hp':s0.size+s.size<=17592186044416:=by omega
    obtain⟨v',w',h1,h2,h3,h4,h5,h6⟩:=asb (P:=C.P) w t u ty Kw i hut hus hi aFz hs1 hb1 (U l) s0.size _ (S.nX l _ hl) s (by simp only[maxLen];omega) (by omega);have hsz:(s0++s).size=s0.size+s.size:=by simp
    have mR:l<J.heap.length:=(ak.1 hl).1
    have S2:=S.auC (s':=s0++s) (w':=w') (h':=v') hl (by
     rw[hsz];rcases Nat.eq_zero_or_pos s.size with h0|h0
     ·exact .inr ⟨h4 h0,by omega⟩
     ·exact .inl (by omega)) (by rw[hsz,ahQ];exact h2) h3 h5 h6
    refine⟨v',w',(fun k=>if k=l then v' else U k),h1,?_⟩
    have:=S2.put dst (x:=.lN l (s0.size+s.size)) (v:=v') ⟨by simpa [qu.env] using mR,by
     obtain⟨b,c,e⟩:=agc h2;exact⟨_,_,_,e⟩,fun k hk=>by
     grind [qu.env,lZ]⟩
    rw[aga];exact this
   ·cases h
  ·cases h
 ·cases h
end
section sound
variable {a:Act}
def ao8{op:BinOp}{oy:aJV}{r:AV}{vy:aJW}(h:amh op x y=some r)(rx:pg E x vx)(ry:pg E y vy):
 ∃v,(do eqGuard op t ox oy vx vy;binOp op t vx vy:Sem aJW).run C.P w=.ok v w/\pg E r v:=by
 unfold amh at h;split at h
 ·rename_i k m k' n;simp only[pg]at rx ry;subst rx ry;split at h
  ·cases h
  ·rename_i hk;have RB:k=k':=by simpa using hk
   subst RB
   have hg:(eqGuard op t ox oy (.int k m) (.int k n)).run C.P w=.ok () w:=by
    unfold eqGuard;split<;>rfl
   cases op with
   |quo=>
    simp only at h;split at h
    ·cases h
    ·rename_i hz;cases h;exact⟨_,by simp [hg,binOp,Op.intDiv,hz],rfl⟩
   |rem=>
    simp only at h;split at h
    ·cases h
    ·rename_i hz;cases h;exact⟨_,by simp [hg,binOp,Op.intDiv,hz],rfl⟩
   |and=>cases h;exact⟨_,by simp only[aj,hg,af,binOp];rw[if_neg hk];rfl,rfl⟩
   |or=>cases h;exact⟨_,by simp only[aj,hg,af,binOp];rw[if_neg hk];rfl,rfl⟩
   |xor=>cases h;exact⟨_,by simp only[aj,hg,af,binOp];rw[if_neg hk];rfl,rfl⟩
   |andNot=>cases h;exact⟨_,by simp only[aj,hg,af,binOp];rw[if_neg hk];rfl,rfl⟩
   |_=>simp at h<;>subst h<;>refine⟨_,?_,rfl⟩<;>simp [hg,binOp,Op.intArith,Op.intCmp]
 ·rename_i s u;simp only[pg]at rx ry;subst rx ry
  have hg:(eqGuard op t ox oy (.string s) (.string u)).run C.P w=.ok () w:=by
   unfold eqGuard;split<;>rfl
  cases op with
  |add=>
   simp only at h;split at h
   ·rename_i hz;cases h
    have hz': ¬ ((s.size+u.size:Nat):Int)>IntKind.i64.max:=by
     have:IntKind.i64.max=9223372036854775807:=by decide
     rw[this];omega
    exact⟨_,by simp_all [binOp,Op.stringOp],rfl⟩
   ·cases h
  |_=>simp at h<;>subst h<;>refine⟨_,?_,rfl⟩<;>simp [hg,binOp,Op.stringOp]
 ·cases h
def amv(h:tbl P t=true):P.underlying t=some .bool:=by
 grind [tbl]
def amw{op:BinOp}{oy:aJV}{p q:Bool}:(eqGuard op t ox oy (.bool p) (.bool q)).run P w=.ok () w:=by
 unfold eqGuard;split<;>rfl
def aDy{p q:Bool}(h:tbl P t=true):(binOp .eql t (.bool p) (.bool q)).run P w=.ok (.bool (p==q)) w:=by
 simp_all [run_equal_bool,amv,binOp]
def aDz{p q:Bool}(h:tbl P t=true):(binOp .neq t (.bool p) (.bool q)).run P w=.ok (.bool (!(p==q))) w:=by
 simp_all [run_equal_bool,amv,binOp]
def avE(S:mM C U J a w){o:Obj}(ho:∀c t lo hi,o=.cells c t (lo,hi)->lo=0/\hi=0)
 (hr:r=.ok (.value v) (World.more w o)) (rep:pg (C.env U J.heap (World.more w o)) x v):Ag C J a w dst r {val:=x,rd,pre:=p}:=by
 refine⟨.value v,v,_,U,hr,.inl rfl,?_⟩;rw[KA];exact(S.more o ho).put dst rep
def amx(S:mM C U J a w)(hr:r=.ok (.value (.pointer (some ⟨w.heap.size,0,none⟩))) (World.more w (.cells c t)))
 (rep:ko (C.env U J.heap w) cs c.toList) (h1:∀u∈c.toList,u.oneCell'=true):Ag C J a w dst r {val:=.ptr J.heap.length 0,rd,nw:=[.cells cs],pre:=p}:=by
 obtain⟨S',le⟩:=S.name c t rep h1;refine⟨_,_,_,(fun l=>if l=J.heap.length then .pointer (some ⟨w.heap.size,0,none⟩)else U l),hr,.inl rfl,?_⟩;rw[agb];exact S'.put dst ⟨by simp [qu.env],w.heap.size,by simp [qu.env],rfl⟩
theorem aAp(J:jJ)(dst:Option Tmp)(x:AV)(o p:jT):J.app dst {val:=x,nw:=[o,p]}=jJ.put {J with heap:=(J.heap++[o])++[p]} dst x:=by
 cases dst<;>simp [jJ.app,mh,jJ.put]
def ai6(S:mM C U J a w)(hr:r= .ok (.value (.pointer (some ⟨w.heap.size,0,none⟩))) (World.more w (.cells c t)))
 (aDA:ko (C.env U J.heap w) cs c.toList) (h1:∀u∈c.toList,u.oneCell'=true):Ag C J a w dst r (Ky t J.heap.length cs):=by
 unfold Ky;cases hb:aeI t with
 |false=>exact amx S hr aDA h1
 |true=>
  rw[jy];split
  ·rename_i rs;obtain⟨v0,q,hc,e0,v1,vs,rfl,e1,e2⟩:=aDA;simp only[pg]at e0 e1;obtain⟨S1,le1⟩:=S.aFy
   obtain⟨S',le⟩:=S1.aC4 (cs:=.sn t (J.heap.length+1)::.lN J.heap.length 0::rs) c t (fun le=>by
    rw[hc];refine⟨v0,v1::vs,rfl,⟨by simp [qu.env],w.heap.size,by simp [qu.env],.inl e0,c,(0,0),Ir w _⟩,v1,vs,rfl,⟨by simp [qu.env],⟨none,0,0,e1⟩,fun k hk=>?_⟩,?_⟩
    ·have hk:k=0:=by
      simp [qu.env,lZ]at hk;rw[<-hk]
     exact⟨by omega,fun _=>by rw[e1];simp [qu.env]⟩
    ·have r1:=ko.mono le1 _ _ (ko.nb _ _ e2) e2;exact ko.mono le _ _ (ko.nb _ _ r1) r1) h1
   refine⟨_,_,_,(fun l=>if l=(J.heap++[jT.Io ar]).length then .pointer (some ⟨w.heap.size,0,none⟩)else if l=J.heap.length then .slice none 0 0 else U l),hr,.inl rfl,?_⟩;rw[aAp];refine S'.put dst ⟨by simp [qu.env],w.heap.size,by simp [qu.env],rfl⟩
  ·exact amx S hr aDA h1
def acj(h:oR P t=true):P.underlying t=some .string:=by
 grind [oR]
def anz(h:aiZ P t=some k):P.underlying t=some (.int k):=by
 grind [aiZ]
def ai7(h:(lv P t).isSome=true):∃e,P.underlying t=some (.slice e):=by
 obtain⟨⟨e,sz,b⟩,hx⟩:=Option.isSome_iff_exists.1 h;exact⟨e,(Kz hx).1⟩
def avF(S:mM C U J a w)(h:amk C.P J t x=some ef)(rx:pg (C.env U J.heap w) x v):
 ∃y rd,ef={val:=y,rd}/\∃u,(bf #[t] ty #[v]).run C.P w=.ok u w/\pg (C.env U J.heap w) y u:=by
 unfold amk at h;split at h
 ·split at h
  ·rename_i ht;cases h;simp only[pg]at rx;subst rx;exact⟨_,_,rfl,_,by simp [bf,run_underlying (acj ht)];rfl,rfl⟩
  ·cases h
 ·split at h
  ·rename_i ht;obtain⟨e,hu⟩:=ai7 ht;cases h;obtain⟨b,cap,rfl,_⟩:=rx;exact⟨_,_,rfl,_,by simp [bf,run_underlying hu];rfl,rfl⟩
  ·cases h
 ·split at h
  ·rename_i ht;obtain⟨e,hu⟩:=ai7 ht;split at h
   ·rename_i hl;split at h
    ·rename_i hn;cases h;have hv:=ND S hl hn rx;subst hv;obtain⟨b,cap,hh,_⟩:=S.nX _ _ hl;refine⟨_,_,rfl,.int .i64 _,?_,rfl⟩;rw[hh,<-hn];simp [bf,run_underlying hu];rfl
    ·cases h
   ·rename_i hl;split at h
    ·rename_i hn;cases h;have hv:=anx S hl hn rx;subst hv;obtain⟨b,cap,hh⟩:=agc (S.nX _ _ hl);refine⟨_,_,rfl,.int .i64 _,?_,rfl⟩;rw[hh,<-hn];simp [bf,run_underlying hu];rfl
    ·cases h
   ·cases h
  ·cases h
 ·cases h
theorem ahR(S:mM C U J a w){e:aJ0}{sz bytes:Nat}{n:Int}(ht:lv C.P t=some (e,sz,bytes))(hz:lI C.P e=some z)
 (hc:z.length=sz/\0<sz/\0<=n) (NS:room n.toNat bytes/\n<2 ^ 62):
 Ag C J a w dst ((do pure (.value (<-bg t (.int .i64 n) (.int .i64 n))):Sem Next).run C.P w)
  {val:=.lN J.heap.length n.toNat,rd,nw:=[.lN false sz (an n.toNat z)],pre:=p}:=by
 obtain⟨hu,i,hi,rfl,rfl⟩:=Kz ht;obtain⟨zv,hzr,axy,aFr⟩:=af7 (w:=w) hz;have hzl:zv.cells.size=i.size:=by have:=(axy (C.env U J.heap w)).length;simp at this;omega
 have aC5:IntKind.i64.wrap n=n:=by
  grind [IntKind.wrap,IntKind.bits]
 have hti:(typeInfo e).run C.P w=.ok i w:=by simp [typeInfo,hi]
 have hsz:(sizeOf e).run C.P w=.ok i.size w:=by simp [sizeOf,typeInfo,hi]
 have hb:(i.bytes:Int)*n<=2 ^ 44:=by
  grind [room]
 have ui:ko (C.env U J.heap w) (an n.toNat z).flatten ((bl (n.toNat*i.size)).map (fun j=>(if n.toNat*i.size=0 then(#[]:Array aJW)else zv.cells)[j % (if n.toNat*i.size=0 then(#[]:Array aJW)else zv.cells).size]!)).toList:=by
  grind [aeN,DN]
 have zf:∀u∈((bl (n.toNat*i.size)).map (fun j=>(if n.toNat*i.size=0 then(#[]:Array aJW)else zv.cells)[j % (if n.toNat*i.size=0 then(#[]:Array aJW)else zv.cells).size]!)).toList,u.oneCell'=true:=by
  grind [aeN,List.mem_flatten]
 generalize agd:(bl (n.toNat*i.size)).map (fun j=>(if n.toNat*i.size=0 then(#[]:Array aJW)else zv.cells)[j % (if n.toNat*i.size=0 then(#[]:Array aJW)else zv.cells).size]!)=c at ui zf
 have hzs:∀r∈an n.toNat z,r.length=i.size:=by
  grind
 have aHJ:c.size=n.toNat*i.size:=by
  grind
 have amu:(c.toList.drop 0).take (n.toNat*i.size)=c.toList:=by
  grind [bi]
 have S':=S.Xs (tN:=false) (sz:=i.size) (rows:=an n.toNat z) (w':=World.more w (.cells c e)) (h':=.slice (some ⟨w.heap.size,0,none⟩) n.toNat n.toNat) (by simp) (fun b hb=>yO w _ hb)
  (wU w _ (by grind)) ⟨rfl,rfl⟩ (by
    rintro b ⟨rfl,_⟩;exact av _) (by
    intro E' le hw;refine⟨some ⟨w.heap.size,0,none⟩,n.toNat,by rw[bI],by grind,by simp,hzs,?_⟩;intro a0 ha _;simp only[ai]at ha;subst ha;refine⟨rfl,c,e,by rw[hw];exact Ir w _,by rw[aHJ];simp,?_,?_⟩
    ·rw[bI,amu];exact ko.mono le _ _ (ko.nb _ _ ui) ui
    grind)
 have S2:=S'.put dst (x:=.lN J.heap.length n.toNat) (v:=.slice (some ⟨w.heap.size,0,none⟩) n.toNat n.toNat) ⟨by simp [qu.env],⟨_,_,_,rfl⟩,fun k hk=>by
  grind [qu.env,lZ]⟩
 have uz:((do pure (.value (<-bg t (.int .i64 n) (.int .i64 n))):Sem Next).run C.P w)=.ok (.value (.slice (some ⟨w.heap.size,0,none⟩) n.toNat n.toNat)) (World.more w (.cells c e)):=by
  have h1: ¬ (((n<0\/(i.bytes:Int)*n>2 ^ 48)\/n<0)\/n>n):=by omega
  by_cases h0:n.toNat*i.size=0
  ·simp only[h0,jE]at agd;simp only[bg,aj,run_underlying hu,af,asInt,asIntOf,aq,hti,aC5,jD,Bool.or_eq_true,h1,if_false,run_askRoom,hsz,h0,jE,newRow,run_newObj];rw[agd];rfl
  ·simp only[h0,if_false]at agd;simp only[bg,aj,run_underlying hu,af,asInt,asIntOf,aq,hti,aC5,jD,Bool.or_eq_true,h1,if_false,run_askRoom,hsz,h0,hzr,newRow,run_newObj];rw[agd];rfl
 rw[<-agb J dst _ rd _ p]at S2;exact⟨_,_,_,_,uz,.inl rfl,S2⟩
theorem aeO(S:mM C U J a w){e:aJ0}{len sz bytes:Nat}{tN:Bool}(ht:lv C.P t=some (e,sz,bytes))
 (hz:lI C.P e=some z) (hl:z.length=sz/\len*sz<=16777216) (hf:Xn sz (an len z) (parts.toList.map fun p=>(p.1,J.ev p.2))=some rows):
 Ag C J a w dst ((do pure (.value (<-aL t len (parts.map fun(i,x)=>(i,a.eval x)))):Sem Next).run C.P w)
  {val:=.lN J.heap.length rows.length,nw:=[.lN tN sz rows]}:=by
 obtain⟨us,uz,hr,zf,hlen,h3,axx⟩:=aan S ht hz hl hf;have hsz:us.size=len*sz:=by simpa using axx
 have amu:(us.toList.drop 0).take (rows.length*sz)=us.toList:=by
  grind
 have S':=S.Xs (tN:=tN) (sz:=sz) (rows:=rows) (w':=World.more w (.cells us e)) (h':=.slice (some ⟨w.heap.size,0,none⟩) len len) (by simp) (fun b hb=>yO w _ hb)
  (wU w _ (by grind)) ⟨rfl,rfl⟩ (by
    rintro b ⟨rfl,_⟩;exact av _) (by
    intro E' le hw;refine⟨some ⟨w.heap.size,0,none⟩,len,by rw[hlen],by omega,by simp,h3,?_⟩;intro a0 ha _;simp only[ai]at ha;subst ha;refine⟨rfl,us,e,by rw[hw];exact Ir w _,by rw[hsz];simp,?_,?_⟩
    ·rw[amu];exact ko.mono le _ _ (ko.nb _ _ hr) hr
    ·rw[amu];exact zf)
 have S2:=S'.put dst (x:=.lN J.heap.length rows.length) (v:=.slice (some ⟨w.heap.size,0,none⟩) len len) ⟨by simp [qu.env],⟨_,_,_,rfl⟩,fun k hk=>by
  grind [qu.env,lZ]⟩
 have aFA:((do pure (.value (<-aL t len (parts.map fun(i,x)=>(i,a.eval x)))):Sem Next).run C.P w)=.ok (.value (.slice (some ⟨w.heap.size,0,none⟩) len len)) (World.more w (.cells us e)):=by
  simp_all
 rw[<-agb J dst _ [] _ True]at S2;exact⟨_,_,_,_,aFA,.inl rfl,S2⟩
def Ag.of_eq {r':Result Next}{e:vW}(h:r=r')(d:Ag C J a w dst r' e):Ag C J a w dst r e:=h ▸ d
def aAq{f:W->O}{l:List W}{x:O}(h:l.map f=[x]):∃y,l=[y]/\f y=x:=by
 simp_all
def anA{f:W->O}{l:List W}{x x':O}(h:l.map f=[x,x']):∃y y',l=[y,y']/\f y=x/\f y'=x':=by
 cases l with
 |nil=>simp at h
 |cons y l=>cases l with
  |nil=>simp at h
  |cons z l=>cases l with
   |nil=>grind
   |cons _ _=>simp at h
def ak8(S:mM C U J a w){b:Builtin}{args:Array aJV}{ts:Array aJ0}{e:vW}(ho:o.op= .call {callee:= .builtin b,args,argTypes:=ts})
 (h:MV C.P J b args.toList ts.toList (args.toList.map J.ev)=some e) (hp:e.pre):Ag C J a w o.dst ((execOp a.eval o).run C.P w) e:=by
 obtain⟨ts,rfl⟩:∃l:List aJ0,ts=l.toArray:=⟨ts.toList,by simp⟩;obtain⟨args,rfl⟩:∃l:List aJV,args=l.toArray:=⟨args.toList,by simp⟩;simp only at h
 have uz:(execOp a.eval o).run C.P w=(builtin b ts.toArray o.type (args.toArray.map fun|.const _=>true|_=>false) (args.toArray.map a.eval)).run C.P w:=by
  grind [execOp,resolve,invoke]
 refine Ag.of_eq uz ?_;unfold MV at h;split at h
 ·rename_i t x hx;obtain⟨ox,rfl,rfl⟩:=aAq hx;obtain⟨y,rd,rfl,hv⟩:=avF (ty:=o.type) S h (S.ev ox)
  grind [kY,builtin]
 ·rename_i t u x y hx;obtain⟨ox,oy,rfl,rfl,rfl⟩:=anA hx;split at h
  ·rename_i et sz bytes ht hu;split at h
   ·rename_i z hz;split at h
    ·rename_i hc;by_cases hy:∃s0,J.ev oy=.str s0
     ·obtain⟨s0,hu'⟩:=hy;rw[hu']at h;simp only[Qm]at h;split at h
      ·have hv:=S.ev oy;rw[hu']at hv;have hv:a.eval oy=.string s0:=hv;obtain⟨v,w',U',hr,hS⟩:=ak7 (u:=u) (dst:=o.dst) (ty:=o.type) S ht (by assumption) h hp (S.ev ox);refine⟨.value v,v,w',U',?_,.inl rfl,hS⟩;simp [builtin,hr,hv]
      ·cases h
     rw[ahf hy]at h;obtain⟨v,w',U',hr,hS⟩:=anw (dst:=o.dst) (ty:=o.type) S ht hu hz hc h hp (S.ev ox) (S.ev oy);refine⟨.value v,v,w',U',?_,.inl rfl,hS⟩;simp [builtin,hr]
    ·cases h
   ·cases h
  ·cases h
 ·rename_i t u k m k' n hx;obtain⟨ox,oy,rfl,Vr,RC⟩:=anA hx;have r1:=S.ev ox;have r2:=S.ev oy;rw[Vr]at r1;rw[RC]at r2;simp only[pg]at r1 r2;cases h;refine Ag.of_eq ?_ (kY (rd:=[]) (p:=True) (m:=pure (.int k (if n>m then n else m))) S ⟨_,rfl,rfl⟩);simp [builtin,Builtin.max_,r1,r2,Builtin.max2]
 ·rename_i t u k m k' n hx;obtain⟨ox,oy,rfl,Vr,RC⟩:=anA hx;have r1:=S.ev ox;have r2:=S.ev oy;rw[Vr]at r1;rw[RC]at r2;simp only[pg]at r1 r2;cases h;refine Ag.of_eq ?_ (kY (rd:=[]) (p:=True) (m:=pure (.int k (if n<m then n else m))) S ⟨_,rfl,rfl⟩);simp [builtin,Builtin.min_,r1,r2,Builtin.min2]
 ·cases h
theorem NT(S:mM C U J a w):∀xs:List aJV,ko (C.env U J.heap w) (xs.map J.ev) (xs.map a.eval)
 |[]=>rfl
 |x::xs=>⟨_,_,rfl,S.ev x,NT S xs⟩
end sound
open Go.MapKept
section
variable {a:Act}
def mM.aAr(S:mM C U J a w):
 mM C (fun l=>if l=J.heap.length then .map (some w.heap.size)else U l) {J with heap:=J.heap++[.map []]} a (World.more w (.map #[] 0)):=by
 let U':Nat->aJW:=fun l=>if l=J.heap.length then .map (some w.heap.size)else U l
 let w':=World.more w (.map #[] 0)
 have hφ:∀l,l<J.heap.length->U' l=U l:=fun l hl=>by grind
 have hφn:U' J.heap.length=.map (some w.heap.size):=by simp [U']
 have hsz:w'.heap.size=w.heap.size+1:=Qf _ _;have hold:∀b,b<w.heap.size->w'.heap[b]? =w.heap[b]? :=fun b hb=>yO _ _ hb
 have hL:w'.heap[w.heap.size]? =some (.map #[] 0):=Ir _ _
 have nA:∀(l:Nat)(x:jT),(J.heap++[.map []])[l]? =some x->(l<J.heap.length/\J.heap[l]? =some x)\/(l=J.heap.length/\x=.map []):=by
  grind
 have tO:∀b o,b<w.heap.size->w'.cell? ⟨b,o,none⟩=w.cell? ⟨b,o,none⟩:=by
  grind [World.cell?]
 have G9:∀b,(jT.map []).block (U' J.heap.length) b->w.heap.size<=b:=by
  intro b hb;rw[hφn]at hb;have hb:b=w.heap.size:=hb;omega
 have L0:∀b o,F8 U' (J.heap++[.map []]) b o->w.heap.size<=b\/F8 U J.heap b o:=by
  rintro b o ⟨l,x,hx,hm⟩;rcases nA l x hx with⟨hl,hx⟩|⟨rfl,rfl⟩
  ·rw[hφ l hl]at hm;exact .inr ⟨l,x,hx,hm⟩
  grind [jT.nV]
 have le:(C.env U J.heap w).Le J.heap.length (C.env U' (J.heap++[.map []]) w'):=by
  refine qu.CG (by simp) (fun l hl=>⟨hφ l hl,by rw[ax hl]⟩) (fun b i u hm hc=>?_)
  grind [FI]
 have BM:sQ C U' (J.heap++[.map []]) w' J.df a.defers:=by
  refine S.defers.step le (fun b hb _=>hold b hb) (fun l x b hx hb=>?_)
  grind
 refine {jV:=ko.mono le _ _ (ko.nb _ _ S.jV) S.jV,defers:=BM,nX:=?_,apart:=?_,tW:=?_,size:=by show _<=w'.heap.size;have:=S.size;omega,F9:=?_,nM:=?_,Ce:=?_,wS:=?_,rest:=S.rest,low:=⟨S.low.1,by have:=S.low.2;simp;omega⟩,lR:=?_}
 ·intro l x hx;show n8 _ x (U' l);rcases nA l x hx with⟨hl,hx⟩|⟨rfl,rfl⟩
  ·have r0:=S.nX l x hx;rw[hφ l hl];exact n8.mono r0 le (fun b hb=>hold b (r0.qH hb))
  ·rw[hφn];exact⟨w.heap.size,#[],0,rfl,hL,rfl⟩
 ·intro l l' x x' b hx Dt hb qR;have hb:x.block (U' l) b:=hb;have qR:x'.block (U' l') b:=qR;rcases nA l x hx with⟨hl,hx⟩|⟨rfl,rfl⟩<;>rcases nA l' x' Dt with⟨Xf,Dt⟩|⟨rfl,rfl⟩
  ·rw[hφ l hl]at hb;rw[hφ l' Xf]at qR;exact S.apart l l' x x' b hx Dt hb qR
  ·rw[hφ l hl]at hb;have h1:=(S.nX l x hx).qH hb
   grind [qu.env]
  ·rw[hφ l' Xf]at qR;have h1:=(S.nX l' x' Dt).qH qR
   grind [qu.env]
  ·rfl
 ·intro l x b o hx hb;have hb:x.block (U' l) b:=hb;rcases nA l x hx with⟨hl,hx⟩|⟨rfl,rfl⟩
  ·rw[hφ l hl]at hb;exact S.tW l x b o hx hb
  ·intro hA;have h1:=C.hA _ _ hA;have h2:=G9 b hb;have:=S.size;omega
 ·intro b i hb hm;rw[tO b i (aa hb S.size)];exact S.F9 b i hb hm
 ·intro b hb hm;rw[hold b (aa hb S.size)];exact S.nM b hb hm
 ·intro l x b o hx hm hb;have hm:x.AT (U' l) b o:=hm;rcases nA l x hx with⟨hl,hx⟩|⟨rfl,rfl⟩
  ·rw[hφ l hl]at hm;exact S.Ce l x b o hx hm hb
  ·have h2:=G9 b (jT.nV hm);have:=S.size;omega
 ·intro x hx hm0;exact(wU w (.map #[] 0) (by intro c t lo hi h;cases h) x).trans (S.wS x hx hm0)
 ·intro l hl;have mR:l<J.heap.length:=by have:=S.low;omega
  have:=S.lR l hl
  grind
def mM.axJ(S:mM C U J a w)(s:ByteArray):
 mM C (fun l=>if l=J.heap.length then .pointer (some ⟨w.heap.size,0,none⟩)else U l) {J with heap:=J.heap++[.iter s 0]} a (World.more w (.stringIter s 0)):=by
 let U':Nat->aJW:=fun l=>if l=J.heap.length then .pointer (some ⟨w.heap.size,0,none⟩)else U l
 let w':=World.more w (.stringIter s 0)
 have hφ:∀l,l<J.heap.length->U' l=U l:=fun l hl=>by grind
 have hφn:U' J.heap.length=.pointer (some ⟨w.heap.size,0,none⟩):=by simp [U']
 have hsz:w'.heap.size=w.heap.size+1:=Qf _ _;have hold:∀b,b<w.heap.size->w'.heap[b]? =w.heap[b]? :=fun b hb=>yO _ _ hb
 have hL:w'.heap[w.heap.size]? =some (.stringIter s 0):=Ir _ _
 have nA:∀(l:Nat)(x:jT),(J.heap++[.iter s 0])[l]? =some x->(l<J.heap.length/\J.heap[l]? =some x)\/(l=J.heap.length/\x=.iter s 0):=by
  grind
 have tO:∀b o,b<w.heap.size->w'.cell? ⟨b,o,none⟩=w.cell? ⟨b,o,none⟩:=by
  grind [World.cell?]
 have G9:∀b,(jT.iter s 0).block (U' J.heap.length) b->w.heap.size<=b:=by
  intro b hb;rw[hφn]at hb;have hb:b=w.heap.size:=hb;omega
 have L0:∀b o,F8 U' (J.heap++[.iter s 0]) b o->w.heap.size<=b\/F8 U J.heap b o:=by
  rintro b o ⟨l,x,hx,hm⟩;rcases nA l x hx with⟨hl,hx⟩|⟨rfl,rfl⟩
  ·rw[hφ l hl]at hm;exact .inr ⟨l,x,hx,hm⟩
  grind [jT.nV]
 have le:(C.env U J.heap w).Le J.heap.length (C.env U' (J.heap++[.iter s 0]) w'):=by
  refine qu.CG (by simp) (fun l hl=>⟨hφ l hl,by rw[ax hl]⟩) (fun b i u hm hc=>?_)
  grind [FI]
 have BM:sQ C U' (J.heap++[.iter s 0]) w' J.df a.defers:=by
  refine S.defers.step le (fun b hb _=>hold b hb) (fun l x b hx hb=>?_)
  grind
 refine {jV:=ko.mono le _ _ (ko.nb _ _ S.jV) S.jV,defers:=BM,nX:=?_,apart:=?_,tW:=?_,size:=by show _<=w'.heap.size;have:=S.size;omega,F9:=?_,nM:=?_,Ce:=?_,wS:=?_,rest:=S.rest,low:=⟨S.low.1,by have:=S.low.2;simp;omega⟩,lR:=?_}
 ·intro l x hx;show n8 _ x (U' l);rcases nA l x hx with⟨hl,hx⟩|⟨rfl,rfl⟩
  ·have r0:=S.nX l x hx;rw[hφ l hl];exact n8.mono r0 le (fun b hb=>hold b (r0.qH hb))
  ·rw[hφn];exact⟨w.heap.size,rfl,hL⟩
 ·intro l l' x x' b hx Dt hb qR;have hb:x.block (U' l) b:=hb;have qR:x'.block (U' l') b:=qR;rcases nA l x hx with⟨hl,hx⟩|⟨rfl,rfl⟩<;>rcases nA l' x' Dt with⟨Xf,Dt⟩|⟨rfl,rfl⟩
  ·rw[hφ l hl]at hb;rw[hφ l' Xf]at qR;exact S.apart l l' x x' b hx Dt hb qR
  ·rw[hφ l hl]at hb;have h1:=(S.nX l x hx).qH hb
   grind [qu.env]
  ·rw[hφ l' Xf]at qR;have h1:=(S.nX l' x' Dt).qH qR
   grind [qu.env]
  ·rfl
 ·intro l x b o hx hb;have hb:x.block (U' l) b:=hb;rcases nA l x hx with⟨hl,hx⟩|⟨rfl,rfl⟩
  ·rw[hφ l hl]at hb;exact S.tW l x b o hx hb
  ·intro hA;have h1:=C.hA _ _ hA;have h2:=G9 b hb;have:=S.size;omega
 ·intro b i hb hm;rw[tO b i (aa hb S.size)];exact S.F9 b i hb hm
 ·intro b hb hm;rw[hold b (aa hb S.size)];exact S.nM b hb hm
 ·intro l x b o hx hm hb;have hm:x.AT (U' l) b o:=hm;rcases nA l x hx with⟨hl,hx⟩|⟨rfl,rfl⟩
  ·rw[hφ l hl]at hm;exact S.Ce l x b o hx hm hb
  ·have h2:=G9 b (jT.nV hm);have:=S.size;omega
 ·intro x hx hm0;exact(wU w (.stringIter s 0) (by intro c t lo hi h;cases h) x).trans (S.wS x hx hm0)
 ·intro l hl;have mR:l<J.heap.length:=by have:=S.low;omega
  have:=S.lR l hl
  grind
def mM.axK(S:mM C U J a w){r:Nat}{es':List (AV×AV)}{xs xs':Array MapEntry}{cl cl':Nat}(hl:J.heap[l]? =some (.map es))(hφ:U l=.map (some r))
 (hw:w.heap[r]? =some (.map xs cl)) (hr:sP (C.env U J.heap w) es' xs'.toList):mM C U {J with heap:=J.heap.set l (.map es')} a (w.putObj r (.map xs' cl')):=by
 have mR:l<J.heap.length:=(ak.1 hl).1;have axL:=(aI.1 hw).1
 have nA:∀(j:Nat)(x:jT),(J.heap.set l (.map es'))[j]? =some x->(j=l/\x=.map es')\/(j≠l/\J.heap[j]? =some x):=by
  grind
 have hbb:(jT.map es).block (U l) r:=by rw[hφ];rfl
 have hmb:∀o,(jT.map es).AT (U l) r o:=by intro o;rw[hφ];rfl
 have DO:∀b,b≠r->(w.putObj r (.map xs' cl')).heap[b]? =w.heap[b]? :=fun b hb=>World.putObj_heap_other hb
 have tO:∀b o,(w.putObj r (.map xs' cl')).cell? ⟨b,o,none⟩=w.cell? ⟨b,o,none⟩:=by
  grind [World.cell?,World.putObj_heap_same]
 have HZ:∀b,(jT.map es').block (U l) b->(jT.map es).block (U l) b:=by intro b hb;rw[hφ]at hb ⊢;exact hb
 have ao9:∀b o,(jT.map es').AT (U l) b o->(jT.map es).AT (U l) b o:=by intro b o hb;rw[hφ]at hb ⊢;exact hb
 have L0:∀b o,F8 U (J.heap.set l (.map es')) b o->F8 U J.heap b o:=by
  rintro b o ⟨j,x,hx,hm⟩;rcases nA j x hx with⟨rfl,rfl⟩|⟨_,hx⟩
  ·exact⟨j,_,hl,ao9 b o hm⟩
  ·exact⟨j,x,hx,hm⟩
 have hlen:∀j:Nat,lZ (J.heap.set l (.map es'))[j]? =lZ J.heap[j]? :=by
  intro j;by_cases e:j=l
  ·subst e;rw[aP mR,hl];rfl
  grind
 have hty:tyk w (w.putObj r (.map xs' cl')):=anq hw (by intro c t fz h;cases h) DO
 have le:(C.env U J.heap w).Le J.heap.length (C.env U (J.heap.set l (.map es')) (w.putObj r (.map xs' cl'))):=
  qu.CG (by simp) (fun j _=>⟨rfl,hlen j⟩) (fun b o u hm hc=>⟨fun h=>hm (h.imp (L0 b o) id),by rw[tO];exact hc⟩)
 have BM:sQ C U (J.heap.set l (.map es')) (w.putObj r (.map xs' cl')) J.df a.defers:=by
  refine S.defers.step le (fun b _ hno=>DO b (fun e=>by subst e;exact hno l _ hl hbb)) (fun j x b hx hb=>?_)
  grind
 refine {jV:=ko.mono le _ _ (ko.nb _ _ S.jV) S.jV,defers:=BM,nX:=?_,apart:=?_,tW:=?_,size:=by rw[World.putObj_size];exact S.size,F9:=fun b o hb hm=>by rw[tO];exact S.F9 b o hb hm,nM:=?_,Ce:=?_,wS:=?_,rest:=S.rest,low:=⟨S.low.1,by simpa using S.low.2⟩,lR:=?_}
 ·intro j x hx;rcases nA j x hx with⟨rfl,rfl⟩|⟨sA,hx⟩
  ·exact⟨r,xs',cl',hφ,World.putObj_heap_same axL,sP.mono le (sP.nb hr) hr⟩
  ·exact n8.mono (S.nX j x hx) le (fun b hb=>DO b (fun e=>by subst e;exact sA (S.apart j l x _ b hx hl hb hbb)))
 ·intro j j' x x' b hx Dt hb qR;rcases nA j x hx with⟨rfl,rfl⟩|⟨sA,Vr⟩<;>rcases nA j' x' Dt with⟨e2,rfl⟩|⟨ak3,RC⟩
  ·exact e2.symm
  ·exact S.apart j j' _ x' b hl RC (HZ b hb) qR
  ·rw[e2]at qR ⊢;exact S.apart j l x _ b Vr hl hb (HZ b qR)
  ·exact S.apart j j' x x' b Vr RC hb qR
 ·intro j x b o hx hb;rcases nA j x hx with⟨rfl,rfl⟩|⟨_,hx⟩
  ·exact S.tW j _ b o hl (HZ b hb)
  ·exact S.tW j x b o hx hb
 ·intro b hb hm;rw[DO b (fun e=>by subst e;exact hm 0 (S.Ce l _ b 0 hl (hmb 0) hb))];exact S.nM b hb hm
 ·intro j x b o hx hm hb;rcases nA j x hx with⟨rfl,rfl⟩|⟨_,hx⟩
  ·exact S.Ce j _ b o hl (ao9 b o hm) hb
  ·exact S.Ce j x b o hx hm hb
 ·intro x hx hm0;rw[<-S.wS x hx hm0]
  grind [World.frozen?,World.putObj_heap_same]
 ·intro j hj;have:=S.lR j hj;rw[hlen j];exact this
def mM.aAs(S:mM C U J a w){r:Nat}{s':ByteArray}{p p':Nat}(hl:J.heap[l]? =some (.iter s p))(hφ:U l=.pointer (some ⟨r,0,none⟩))
 (hw:w.heap[r]? =some (.stringIter s p)):mM C U {J with heap:=J.heap.set l (.iter s' p')} a (w.putObj r (.stringIter s' p')):=by
 have mR:l<J.heap.length:=(ak.1 hl).1;have axL:=(aI.1 hw).1
 have nA:∀(j:Nat)(x:jT),(J.heap.set l (.iter s' p'))[j]? =some x->(j=l/\x=.iter s' p')\/(j≠l/\J.heap[j]? =some x):=by
  grind
 have hbb:(jT.iter s p).block (U l) r:=by rw[hφ];rfl
 have hmb:∀o,(jT.iter s p).AT (U l) r o:=by intro o;rw[hφ];rfl
 have DO:∀b,b≠r->(w.putObj r (.stringIter s' p')).heap[b]? =w.heap[b]? :=fun b hb=>World.putObj_heap_other hb
 have tO:∀b o,(w.putObj r (.stringIter s' p')).cell? ⟨b,o,none⟩=w.cell? ⟨b,o,none⟩:=by
  grind [World.cell?,World.putObj_heap_same]
 have HZ:∀b,(jT.iter s' p').block (U l) b->(jT.iter s p).block (U l) b:=by intro b hb;rw[hφ]at hb ⊢;exact hb
 have ao9:∀b o,(jT.iter s' p').AT (U l) b o->(jT.iter s p).AT (U l) b o:=by intro b o hb;rw[hφ]at hb ⊢;exact hb
 have L0:∀b o,F8 U (J.heap.set l (.iter s' p')) b o->F8 U J.heap b o:=by
  rintro b o ⟨j,x,hx,hm⟩;rcases nA j x hx with⟨rfl,rfl⟩|⟨_,hx⟩
  ·exact⟨j,_,hl,ao9 b o hm⟩
  ·exact⟨j,x,hx,hm⟩
 have hlen:∀j:Nat,lZ (J.heap.set l (.iter s' p'))[j]? =lZ J.heap[j]? :=by
  intro j;by_cases e:j=l
  ·subst e;rw[aP mR,hl];rfl
  grind
 have hty:tyk w (w.putObj r (.stringIter s' p')):=anq hw (by intro c t fz h;cases h) DO
 have le:(C.env U J.heap w).Le J.heap.length (C.env U (J.heap.set l (.iter s' p')) (w.putObj r (.stringIter s' p'))):=
  qu.CG (by simp) (fun j _=>⟨rfl,hlen j⟩) (fun b o u hm hc=>⟨fun h=>hm (h.imp (L0 b o) id),by rw[tO];exact hc⟩)
 have BM:sQ C U (J.heap.set l (.iter s' p')) (w.putObj r (.stringIter s' p')) J.df a.defers:=by
  refine S.defers.step le (fun b _ hno=>DO b (fun e=>by subst e;exact hno l _ hl hbb)) (fun j x b hx hb=>?_)
  grind
 refine {jV:=ko.mono le _ _ (ko.nb _ _ S.jV) S.jV,defers:=BM,nX:=?_,apart:=?_,tW:=?_,size:=by rw[World.putObj_size];exact S.size,F9:=fun b o hb hm=>by rw[tO];exact S.F9 b o hb hm,nM:=?_,Ce:=?_,wS:=?_,rest:=S.rest,low:=⟨S.low.1,by simpa using S.low.2⟩,lR:=?_}
 ·intro j x hx;rcases nA j x hx with⟨rfl,rfl⟩|⟨sA,hx⟩
  ·exact⟨r,hφ,World.putObj_heap_same axL⟩
  ·exact n8.mono (S.nX j x hx) le (fun b hb=>DO b (fun e=>by subst e;exact sA (S.apart j l x _ b hx hl hb hbb)))
 ·intro j j' x x' b hx Dt hb qR;rcases nA j x hx with⟨rfl,rfl⟩|⟨sA,Vr⟩<;>rcases nA j' x' Dt with⟨e2,rfl⟩|⟨ak3,RC⟩
  ·exact e2.symm
  ·exact S.apart j j' _ x' b hl RC (HZ b hb) qR
  ·rw[e2]at qR ⊢;exact S.apart j l x _ b Vr hl hb (HZ b qR)
  ·exact S.apart j j' x x' b Vr RC hb qR
 ·intro j x b o hx hb;rcases nA j x hx with⟨rfl,rfl⟩|⟨_,hx⟩
  ·exact S.tW j _ b o hl (HZ b hb)
  ·exact S.tW j x b o hx hb
 ·intro b hb hm;rw[DO b (fun e=>by subst e;exact hm 0 (S.Ce l _ b 0 hl (hmb 0) hb))];exact S.nM b hb hm
 ·intro j x b o hx hm hb;rcases nA j x hx with⟨rfl,rfl⟩|⟨_,hx⟩
  ·exact S.Ce j _ b o hl (ao9 b o hm) hb
  ·exact S.Ce j x b o hx hm hb
 ·intro x hx hm0;rw[<-S.wS x hx hm0]
  grind [World.frozen?,World.putObj_heap_same]
 ·intro j hj;have:=S.lR j hj;rw[hlen j];exact this
def asc(S:mM C U J a w){e:vW}(h:aci l J.heap[l]? =some e)(hv:pg (C.env U J.heap w) (.ptr l 0) v):
 ∃u w',(Instr.next v true ty).run C.P w=.ok u w'/\pg (C.env U (mh J.heap e.up) w') e.val u/\mM C U {J with heap:=mh J.heap e.up} a w'/\e.nw=[]:=by
 unfold aci at h;split at h
 ·rename_i s p hl;obtain⟨b,hφ,hb⟩:=S.nX l _ hl;have hb:w.heap[b]? =some (.stringIter s p):=hb;obtain⟨mR,b',hφ',rfl⟩:=hv;have hφ':U l=.pointer (some ⟨b',0,none⟩):=hφ';have hbb:b'=b:=by grind
  subst hbb;split at h
  ·rename_i hp;cases h;have hb2:=(aI.1 hb).1;refine⟨.tuple #[.bool true,goInt p,.int .i32 (Utf8.decode s p).1],w.putObj b' (.stringIter s (p+(Utf8.decode s p).2)),?_,?_,S.aAs hl hφ hb,rfl⟩
   ·simp [Instr.next,getObj,setObj,Sem.run,hb,hp,World.putObj,aC]
   ·exact⟨_,rfl,_,_,rfl,rfl,_,_,rfl,rfl,_,_,rfl,rfl,rfl⟩
  ·rename_i hp;cases h;refine⟨.tuple #[.bool false],w,?_,⟨_,rfl,_,_,rfl,rfl,rfl⟩,by simpa [mh] using S,rfl⟩;simp [Instr.next,getObj,Sem.run,hb,hp,aC]
 ·cases h
def auD{z:AV}(h:tz1 P t=some z):∃v,(zeroValue t).run P w=.ok v w/\∀E,pg E z v:=by
 unfold tz1 at h;cases hi:P.info? t with
 |none=>simp [hi]at h
 |some i=>
  simp only[hi]at h;split at h
  ·rename_i b hz;cases h;exact⟨.bool b,by simp [zeroValue,typeInfo,hi,hz],fun E=>rfl⟩
  ·rename_i k n hz;cases h;exact⟨.int k n,by simp [zeroValue,typeInfo,hi,hz],fun E=>rfl⟩
  ·rename_i s hz;cases h;exact⟨.string s,by simp [zeroValue,typeInfo,hi,hz],fun E=>rfl⟩
  ·rename_i vs hz;cases h;exact⟨.agg vs,by simp [zeroValue,typeInfo,hi,hz],fun E=>⟨vs,rfl,Xq E _⟩⟩
  ·cases h
def ai8{z:AV}(h:aam P t=some z):∃k e,P.underlying t=some (.map k e)/\P.underlying k=some .string/\tz1 P e=some z:=by
 grind [aam]
def aiE{E:Dw}{s:ByteArray}{v:AV}{u:aJW}(hv:pg E v u): ∀(es:List (AV×AV))(xs:List MapEntry)(i:Nat),OU es=true->sP E es xs->
 (∃j x e,ze s es=some x/\aV .string (.string s) xs i=some (some (i+j,e.val))/\xs[j]? =some e/\e.key=.string s/\pg E x e.val/\sP E (MW s v es) (xs.modify j fun e=>{e with key:=.string s,val:=u}))\/
 (ze s es=none/\aV .string (.string s) xs i=some none/\∀b,sP E (MW s v es) (xs++[{key:=.string s,val:=u,born:=b}]))
 |[],_,i,_,rfl=>.inr ⟨rfl,rfl,fun b=>⟨_,[],rfl,rfl,hv,rfl⟩⟩
 |(k,x)::es,xs,i,hs,⟨e,r,hx,r1,r2,r3⟩=>by
  subst hx;cases k with
  |str b=>
   have hs':OU es=true:=hs;have hk:e.key=.string b:=r1;cases hb:s==b with
   |true=>
    have hsb:s=b:=(bytes_beq s b).1 hb;subst hsb;refine .inl ⟨0,x,e,?_,?_,rfl,hk,r2,?_⟩
    ·simp only[ze,hb,jy]
    ·grind [aV,bP]
    ·simp only[MW,hb,jy];exact⟨_,r,rfl,rfl,hv,r3⟩
   |false=>
    rcases aiE hv es r (i+1) hs' r3 with⟨j,x',e',h1,h2,h3,h4,h5,h6⟩|⟨h1,h2,h3⟩
    ·refine .inl ⟨j+1,x',e',?_,?_,by simpa using h3,h4,h5,?_⟩
     ·grind [ze]
     ·grind [aV,bP]
     ·simp only[MW,hb,jz,List.modify_succ_cons];exact⟨e,_,rfl,r1,r2,h6⟩
    ·refine .inr ⟨?_,?_,fun q=>?_⟩
     ·grind [ze]
     ·grind [aV,bP]
     ·simp only[MW,hb,jz,List.cons_append];exact⟨e,_,rfl,r1,r2,h3 q⟩
  |_=>cases hs
def anB(S:mM C U J a w){z:AV}(ht:aam C.P t=some z)(hl:J.heap[l]? =some (.map es))(hs:OU es=true)
 (hv:pg (C.env U J.heap w) (.map l) v):∃u,(aX t v (.string s) false).run C.P w=.ok u w/\pg (C.env U J.heap w) ((ze s es).getD z) u:=by
 obtain⟨kt,et,hu,hk,hz⟩:=ai8 ht;obtain⟨zv,hzr,hzE⟩:=auD (w:=w) hz;obtain⟨r,xs,cl,hφ,hb,ui⟩:=S.nX l _ hl;have hb:w.heap[r]? =some (.map xs cl):=hb;obtain⟨_,rfl,_⟩:=hv;have hφ':(C.env U J.heap w).U l=.map (some r):=hφ;rw[hφ'];have hck:=run_checkKey (P:=C.P) (w:=w) hk (d:=.string) (k:=.string s) trivial xs.isEmpty 9999;rcases aiE (s:=s) (v:=.any) (u:=undef) (E:=C.env U J.heap w) trivial es xs.toList 0 hs ui with⟨j,x,e,h1,h2,_,_,h5,_⟩|⟨h1,h2,_⟩
 ·refine⟨e.val,?_,by rw[h1];exact h5⟩;simp [aX,run_underlying hu,ay hb,hck,run_findKey hk h2,aC]
 ·refine⟨zv,?_,by rw[h1];exact hzE _⟩;simp [aX,run_underlying hu,ay hb,hck,run_findKey hk h2,hzr,aC]
def ai9(S:mM C U J a w){z:AV}(ht:aam C.P t=some z)(hl:J.heap[l]? =some (.map es))(hs:OU es=true)
 (hv:pg (C.env U J.heap w) (.map l) v):∃u,∃_:Unit,(aX t v (.string s) true).run C.P w=.ok u w/\pg (C.env U J.heap w) (amm z l (ze s es)).val u:=by
 obtain⟨kt,et,hu,hk,hz⟩:=ai8 ht;obtain⟨zv,hzr,hzE⟩:=auD (w:=w) hz;obtain⟨r,xs,cl,hφ,hb,ui⟩:=S.nX l _ hl;have hb:w.heap[r]? =some (.map xs cl):=hb;obtain⟨_,rfl,_⟩:=hv;have hφ':(C.env U J.heap w).U l=.map (some r):=hφ;rw[hφ'];have hck:=run_checkKey (P:=C.P) (w:=w) hk (d:=.string) (k:=.string s) trivial xs.isEmpty 9999;rcases aiE (s:=s) (v:=.any) (u:=undef) (E:=C.env U J.heap w) trivial es xs.toList 0 hs ui with⟨j,x,e,h1,h2,_,_,h5,_⟩|⟨h1,h2,_⟩
 ·refine⟨.tuple #[e.val,.bool true],(),?_,by rw[h1];exact⟨_,rfl,_,_,rfl,h5,_,_,rfl,rfl,rfl⟩⟩;simp [aX,run_underlying hu,ay hb,hck,run_findKey hk h2,aC]
 ·refine⟨.tuple #[zv,.bool false],(),?_,by rw[h1];exact⟨_,rfl,_,_,rfl,hzE _,_,_,rfl,rfl,rfl⟩⟩;simp [aX,run_underlying hu,ay hb,hck,run_findKey hk h2,hzr,aC]
def YY(S:mM C U J a w){z:AV}(ht:aam C.P t=some z)(hl:J.heap[l]? =some (.map es))(hs:OU es=true)
 (hv:pg (C.env U J.heap w) (.map l) v) (hy:pg (C.env U J.heap w) y u):∃w',(bA t v (.string s) u).run C.P w=.ok () w'/\mM C U {J with heap:=J.heap.set l (.map (MW s y es))} a w':=by
 obtain⟨kt,et,hu,hk,hz⟩:=ai8 ht;obtain⟨r,xs,cl,hφ,hb,ui⟩:=S.nX l _ hl;have hb:w.heap[r]? =some (.map xs cl):=hb;obtain⟨_,rfl,_⟩:=hv;have hφ':(C.env U J.heap w).U l=.map (some r):=hφ;rw[hφ'];have hck:=run_checkKey (P:=C.P) (w:=w) hk (d:=.string) (k:=.string s) trivial false 9999;rcases aiE (s:=s) (v:=y) (u:=u) (E:=C.env U J.heap w) hy es xs.toList 0 hs ui with⟨j,x,e,h1,h2,h3,h4,_,h6⟩|⟨h1,h2,h3⟩
 ·have hj:xs[j]? =some e:=by simpa using h3
  have h2':aV .string (.string s) xs.toList 0=some (some (j,e.val)):=by simpa using h2
  refine⟨w.putObj r (.map (xs.modify j fun e=>{e with key:=.string s,val:=u}) cl),?_,S.axK hl hφ hb ?_⟩
  ·simp [bA,run_underlying hu,ay hb,hck,run_findKey hk h2',hj,h4,run_keyThatStays (d:=.string) (k:=.string s) trivial,run_setObj_map _ hb,aC,World.putObj]
  grind
 ·refine⟨w.putObj r (.map (xs.push {key:=.string s,val:=u,born:=cl}) (cl+1)),?_,S.axK hl hφ hb ?_⟩
  ·simp [bA,run_underlying hu,ay hb,hck,run_findKey hk h2,run_setObj_map _ hb,aC,World.putObj]
  grind
end
def asd(hE:E.w=w){s d e:aJ0}{bytes:Nat}{n:Int}(ht:lv C.P s=some (e,1,bytes))(he:aiZ C.P e=some .u8)(hd:oR C.P d=true){z:Nat}(hx:pg E (.kW tt z [[.int .u8 n]]) v):
 (convert s d v).run C.P w=.ok (.string ⟨[UInt8.ofNat n.toNat].toArray⟩) w:=by
 obtain⟨hu,i,hi,h1,rfl⟩:=Kz ht;obtain⟨base,cap,rfl,h2,h3,h4,h5,h6⟩:=hx;cases base with
 |none=>have:=h4 rfl;simp only[aG,bB]at h2;omega
 |some a=>
  have hsp:=h5 a rfl (by simp);obtain⟨hz,⟨⟨_,u,hu1,_,hu2⟩,_⟩,_⟩:=h6 a rfl;simp only[aG,bB]at hz;subst hz;simp only[pg]at hu2;subst hu2;have ha:a=⟨a.block,a.off,none⟩:=by cases a;simp_all
  have hl:=run_loadCells_list (P:=C.P) w a [.int .u8 n] (fun j v hj=>by
   match j,hj with
   |0,hj=>simp only[aN,ai]at hj;subst hj;rw[ha,Aa,br,<-hE];exact hu1
   |j+1,hj=>simp at hj)
  simp only[aG,bB]at hl ⊢;have hd':=acj hd;have he':=anz he;simp [convert,run_underlying hu,run_underlying hd',run_underlying he',Conv.bytesToString,hl];rfl
section sound
variable {a:Act}
def apa(S:mM C U J a w)(ht:l4 C.P t=some (g,n))(hl:J.heap[l]? =some (.cells cs))(hx:mN g n (cs.drop off)=some x)
 (r:pg (C.env U J.heap w) (.ptr l off) v):∃u,(aM t v).run C.P w=.ok u w/\pg (C.env U J.heap w) x u:=by
 obtain⟨_,b,hφ,rfl⟩:=r;obtain⟨b2,c,t2,hφ2,hh,rl,_⟩:=S.nX l _ hl;have e:b2=b:=by grind [qu.env]
 subst e;have hi:=MX (C:=C) (w:=w) ht;obtain⟨u,hu,ru⟩:=Xp (P:=C.P) (t:=t) (ai3 hh rl off) hi.1 hi.2 hx
 grind [aM,aw,qu.env]
def ack(S:mM C U J a w): ∀{cs ds:List AV}{ns:List Nat}{vs:List aJW},vwL J.heap cs=some (ds,ns)->ko (C.env U J.heap w) cs vs->ko (C.env U J.heap w) ds vs
 |[],_,_,_,h,r=>by grind [vwL]
 |c::cs,ds,ns,vs,h,⟨u,us,hv,r1,r2⟩=>by
  unfold vwL at h;split at h
  ·cases ‹_::_=[]›
  ·rename_i l n cs' heq;simp only[aA]at heq;obtain⟨rfl,rfl⟩:=heq;split at h
   ·rename_i tN sz rows hl;split at h
    ·rename_i hn;split at h
     ·rename_i es ms he;simp only[ai,aF]at h;obtain⟨rfl,_⟩:=h;cases tN with
      |false=>exact⟨u,us,hv,r1,ack S he r2⟩
      |true=>
       have hu:=ND S hl hn r1;subst hu;exact⟨_,us,hv,aaq S hl,ack S he r2⟩
     ·cases h
    ·cases h
   ·cases h
  ·rename_i c' cs' _ heq;simp only[aA]at heq;obtain⟨rfl,rfl⟩:=heq;split at h
   ·rename_i es ms he;simp only[ai,aF]at h;obtain⟨rfl,_⟩:=h;exact⟨u,us,hv,r1,ack S he r2⟩
   ·cases h
def avG(S:mM C U J a w){v:AV}{e:vW}(h:ldV J.heap l v=some e)(r:pg (C.env U J.heap w) v u):e.up=[]/\e.nw=[]/\e.pre=True/\pg (C.env U J.heap w) e.val u:=by
 unfold ldV at h;split at h
 ·split at h
  ·rename_i ds ns he;cases h;obtain⟨vs,hv,rl⟩:=r;exact⟨rfl,rfl,rfl,vs,hv,ack S he rl⟩
  ·cases h
 grind
theorem aAt(ht:l4 C.P t=some (g,n))(hx:mN g n cs=some x)
 (r:pg (C.env U J.heap w) (.pp cs) v):∃u,(aM t v).run C.P w=.ok u w/\pg (C.env U J.heap w) x u:=by
 obtain⟨b,off,rfl,rm⟩:=r;have hi:=MX (C:=C) (w:=w) ht;obtain⟨u,hu,ru⟩:=Xp (P:=C.P) (t:=t) (OV rm) hi.1 hi.2 hx
 grind [aM,aw,qu.env]
def Xt{m:Sem W}{f:W->Sem O}{x:W}{r:Result O}(h1:m.run P w=.ok x w)(h2:(f x).run P w=r):(m>>=f).run P w=r:=by
 rw[aj,h1];exact h2
def NU {t':aJ0}{x y:aJV}(ht:ar5 P t=true):
 ((∀op,(eqGuard op t x y (.iface t' u) .nilIface).run P w=.ok () w)/\∀op,(eqGuard op t x y .nilIface .nilIface).run P w=.ok () w)/\
 ((binOp .eql t (.iface t' u) .nilIface).run P w=.ok (.bool false) w/\(binOp .neq t (.iface t' u) .nilIface).run P w=.ok (.bool true) w)/\
 (binOp .eql t .nilIface .nilIface).run P w=.ok (.bool true) w/\(binOp .neq t .nilIface .nilIface).run P w=.ok (.bool false) w:=by
 unfold ar5 at ht;split at ht
 ·rename_i ms hu;obtain⟨d,hd⟩:∃d,Op.maxDepth=d+1:=⟨_,rfl⟩
  have e1:(Op.equal t (.iface t' u) .nilIface).run P w=.ok false w:=by
   simp_all [Op.equal,Op.equalIn,run_underlying]
  have e2:(Op.equal t .nilIface .nilIface).run P w=.ok true w:=by
   unfold Op.equal;simp_all [Op.equalIn,run_underlying]
  have key:(Op.eqGuardIn Op.maxDepth t .nilIface .nilIface).run P w=.ok false w:=by
   simp_all [Op.eqGuardIn,run_underlying]
  have g1:∀op,(eqGuard op t x y (.iface t' u) .nilIface).run P w=.ok () w:=by
   simp_all [eqGuard]
  have hg:∀op,(eqGuard op t x y .nilIface .nilIface).run P w=.ok () w:=by
   simp_all [eqGuard]
  exact⟨⟨g1,hg⟩,⟨Xt e1 rfl,Xt e1 rfl⟩,Xt e2 rfl,Xt e2 rfl⟩
 ·cases ht
def aAu{op:BinOp}{y:aJV}{e:vW}{a:Act}(h:ad5 P op t x y=some e)(r:pg E x v):
 ∃b,a.eval y=.slice none 0 0/\(do eqGuard op t ox y v (.slice none 0 0);binOp op t v (.slice none 0 0):Sem aJW).run P w=.ok (.bool b) w/\e={val:=.bool b}:=by
 have key:∀(base:Option Addr)(n c:Nat),(lv P t).isSome=true->(do eqGuard .eql t ox y (.slice base n c) (.slice none 0 0);binOp .eql t (.slice base n c) (.slice none 0 0):Sem aJW).run P w=.ok (.bool base.isNone) w:=by
  intro base n c ht
  obtain⟨e',he'⟩:∃e',P.underlying t=some (.slice e'):=by
   grind [lv]
  exact Xt rfl (Lib.run_eql_slice_nil w t e' base n c 0 0 he')
 unfold ad5 at h;split at h
 ·rename_i base n c;split at h
  ·rename_i ht;cases h;have r:v=_:=r;subst r;exact⟨_,rfl,key base n c ht,rfl⟩
  ·cases h
 ·split at h
  ·rename_i ht;cases h;obtain⟨base,cap,rfl,h2,_,h4,_⟩:=r;refine⟨_,rfl,key base _ cap ht.2,?_⟩;cases base with
   |none=>
    simp_all
   |some a=>rfl
  ·cases h
 ·cases h
theorem oz.take:∀{cs:List AV}{off:Nat}(k:Nat),oz E b off cs->oz E b off (cs.take k)
 |[],_,_,_=>by simp [oz]
 |_::_,_,0,_=>by simp [oz]
 |_::_,_,k+1,⟨h,r⟩=>by
  rw[List.take_succ_cons];exact⟨h,oz.take k r⟩
def aja{E:Dw}{b sz:Nat}:∀{n:Nat}{cs ds:List AV}{off:Nat},ai0 sz n cs=some ds->oz E b off cs->oz E b (off+n*sz) ds
 |0,cs,ds,off,h,r=>by
  grind [ai0,oz.take]
 |n+1,cs,ds,off,h,r=>by
  have:=aja (n:=n) h (r.drop sz)
  grind
def Sc (S:mM C U J a w) {e:vW} (h:kQ C.P J o.op=some e) (hp:e.pre):Ag C J a w o.dst ((execOp a.eval o).run C.P w) e:=by
 cases ho:o.op with
 |move x=>
  rw[ho]at h;cases h;refine Ag.of_eq ?_ (kY (rd:=[]) (p:=True) (m:=pure (a.eval x)) S ⟨_,rfl,S.ev x⟩);simp [execOp,ho]
 |assign x=>
  rw[ho]at h;cases h;refine Ag.of_eq ?_ (kY (rd:=[]) (p:=True) (m:=pure (a.eval x)) S ⟨_,rfl,S.ev x⟩);simp [execOp,ho]
 |pick c x y=>
  rw[ho]at h;have hc:=S.ev c;simp only[kQ]at h;split at h
  ·rename_i b hb;rw[hb]at hc;simp only[pg]at hc;cases h;refine Ag.of_eq ?_ (kY (rd:=[]) (p:=True) (m:=pure (bif b then a.eval x else a.eval y)) S ⟨_,rfl,?_⟩)
   ·grind [execOp,asBool]
   ·cases b
    ·exact S.ev y
    ·exact S.ev x
  ·cases h
 |alloc t=>
  rw[ho]at h;simp only[kQ]at h;split at h
  ·rename_i z hz;cases h;obtain⟨v,hv,hr,zf⟩:=ar6 (w:=w) hz;refine ai6 (c:=v.cells) S ?_ (axw _ _ hr) zf;simp only[execOp,ho,Instr.alloc,aj,hv,af,newVar,newRow,run_newObj,aq];rfl
  ·cases h
 |box t x=>
  rw[ho]at h;simp only[kQ]at h;split at h
  ·rename_i cs hc;cases h;refine ai6 (c:=(a.eval x).cells) (t:=t) S ?_ (Is hc (S.ev x)).1 (Is hc (S.ev x)).2;simp only[execOp,ho,Instr.box,aj,af,newVar,newRow,run_newObj,aq];rfl
  ·cases h
 |build t parts=>
  rw[ho]at h;simp only[kQ]at h
  grind [kY,ao5,execOp]
 |buildSlice t len parts=>
  rw[ho]at h;simp only[kQ]at h;split at h
  ·rename_i et sz by' ht;split at h
   ·rename_i z hz;split at h
    ·rename_i hc;split at h
     ·rename_i rows hr;cases aAv:aAh t (aml (parts.toList.map (·.2)))with
      |true=>
       grind [aeO,execOp]
      |false=>
      rw[aAv]at h;cases h;obtain⟨v,c,uz,ui⟩:=af8 S ht hz hc hr;refine avE S (o:=.cells c et) (by grind) (v:=v) ?_ ui;simp [execOp,ho,uz]
     ·cases h
    ·cases h
   ·cases h
  ·cases h
 |load t x=>
  rw[ho]at h;have hx:=S.ev x;simp only[kQ]at h;split at h
  ·rename_i g n l off ht hp';rw[hp']at hx;split at h
   ·rename_i cs hl;split at h
    ·rename_i v hv;obtain⟨u,hu,ru⟩:=apa S ht hl hv hx;obtain⟨h1,h2,h3,h4⟩:=avG S h ru;obtain⟨val,rd,up,nw,pre⟩:=e;simp only at h1 h2 h3 h4;subst h1 h2 h3;refine Ag.of_eq ?_ (kY (rd:=rd) (p:=True) S ⟨u,hu,h4⟩);simp [execOp,ho]
    ·cases h
   ·cases h
  ·grind [kY,aAt,execOp]
  ·grind [kY,axH,execOp]
  ·rename_i n rv ht hp';rw[hp']at hx;simp only[pg]at hx;unfold ai1 at h;split at h
   case h_2=>cases h
   rename_i b o';split at h
   ·rename_i k hk;rw[Option.bind_eq_some_iff]at h;obtain⟨m,hm,h⟩:=h;cases h;obtain⟨hd,hkv⟩:=aAj hk hm;obtain⟨v,hc,hv,_⟩:=S.know.cell b o' hd;have:=hkv v hv;subst this;have hi:=MX (C:=C) (w:=w) ht;refine Ag.of_eq ?_ (kY (rd:=[]) (p:=True) (m:=aM t (a.eval x)) S ⟨.int k m,?_,rfl⟩)
    ·simp [execOp,ho]
    ·rw[hx]
     have hM:ao3 (C.env U J.heap w) b o' [.int k m]:=⟨[.int k m],⟨_,_,rfl,rfl,rfl⟩,fun j u hj=>by
      cases j with
      |zero=>simp at hj;subst hj;exact hc
      |succ j=>simp at hj⟩
     obtain⟨u,hu,ru⟩:=Xp (P:=C.P) (t:=t) hM hi.1 hi.2 (x:=.int k m) rfl;have ru:u=.int k m:=ru
     grind [aM,aw,qu.env]
   ·cases h
  ·cases h
 |store t x y=>
  rw[ho]at h;have hx:=S.ev x;simp only[kQ]at h;split at h
  ·rename_i g n l off ys ht hp' hc;rw[hp']at hx;split at h
   ·rename_i cs hl;split at h
    ·rename_i apb;cases h;obtain⟨hr,h1⟩:=Is hc (S.ev y);obtain⟨w',uz,hS⟩:=ao4 S ht hl hr h1 apb.1 apb.2 hx;refine⟨.skip,undef,w',U,?_,.inr ⟨rfl,rfl⟩,?_⟩
     ·simp [execOp,ho,uz]
     ·rw[aga];exact hS.put _ trivial
    ·cases h
   ·cases h
  ·rename_i g n l i m o' sz ys ht hp' hc;rw[hp']at hx;split at h
   ·rename_i Ph rows hl;split at h
    ·rename_i hcc;obtain⟨rfl,hm⟩:=hcc;split at h
     ·rename_i r hr';split at h
      ·rename_i apb;cases h;obtain⟨hr,h1⟩:=Is hc (S.ev y);obtain⟨w',uz,hS⟩:=avC S ht hl hm hr' hr h1 apb.1 apb.2 hx;refine⟨.skip,undef,w',U,?_,.inr ⟨rfl,rfl⟩,?_⟩
       ·simp [execOp,ho,uz]
       ·rw[aga];exact hS.put _ trivial
      ·cases h
     ·cases h
    ·cases h
   ·cases h
  ·cases h
 |nilCheck x=>
  rw[ho]at h;have hx:=S.ev x;simp only[kQ]at h;split at h
  ·rename_i l off hp';rw[hp']at hx;cases h;obtain⟨hl,b,hb,hv⟩:=hx;refine Ag.of_eq ?_ (kY (rd:=[]) (p:=True) (m:=pure (a.eval x)) S ⟨_,rfl,hl,b,hb,hv⟩);simp [execOp,ho,hv]
  ·rename_i cs hp';rw[hp']at hx;cases h;obtain⟨b,off,hv,hm⟩:=hx;refine Ag.of_eq ?_ (kY (rd:=[]) (p:=True) (m:=pure (a.eval x)) S ⟨_,rfl,b,off,hv,hm⟩);simp [execOp,ho,hv]
  ·rename_i f fs cs hp';rw[hp']at hx;cases h;obtain⟨f',c',hv,r1,r2⟩:=hx;refine Ag.of_eq ?_ (kY (rd:=[]) (p:=True) (m:=pure (a.eval x)) S ⟨_,rfl,f',c',hv,r1,r2⟩);simp [execOp,ho,hv]
  ·cases h
 |binOp op t x y ty=>
  rw[ho]at h;simp only[kQ]at h;split at h
  ·rename_i v hv;cases h;refine Ag.of_eq ?_ (kY (rd:=[]) (p:=True) S (ao8 (t:=t) (ox:=x) (oy:=y) (w:=w) hv (S.ev x) (S.ev y)));simp [execOp,ho]
  ·have hx:=S.ev x;have hy:=S.ev y;unfold amj at h;split at h
   ·rename_i e' he;have hq:=aAu (a:=a) (w:=w) (ox:=x) he hx;cases h;obtain⟨b,hb,hv,he2⟩:=hq;subst he2;refine Ag.of_eq ?_ (kY (rd:=[]) (p:=True) (m:=(do eqGuard op t x y (a.eval x) (a.eval y);binOp op t (a.eval x) (a.eval y):Sem aJW)) S ⟨.bool b,?_,rfl⟩)
    all_goals grind [execOp]
   rename_i hnE;clear hnE;unfold af5 at h;split at h
   ·rename_i cs ds h1 h2 _;cases h;rw[h1]at hx;rw[h2]at hy;obtain⟨vs,hvs,r1⟩:=hx;obtain⟨us,hus,r2⟩:=hy;refine Ag.of_eq ?_ (kY (rd:=[]) (p:=ami C.P t cs ds) S ⟨.bool (eqB cs ds),(hp _ vs us w x y r1 r2).1,rfl⟩);simp [execOp,ho,hvs,hus]
   ·rename_i cs ds h1 h2 _;cases h;rw[h1]at hx;rw[h2]at hy;obtain⟨vs,hvs,r1⟩:=hx;obtain⟨us,hus,r2⟩:=hy;refine Ag.of_eq ?_ (kY (rd:=[]) (p:=ami C.P t cs ds) S ⟨.bool (!eqB cs ds),(hp _ vs us w x y r1 r2).2,rfl⟩);simp [execOp,ho,hvs,hus]
   ·rename_i p q h1 h2 _;split at h
    ·rename_i ht;cases h;rw[h1]at hx;rw[h2]at hy;simp only[pg]at hx hy;refine Ag.of_eq ?_ (kY (rd:=[]) (p:=True) (m:=pure (.bool (p==q))) S ⟨_,rfl,rfl⟩)
     simp_all [execOp,amw,aDy]
    ·cases h
   ·rename_i p q h1 h2 _;split at h
    ·rename_i ht;cases h;rw[h1]at hx;rw[h2]at hy;simp only[pg]at hx hy;refine Ag.of_eq ?_ (kY (rd:=[]) (p:=True) (m:=pure (.bool (!(p==q)))) S ⟨_,rfl,rfl⟩)
     simp_all [execOp,amw,aDz]
    ·cases h
   all_goals first
    |(cases h;done)
    |skip
   ·rename_i t' z h1 h2 _;split at h
    ·rename_i ht;cases h;rw[h1]at hx;rw[h2]at hy;obtain⟨u,hx,_⟩:=hx;have hy:a.eval y=.nilIface:=hy;refine Ag.of_eq ?_ (kY (rd:=[]) (p:=True) (m:=pure (.bool false)) S ⟨_,rfl,rfl⟩);simp [execOp,ho,hx,hy,(NU (w:=w) (t':=t') (u:=u) (x:=x) (y:=y) ht).1.1,(NU (w:=w) (t':=t') (u:=u) (x:=x) (y:=y) ht).2.1.1]
    ·cases h
   ·rename_i t' z h1 h2 _;split at h
    ·rename_i ht;cases h;rw[h1]at hx;rw[h2]at hy;obtain⟨u,hx,_⟩:=hx;have hy:a.eval y=.nilIface:=hy;refine Ag.of_eq ?_ (kY (rd:=[]) (p:=True) (m:=pure (.bool true)) S ⟨_,rfl,rfl⟩);simp [execOp,ho,hx,hy,(NU (w:=w) (t':=t') (u:=u) (x:=x) (y:=y) ht).1.1,(NU (w:=w) (t':=t') (u:=u) (x:=x) (y:=y) ht).2.1.2]
    ·cases h
   ·rename_i h1 h2 _;split at h
    ·rename_i ht;cases h;rw[h1]at hx;rw[h2]at hy;have hx:a.eval x=.nilIface:=hx;have hy:a.eval y=.nilIface:=hy;refine Ag.of_eq ?_ (kY (rd:=[]) (p:=True) (m:=pure (.bool true)) S ⟨_,rfl,rfl⟩);simp [execOp,ho,hx,hy,(NU (w:=w) (t':=t) (u:=undef) (x:=x) (y:=y) ht).1.2,(NU (w:=w) (t':=t) (u:=undef) (x:=x) (y:=y) ht).2.2.1]
    ·cases h
   ·rename_i h1 h2 _;split at h
    ·rename_i ht;cases h;rw[h1]at hx;rw[h2]at hy;have hx:a.eval x=.nilIface:=hx;have hy:a.eval y=.nilIface:=hy;refine Ag.of_eq ?_ (kY (rd:=[]) (p:=True) (m:=pure (.bool false)) S ⟨_,rfl,rfl⟩);simp [execOp,ho,hx,hy,(NU (w:=w) (t':=t) (u:=undef) (x:=x) (y:=y) ht).1.2,(NU (w:=w) (t':=t) (u:=undef) (x:=x) (y:=y) ht).2.2.2]
    ·cases h
 |unOp op t x=>
  rw[ho]at h;have hx:=S.ev x;simp only[kQ]at h;split at h
  ·rename_i b hb;rw[hb]at hx;simp only[pg]at hx;cases h;refine Ag.of_eq ?_ (kY (rd:=[]) (p:=True) (m:=pure (.bool !b)) S ⟨_,rfl,rfl⟩);simp [execOp,ho,hx,Op.unary]
  ·rename_i k n hb;rw[hb]at hx;simp only[pg]at hx;cases h;refine Ag.of_eq ?_ (kY (rd:=[]) (p:=True) (m:=pure (.int k (k.wrap (0-n)))) S ⟨_,rfl,rfl⟩);simp [execOp,ho,hx,Op.unary,Op.intArith]
  ·rename_i k n hb;rw[hb]at hx;simp only[pg]at hx;cases h;refine Ag.of_eq ?_ (kY (rd:=[]) (p:=True) (m:=Op.intBits .xor k (if k.signed then-1 else k.max) n) S ⟨_,rfl,rfl⟩);simp [execOp,ho,hx,Op.unary]
  ·cases h
 |convert s d x=>
  rw[ho]at h;have hx:=S.ev x;simp only[kQ]at h;split at h
  ·rename_i v hv;rw[hv]at hx;simp only[pg]at hx;split at h
   ·rename_i hc;simp only[aS]at hc;cases h;refine Ag.of_eq ?_ (kY (rd:=[]) (p:=True) (m:=pure (.string v)) S ⟨_,rfl,rfl⟩)
    simp_all [execOp,convert,run_underlying,acj]
   ·cases h
  ·rename_i k n hv;rw[hv]at hx;simp only[pg]at hx;split at h
   ·rename_i k1 k2 h1 h2;cases h;refine Ag.of_eq ?_ (kY (rd:=[]) (p:=True) (m:=pure (.int k2 (k2.wrap n))) S ⟨_,rfl,rfl⟩)
    simp_all [execOp,convert,run_underlying,anz,Conv.intToInt]
   ·rename_i k1 h1 h2;split at h
    ·rename_i hs;cases h;refine Ag.of_eq ?_ (kY (rd:=[]) (p:=True) (m:=pure (.string (Utf8.encode n))) S ⟨_,rfl,rfl⟩)
     simp_all [execOp,convert,run_underlying,anz,acj,Conv.intToString]
    ·cases h
   ·cases h
  ·rename_i tt z k n hv;rw[hv]at hx;split at h
   ·rename_i e sz bytes ht;split at h
    ·rename_i hc;obtain⟨rfl,rfl,he,hd⟩:=hc;cases h;refine Ag.of_eq ?_ (kY (rd:=[]) (p:=True) (m:=convert s d (a.eval x)) S ⟨_,asd rfl ht he hd hx,rfl⟩);simp [execOp,ho]
    ·cases h
   ·cases h
  ·cases h
 |makeInterface t x=>
  rw[ho]at h;simp only[kQ]at h;split at h
  ·rename_i hc;cases h;refine Ag.of_eq ?_ (kY (rd:=[]) (p:=True) (m:=pure (.iface t (a.eval x))) S ⟨_,rfl,_,rfl,S.ev x⟩);unfold mr at hc;cases hu:C.P.underlying t with
   |none=>simp [hu]at hc
   |some d=>
    simp only[hu]at hc;cases d<;>simp_all [execOp,Instr.makeInterface,run_underlying hu]
  ·cases h
 |makeFunc fn f c=>
  rw[ho]at h;cases h;refine Ag.of_eq ?_ (kY (rd:=[]) (p:=True) (m:=Instr.makeFunc fn (f.map a.eval) (c.map a.eval)) S ⟨_,rfl,_,_,rfl,?_,?_⟩)
  all_goals simp_all [execOp,NT]
 |makeSlice t x y=>
  rw[ho]at h;have hx:=S.ev x;have hy:=S.ev y;simp only[kQ]at h
  grind [pg,ahR,execOp]
 |slice t x lo hi mx=>
  rw[ho]at h;have hx:=S.ev x;simp only[kQ]at h
  have hex:(execOp a.eval o).run C.P w=(do pure (.value (<-aU t (a.eval x) (lo.map a.eval) (hi.map a.eval) (mx.map a.eval))):Sem Next).run C.P w:=by
   simp [execOp,ho]
  refine Ag.of_eq hex ?_;split at h
  ·rename_i et sz by' ht;split at h
   ·cases h
   ·rename_i hmx;have aHK:(mx.isSome&&hi.isNone)=false:=(Bool.not_eq_true _).mp hmx;unfold aeL at h;split at h
    ·grind [kY,ams]
    ·rename_i k n hv;rw[hv]at hx;split at h
     ·rename_i Ph rows hl;split at h
      ·rename_i l hh m h1 h2 h3;split at h
       ·rename_i hc;obtain⟨rfl,hn,hc⟩:=hc;cases h;have hvv:=ND S hl hn hx;have:=ams (tt:=false) S ht h1 h2 h3 (.inl rfl) hc aHK (aaq S hl)
        grind [kY]
       ·cases h
      ·cases h
     ·cases h
    ·cases h
  ·split at h
   ·rename_i s ht hv;rw[hv]at hx;simp only[pg]at hx;split at h
    ·rename_i l hh h1 h2;split at h
     ·rename_i hc;cases h;exact kY S ⟨_,by grind [avD],rfl⟩
     ·cases h
    ·cases h
   ·cases h
 |fieldAddr t x i=>
  rw[ho]at h;have hx:=S.ev x;simp only[kQ]at h
  grind [execOp,kY,ahP]
 |field t x i=>
  rw[ho]at h;have hx:=S.ev x;simp only[kQ]at h;split at h
  ·rename_i f u cs hf hv;rw[hv]at hx;split at h
   ·rename_i g n ht;split at h
    ·rename_i v hl;cases h;obtain⟨vs,hvs,rl⟩:=hx;obtain⟨fs,fd,j,hu,hfi,hj,_,rfl,rfl⟩:=auB hf;have hi:=MX (C:=C) (w:=w) ht;refine Ag.of_eq ?_ (kY (rd:=[]) (p:=True) S (asa hi.1 hi.2 rl hl))
     simp_all [execOp,Instr.field,run_underlying,asAgg]
    ·cases h
   ·cases h
  ·cases h
 |indexAddr t x i=>
  rw[ho]at h;have hx:=S.ev x;have hi:=S.ev i;simp only[kQ]at h
  have hex:(execOp a.eval o).run C.P w=(do pure (.value (<-aJ t (a.eval x) (a.eval i))):Sem Next).run C.P w:=by
   simp [execOp,ho]
  refine Ag.of_eq hex ?_;split at h
  ·rename_i et sz by' ht;split at h
   ·rename_i tt Ph rows k n hv hn;rw[hv]at hx;rw[hn]at hi;simp only[pg]at hi;split at h
    ·rename_i hc;obtain⟨rfl,hc⟩:=hc;split at h
     ·rename_i r hr;cases h;have:=ads (k:=k) ht hc hr hx
      grind [kY]
     ·cases h
    ·cases h
   ·rename_i l m k n hv hn;rw[hv]at hx;rw[hn]at hi;simp only[pg]at hi;split at h
    ·rename_i Ph rows hl;split at h
     ·rename_i hc;obtain⟨rfl,hc,hm⟩:=hc;split at h
      ·rename_i r hr;cases h;have:=ak6 (k:=k) S ht hc hl hm hr hx
       grind [kY]
      ·cases h
     ·cases h
    ·rename_i Ph rows hl;split at h
     ·rename_i hc;obtain⟨rfl,hc,hm,mR⟩:=hc;cases h;obtain⟨hu,ti,hti,rfl,rfl⟩:=Kz ht;have hv':=ND S hl hm hx;obtain⟨base,cap,hh,h2,h3,h4,h5⟩:=S.nX l _ hl;have hsz:(sizeOf et).run C.P w=.ok ti.size w:=by simp [sizeOf,typeInfo,hti]
      cases base with
      |none=>have:=h3 rfl;omega
      |some b=>
       obtain⟨hsp,_⟩:=h5 b rfl (by omega);have hb:b=⟨b.block,b.off,none⟩:=by cases b;simp_all
       refine kY S ⟨.pointer (some ⟨b.block,b.off+n.toNat*ti.size,none⟩),?_,hx.1,⟨_,rfl⟩,?_⟩
       ·rw[hi,hv',hh];have aDx:0<=n/\n<(rows.length:Int):=⟨hc,by omega⟩;simp only[aJ,asIntOf,aj,aq,af,run_underlying hu,aDx,and_self,jE,hsz];rw[hb,Aa]
       ·intro k' RB;simp only[qu.env,hl,lZ,ai]at RB;refine⟨by omega,fun _=>⟨b.block,b.off,rows.length,cap,?_,rfl⟩⟩
        grind [qu.env]
     ·cases h
    ·cases h
   ·cases h
  ·split at h
   ·rename_i len sz ht;split at h
    ·rename_i l off k n hv hn;rw[hv]at hx;rw[hn]at hi;simp only[pg]at hi;split at h
     ·rename_i hc;cases h;unfold ak1 at ht;split at ht
      ·rename_i n' e hu;split at ht
       ·rename_i ti hti;simp only[ai,aF]at ht;obtain⟨rfl,rfl⟩:=ht;obtain⟨hl,b,hb,hv'⟩:=hx;have hsz:(sizeOf e).run C.P w=.ok ti.size w:=by simp [sizeOf,typeInfo,hti]
        refine kY S ⟨.pointer (some ⟨b,off+n.toNat*ti.size,none⟩),?_,hl,b,hb,rfl⟩;rw[hi,hv'];simp only[aJ,asIntOf,aj,aq,af,run_underlying hu,aw,hc,and_self,jE,hsz];rw[Aa]
       ·cases ht
      ·cases ht
     ·cases h
    ·rename_i cs k n hv hn;rw[hv]at hx;rw[hn]at hi;simp only[pg]at hi;split at h
     ·rename_i hc;rw[Option.bind_eq_some_iff]at h;obtain⟨ds,hd,he⟩:=h;obtain rfl:=bV he;unfold ak1 at ht;split at ht
      ·rename_i n' e hu;split at ht
       ·rename_i ti hti;simp only[ai,aF]at ht;obtain⟨rfl,rfl⟩:=ht;obtain⟨b,off,hv',rm⟩:=hx;have hsz:(sizeOf e).run C.P w=.ok ti.size w:=by simp [sizeOf,typeInfo,hti]
        refine kY S ⟨.pointer (some ⟨b,off+n.toNat*ti.size,none⟩),?_,b,_,rfl,aja hd rm⟩;rw[hi,hv'];simp only[aJ,asIntOf,aj,aq,af,run_underlying hu,aw,hc,and_self,jE,hsz];rw[Aa]
       ·cases ht
      ·cases ht
     ·cases h
    ·rename_i b off k n hv hn;rw[hv]at hx;rw[hn]at hi;simp only[pg]at hi hx;split at h
     ·rename_i hc;cases h;unfold ak1 at ht;split at ht
      ·rename_i n' e hu;split at ht
       ·rename_i ti hti;simp only[ai,aF]at ht;obtain⟨rfl,rfl⟩:=ht;have hsz:(sizeOf e).run C.P w=.ok ti.size w:=by simp [sizeOf,typeInfo,hti]
        refine kY S ⟨.pointer (some ⟨b,off+n.toNat*ti.size,none⟩),?_,rfl⟩;rw[hi,hx];simp only[aJ,asIntOf,aj,aq,af,run_underlying hu,aw,hc,and_self,jE,hsz];rw[Aa]
       ·cases ht
      ·cases ht
     ·cases h
    ·cases h
   ·cases h
 |index t x i=>
  rw[ho]at h;have hx:=S.ev x;have hi:=S.ev i;simp only[kQ]at h;split at h
  ·rename_i s k n ht hv hn;rw[hv]at hx;rw[hn]at hi;simp only[pg]at hi hx;split at h
   ·rename_i hc;split at h
    ·rename_i b hb;cases h;refine Ag.of_eq ?_ (kY (rd:=[]) (p:=True) (m:=pure (.int .u8 b.toNat)) S ⟨_,rfl,rfl⟩)
     simp_all [execOp,Instr.index,asIntOf,run_underlying,acj]
    ·cases h
   ·cases h
  ·cases h
 |extract x i=>
  rw[ho]at h;have hx:=S.ev x;simp only[kQ]at h;split at h
  ·rename_i vs hv;rw[hv]at hx;split at h
   ·rename_i v hi;cases h;obtain⟨us,hu,rl⟩:=hx;obtain⟨u,hu',ru⟩:=rl.get hi;refine Ag.of_eq ?_ (kY (rd:=[]) (p:=True) (m:=pure u) S ⟨_,rfl,ru⟩)
    grind [execOp,Instr.extract]
   ·cases h
  ·cases h
 |call c=>
  obtain⟨cl,args,ts⟩:=c;cases cl with
  |builtin b=>
   rw[ho]at h;exact ak8 S ho h hp
  |value f=>rw[ho]at h;cases h
  |invoke r m=>rw[ho]at h;cases h
 |makeMap t r=>
  rw[ho]at h;cases r with
  |some r=>cases h
  |none=>
   cases h;have S':=S.aAr;refine⟨.value (.map (some w.heap.size)),.map (some w.heap.size),World.more w (.map #[] 0),(fun l=>if l=J.heap.length then .map (some w.heap.size)else U l),?_,.inl rfl,?_⟩
   ·simp_all [execOp,Instr.makeMap,World.more]
   ·rw[agb];refine S'.put _ ⟨by simp [qu.env],by simp [qu.env],w.heap.size,by simp [qu.env,hdl]⟩
 |typeAssert x u t ok=>
  rw[ho]at h;cases ok with
  |false=>cases h
  |true=>
   have hx:=S.ev x;simp only[kQ]at h;unfold anu at h;split at h
   ·rename_i t' z Dt;split at h
    ·rename_i hc;obtain⟨rfl,hc⟩:=hc;cases h;rw[Dt]at hx;obtain⟨q,hq,hr⟩:=hx;refine Ag.of_eq ?_ (kY (rd:=[]) (p:=True) (m:=pure (.tuple #[q,.bool true])) S ⟨_,rfl,_,rfl,_,_,rfl,hr,_,_,rfl,rfl,rfl⟩);unfold mr at hc;cases hu:C.P.underlying t' with
     |none=>simp [hu]at hc
     |some d=>
      simp only[hu]at hc;cases d<;>simp_all [execOp,Instr.typeAssert,run_underlying hu]
    ·cases h
   ·cases h
 |lookup t x k ok=>
  rw[ho]at h;cases ok with
  |true=>
   have hx:=S.ev x;have hk:=S.ev k;simp only[kQ]at h;split at h
   ·rename_i z l s ht Dt RB;rw[Dt]at hx;rw[RB]at hk;have hk:a.eval k=.string s:=hk;unfold af6 at h;split at h
    ·rename_i es hl;split at h
     ·rename_i hs;cases h;obtain⟨u,b,uz,ui⟩:=ai9 (s:=s) S ht hl hs hx;have hv:amm z l (ze s es)={val:=(amm z l (ze s es)).val,rd:=[l]}:=by cases ze s es<;>rfl
      grind [kY,execOp]
     ·cases h
    ·cases h
   ·cases h
  |false=>
   have hx:=S.ev x;have hk:=S.ev k;simp only[kQ]at h;split at h
   ·rename_i z l s ht Dt RB;rw[Dt]at hx;rw[RB]at hk;have hk:a.eval k=.string s:=hk;unfold ach at h;split at h
    ·rename_i es hl;split at h
     ·rename_i hs;cases h;obtain⟨u,uz,ui⟩:=anB (s:=s) S ht hl hs hx
      grind [kY,execOp]
     ·cases h
    ·cases h
   ·cases h
 |range t x=>
  rw[ho]at h;have hx:=S.ev x;simp only[kQ]at h;split at h
  ·rename_i s ht hv;rw[hv]at hx;simp only[pg]at hx;cases h;have S':=S.axJ s;refine⟨.value (.pointer (some ⟨w.heap.size,0,none⟩)),.pointer (some ⟨w.heap.size,0,none⟩),World.more w (.stringIter s 0),(fun l=>if l=J.heap.length then .pointer (some ⟨w.heap.size,0,none⟩)else U l),?_,.inl rfl,?_⟩
   ·simp [execOp,ho,hx,Instr.range,run_underlying (acj ht),newObj,Sem.run,World.more,aC]
   ·rw[agb];refine S'.put _ ⟨by simp [qu.env],w.heap.size,by simp [qu.env],rfl⟩
  ·cases h
 |next x st=>
  rw[ho]at h;cases st with
  |false=>cases h
  |true=>
   have hx:=S.ev x;simp only[kQ]at h;split at h
   ·rename_i l hv;rw[hv]at hx;obtain⟨u,w',uz,ui,hS,hn⟩:=asc (ty:=o.type) S h hx;refine⟨.value u,u,w',U,?_,.inl rfl,?_⟩
    ·simp [execOp,ho,uz]
    ·have:=hS.put o.dst ui;cases hd:o.dst<;>simpa [jJ.app,jJ.put,hn,hd] using this
   ·cases h
 |mapUpdate t x k y=>
  rw[ho]at h;have hx:=S.ev x;have hk:=S.ev k;simp only[kQ]at h;split at h
  ·rename_i z l s ht Dt RB;rw[Dt]at hx;rw[RB]at hk;have hk:a.eval k=.string s:=hk;unfold CH at h;split at h
   ·rename_i es hl;split at h
    ·rename_i hs;cases h;obtain⟨w',uz,hS⟩:=YY (s:=s) S ht hl hs hx (S.ev y);refine⟨.skip,undef,w',U,?_,.inr ⟨rfl,rfl⟩,?_⟩
     ·simp [execOp,ho,hk,uz]
     ·rw[aga];exact hS.put _ trivial
    ·cases h
   ·cases h
  ·cases h
 |insert t x k y=>
  rw[ho]at h;have hx:=S.ev x;have hk:=S.ev k;simp only[kQ]at h;split at h
  ·rename_i z l s ht Dt RB;rw[Dt]at hx;rw[RB]at hk;have hk:a.eval k=.string s:=hk;unfold CH at h;split at h
   ·rename_i es hl;split at h
    ·rename_i hs;cases h;obtain⟨w',uz,hS⟩:=YY (s:=s) S ht hl hs hx (S.ev y);refine⟨.skip,undef,w',U,?_,.inr ⟨rfl,rfl⟩,?_⟩
     ·simp [execOp,ho,hk,uz]
     ·rw[aga];exact hS.put _ trivial
    ·cases h
   ·cases h
  ·cases h
 |_=>rw[ho]at h;cases h
end sound
inductive nU where
 |normal
 |exit (id:Nat)
 |goto (l:Nat)
 |ret
 |panic (x:AV)
inductive vf where
 |ret (r:AV)
 |panic (x:AV)
def vf.rep(E:Dw):vf->Ending->Prop
 |.ret r,.returned v=>pg E r v
 |.panic x,.panicked chain=>∃v,chain=[{v,recovered:=false}]/\pg E x v
 |_,_=>False
def enters(P:aJZ)(f:aJY):Bool:=
 match P.funcs[f]? with
 |some fn=>fn.body.isSome&&fn.name != "runtime.NumGoroutine"
 |none=>false
def Bf(P:aJZ)(f:aJY)(args:List AV)(J:jJ)(K:vf->List jT->Prop):Prop:=
 enters P f=true/\∀(C:qu)(U:Nat->aJW)(a:Act)(w:aJX),C.P=P->mM C U J a w->∀vs:Array aJW,ko (C.env U J.heap w) args vs.toList->
  Calls P f vs w fun e w'=>∃o U' H',K o H'/\mM C U' {J with heap:=H'} a w'/\o.rep (C.env U' H' w') e
def KB(J J':jJ):Prop:=∀(C:qu)(U:Nat->aJW)(a:Act)(w:aJX),mM C U J a w->∃U',mM C U' J' a w
theorem KB.refl(J:jJ):KB J J:=fun _ U _ _ S=>⟨U,S⟩
def KB.trans {J' σ'':jJ}(h:KB J J')(h':KB J' σ''):KB J σ'':=fun C U a w S=>
 let ⟨U',S'⟩:=h C U a w S
 h' C U' a w S'
def nk(J:jJ):Op->Option (aJY×List AV)
 | .call {callee:= .value f,args,..}=>match J.ev f with
   |.func (.func fid) first cap=>some (fid,first++args.toList.map J.ev++cap)
   |_=>none
 |_=>none
def Hf(J:jJ):Op->Option (Nat×List AV)
 | .call {callee:= .value f,args,..}=>match J.ev f with
   |.map l=>some (l,args.toList.map J.ev)
   |_=>none
 |_=>none
def Hg(J:jJ):Op->Option (aJY×List AV)
 | .defer {callee:= .value f,args,..}=>match J.ev f with
   |.func (.func fid) first cap=>some (fid,first++args.toList.map J.ev++cap)
   |_=>none
 |_=>none
def Vv(J:jJ):Op->Option AV
 | .panic x=>match J.ev x with
   |.iface t y=>some (.iface t y)
   |_=>none
 |_=>none
def jJ.dfr(J:jJ)(p:aJY×List AV)(dst:Option Tmp):jJ:={J with df:=p::J.df}.put dst (.sO undef)
def Ga(ro:Option Nat):Fence:={Fence.wide with round:=ro}
def JB{args:Array aJW}:CallsIn (Ga ro) n P f args w R↔Calls P f args w R:=by
 rw[<-callsIn_wide (n:=n)];exact Iff.rfl
def apc{tmps:Array aJW}{aJU body:Code}:RoundIn (Ga ro) n P l f tmps aJU body w R↔RoundIn Fence.wide n P l f tmps aJU body w R:=Iff.rfl
def aau(P:aJZ)(h:aJW)(w:aJX)(vs:Array aJW)(R:Ending->aJX->Prop):Prop:=
 ∀ (D:Nat) (rec:Loop),h= .func (.yield (D+1)) #[] #[]->w.heap[D+1]? =some (.loop rec)->
   RoundIn Fence.wide 0 P (D+1) rec.fn ((rec.params.zip vs).foldl (fun tmps (t,a)=>tmps.setIfInBounds t a) rec.tmps) rec.assign rec.body w R
def MY(P:aJZ)(l:Nat)(args:List AV)(J:jJ)(K:vf->List jT->Prop):Prop:=
 (∃k jV st uu,J.heap[l]? =some (.loop k jV st uu)/\args.length=k.ps.size)/\∀(C:qu)(U:Nat->aJW)(a:Act)(w:aJX),C.P=P->mM C U J a w->∀vs:Array aJW,ko (C.env U J.heap w) args vs.toList->
   aau P (U l) w vs fun e w'=>∃o U' H',K o H'/\mM C U' {J with heap:=H'} a w'/\o.rep (C.env U' H' w') e
def qx(j8:Array Oper)(o:Oper)(J:jJ):Option Bool:=
 match o.guard with
 |none=>some true
 |some (j,want)=>match (j8[j]?).bind (·.dst)with
  |some d=>match J.jV[d]? with
   |some (.bool b)=>some (b==want)
   |some (.sO (.tuple _))=>some false
   |_=>none
  |none=>none
def Uk (P:aJZ) (j8:Array Oper):List Oper->(nU->jJ->Prop)->jJ->Prop
 |[],Q,J=>Q .normal J
 |o::rest,Q,J=>match qx j8 o J with
  |none=>False
  |some b=>(b=true->match nk J o.op with
    |some (f,args)=>Bf P f args J fun o' H'=>match o' with
     |.ret r=>Uk P j8 rest Q (jJ.put {J with heap:=H'} o.dst r)
     |.panic x=>Q (.panic x) {J with heap:=H'}
    |none=>match Hf J o.op with
     |some (l,args)=>MY P l args J fun o' H'=>match o' with
      |.ret r=>Uk P j8 rest Q (jJ.put {J with heap:=H'} o.dst r)
      |.panic _=>False
     |none=>match kQ P J o.op with
      |some e=>e.pre/\Uk P j8 rest Q (J.app o.dst e)
      |none=>match Hg J o.op with
       |some p=>Uk P j8 rest Q (J.dfr p o.dst)
       |none=>match Vv J o.op with
        |some x=>Q (.panic x) J
        |none=>False)/\
   (b=false->Uk P j8 rest Q (J.put o.dst (.sO undef)))
def QC(C:qu)(Q:nU->jJ->Prop):Exit->Act->aJX->Prop
 |.normal,a,w=>∃U J,mM C U J a w/\Q .normal J
 |.exit id,a,w=>∃U J,mM C U J a w/\Q (.exit id) J
 |.goto l,a,w=>∃U J,mM C U J a w/\Q (.goto l) J
 |.ret,a,w=>∃U J,mM C U J a w/\Q .ret J
 |.panic chain,a,w=>∃U J x v,mM C U J a w/\Q (.panic x) J/\chain=[{v,recovered:=false}]/\pg (C.env U J.heap w) x v
 |.outgrown,_,_=>False
section sound
variable {a:Act}
theorem zZ(S:mM C U J a w){j8:Array Oper}{b:Bool}(h:qx j8 o J=some b):Region.wanted o (yielded j8 a.tmps)=b:=by
 unfold qx at h;unfold Region.wanted;split at h
 ·rename_i hg;rw[hg];simpa using h
 ·rename_i j want hg;rw[hg];split at h
  ·rename_i d hd
   have hy:yielded j8 a.tmps j=match a.tmps[d]? with|some (.bool b)=>some b|_=>none:=by
    unfold yielded;rw[hd];rfl
   split at h
   ·rename_i b' hs;obtain⟨v,hv,r⟩:=S.jV.get hs
    simp_all [pg]
   ·rename_i vs hs;obtain⟨v,hv,r⟩:=S.jV.get hs
    grind [pg]
   ·cases h
  ·cases h
def KC(S:mM C U J a w)(h:nk J o.op=some (f,args))(hf:enters C.P f=true):
 ∃vs:Array aJW,(execOp a.eval o).run C.P w=.ok (.enter f vs) w/\ko (C.env U J.heap w) args vs.toList:=by
 unfold nk at h;split at h
 ·rename_i x xs ts ho;split at h
  ·rename_i fid first cap hv
   cases h;have hx:=S.ev x;rw[hv]at hx;obtain⟨f',c',hx,r1,r2⟩:=hx;refine⟨f'++xs.map a.eval++c',?_,?_⟩
   ·unfold enters at hf;split at hf
    ·rename_i fn hfn;simp only[aS,bne_iff_ne,ne_eq]at hf;have amt:fn.body≠none:=by intro hb;simp [hb]at hf
     simp [execOp,ho,resolve,hx,Deferred.ofValue,invoke,callFunc,hfn,hf.2,amt]
    ·cases hf
   ·simp only[bR,bu];exact(r1.append (NT S xs.toList)).append r2
  ·cases h
 ·cases h
theorem NV{o:Op}{q:aJY×List AV}(h:nk J o=some q):∀c,o≠ .defer c:=by
 rintro c rfl;simp [nk]at h
theorem ase{o:Op}{q:Nat×List AV}(h:Hf J o=some q):∀c,o≠ .defer c:=by
 rintro c rfl;simp [Hf]at h
theorem apd{o:Op}{e:vW}(h:kQ P J o=some e):∀c,o≠ .defer c:=by
 rintro c rfl;simp [kQ]at h
def ape(S:mM C U J a w){rec:Loop}(h:Hf J o.op=some (l,args))(hφ:U l=.func (.yield (D+1)) #[] #[])(hw:w.heap[D+1]? =some (.loop rec))(hn:args.length=rec.params.size):
 ∃vs:Array aJW,(execOp a.eval o).run C.P w=.ok (.round (D+1) rec.fn ((rec.params.zip vs).foldl (fun tmps (t,a)=>tmps.setIfInBounds t a) rec.tmps) rec.assign rec.body) w/\ko (C.env U J.heap w) args vs.toList:=by
 unfold Hf at h;split at h
 ·rename_i x xs ts ho;split at h
  ·rename_i l' hv;cases h;have hx:=S.ev x;rw[hv]at hx;obtain⟨_,hx,_⟩:=hx;have Dt:a.eval x=.func (.yield (D+1)) #[] #[]:=hx.trans hφ;refine⟨xs.map a.eval,?_,?_⟩
   all_goals grind [run_yield,execOp,resolve,Deferred.ofValue,invoke,bu,NT]
  ·cases h
 ·cases h
theorem axM{o:Op}{q:AV}(h:Vv J o=some q):∀c,o≠ .defer c:=by
 rintro c rfl;simp [Vv]at h
def auE:Op->Bool
 |.defer _=>true
 |_=>false
def apf(S:mM C U J a w){p:aJY×List AV}(h:Hg J o.op=some p):
 ∃d:Deferred,(execOp a.eval o).run C.P w=.ok (.defer d) w/\aeK d=false/\∃cap,d.target=.fn (.func p.1) cap/\ko (C.env U J.heap w) p.2 (d.args++cap).toList:=by
 unfold Hg at h;split at h
 ·rename_i x xs ts ho;split at h
  ·rename_i fid first cap hv
   cases h;have hx:=S.ev x;rw[hv]at hx;obtain⟨f',c',hx,r1,r2⟩:=hx;refine⟨{target:=.fn (.func fid) c',args:=f'++xs.map a.eval},?_,rfl,c',rfl,?_⟩
   ·simp [execOp,ho,resolve,hx,Deferred.ofValue]
   ·simp only[bR,bu];exact(r1.append (NT S xs.toList)).append r2
  ·cases h
 ·cases h
def avH(S:mM C U J a w)(h:Vv J o.op=some x):∃v,(execOp a.eval o).run C.P w=.halt (.panic v) w/\pg (C.env U J.heap w) x v:=by
 unfold Vv at h;split at h
 ·rename_i y ho;split at h
  ·rename_i t z hv;cases h;have hx:=S.ev y;rw[hv]at hx;obtain⟨u,hu,r⟩:=hx;refine⟨.iface t u,?_,u,rfl,r⟩;simp [execOp,ho,hu,Instr.panic]
  ·cases h
 ·cases h
def mM.dfr(S:mM C U J a w){p:aJY×List AV}{d:Deferred}{cap:Array aJW}(hm:aeK d=false)(hd:d.target=.fn (.func p.1) cap)(hr:ko (C.env U J.heap w) p.2 (d.args++cap).toList):
 mM C U (J.dfr p dst) ({a with defers:=d::a.defers}.put dst undef) w:=by
 have S1:mM C U {J with df:=p::J.df} {a with defers:=d::a.defers} w:=by
  refine {S with jV:=S.jV,defers:=⟨?_,?_,?_⟩}
  ·simp only[List.filter_cons,hm,aH,if_false];exact S.defers.1
  ·intro d' hd' hm';rcases aT.1 hd' with rfl|hd'
   ·rw[hm]at hm';cases hm'
   ·exact S.defers.2.1 d' hd' hm'
  ·simp only[List.filter_cons,hm,bG,jE];exact⟨d,_,cap,rfl,hd,hr,S.defers.2.2⟩
 exact S1.put dst rfl
def aeP {ro:Option Nat} {P:aJZ} (hP:C.P=P) {j8:Array Oper} {Q:nU->jJ->Prop}: ∀ (rest:List Oper) (k:Nat),(ro=none\/rest.all (fun o=> !auE o.op)=true)->j8.toList.drop k=rest-> ∀ (U:Nat->aJW) (J:jJ) (a:Act) (w:aJX),
 Uk P j8 rest Q J->mM C U J a w->wpOpsIn (Ga ro) 0 P j8 (QC C Q) (List.range' k rest.length) a w
 |[],k,_,_,U,J,a,w,h,S=>⟨U,J,S,h⟩
 |o::rest,k,hro,hk,U,J,a,w,h,S=>by
  have ho:j8[k]? =some o:=by
   have:=congrArg (fun l:List Oper=>l[0]?) hk;simpa using this
  have uh:j8.toList.drop (k+1)=rest:=by
   grind [bD]
  have ih:=aeP (ro:=ro) hP (Q:=Q) rest (k+1) (hro.imp id fun h=>by grind) uh;simp only[aG,List.range'_succ,wpOpsIn,ho];simp only[Uk]at h;split at h
  ·exact h.elim
  ·rename_i b hb;rw[zZ S hb];cases b with
   |false=>
    simp only[aH,if_false];exact⟨fun _ _=>trivial,ih U _ _ w (h.2 rfl) (S.put o.dst rfl)⟩
   |true=>
    simp only[jE];have h:=h.1 rfl;split at h
    ·rename_i f args hc;obtain⟨he,xE⟩:=h;subst hP;obtain⟨vs,uz,hr⟩:=KC S hc he;refine⟨fun _ _=>trivial,?_⟩;rw[Oper.semAt_eq _ _ _ (NV hc),uz,Oper.uponIn_enter];refine⟨fun h=>by simp [Ga,Fence.wide]at h,JB.2 ?_⟩;refine(xE C U a w rfl S vs hr).mono fun e w' ⟨o',U',H',hK,S',ui⟩=>?_
     cases o' with
     |ret r=>
      cases e with
      |returned v=>exact ih U' _ _ w' hK (S'.put o.dst ui)
      |panicked chain=>exact ui.elim
      |outgrown=>exact ui.elim
     |panic x=>
      cases e with
      |returned v=>exact ui.elim
      |panicked chain=>
       obtain⟨v,hc,hr⟩:=ui;exact⟨U',_,x,v,S',hK,hc,hr⟩
      |outgrown=>exact ui.elim
    ·split at h
     ·rename_i l args hy;obtain⟨⟨k,jV,st,uu,hl,hn⟩,xE⟩:=h;subst hP;obtain⟨D,rec,hφ,hw1,hw2,ZH,rl⟩:=S.nX l _ hl;obtain⟨vs,uz,hr⟩:=ape S hy hφ hw1 (by rw[ZH.1];exact hn);refine⟨fun _ _=>trivial,?_⟩;rw[Oper.semAt_eq _ _ _ (ase hy),uz,Oper.uponIn_round];refine⟨fun h=>by simp [Ga,Fence.wide]at h,apc.2 ?_⟩;refine(xE C U a w rfl S vs hr D rec hφ hw1).mono fun e w' ⟨o',U',H',hK,S',ui⟩=>?_
      cases o' with
      |ret r=>
       cases e with
       |returned v=>exact ih U' _ _ w' hK (S'.put o.dst ui)
       |panicked chain=>exact ui.elim
       |outgrown=>exact ui.elim
      |panic x=>exact hK.elim
     ·split at h
      ·rename_i e he;obtain⟨n,v,w',U',hr,hn,S'⟩:=Sc S (hP ▸ he) h.1;refine⟨fun _ _=>trivial,?_⟩
       grind [Oper.semAt_eq,apd,Oper.uponIn_value,Oper.uponIn_skip]
      ·split at h
       ·rename_i p hd;obtain⟨d,uz,hm,cap,aHL,hr⟩:=apf S hd
        have aHM:ro=none:=by
         rcases hro with hro|hro
         ·exact hro
         ·rw[List.all_cons,aS]at hro;unfold Hg at hd;split at hd
          ·rename_i ho';rw[ho']at hro;cases hro.1
          ·cases hd
        subst aHM;refine⟨fun _ _=>trivial,?_⟩;have aHN:Oper.semAt (Ga none).round a.eval o=execOp a.eval o:=Oper.semAt_none _ _;rw[aHN,<-hP,uz,Oper.uponIn_defer,hP];exact ih U _ _ w h (S.dfr hm aHL hr)
       ·split at h
        ·rename_i x hx;obtain⟨v,uz,hr⟩:=avH S hx;refine⟨fun _ _=>trivial,?_⟩;rw[<-hP,Oper.semAt_eq _ _ _ (axM hx),uz,Oper.uponIn_panic];exact⟨U,J,x,v,S,h,rfl,hr⟩
        ·exact h.elim
end sound
def KD(P:aJZ)(f:aJY)(args:List AV)(V:AV->Prop):Prop:=
 enters P f=true/\w5 0 args/\∀(C:qu)(U:Nat->aJW)(w:aJX),C.P=P->C.w0=w->C.N0=0->(∀b o,¬ C.M0 b o)->∀vs:Array aJW,ko (C.env U [] w) args vs.toList->
  Calls P f vs w fun e w'=>∃r v U',V r/\e=.returned v/\pg (C.env U' [] w') r v/\w.heap.size<=w'.heap.size/\(∀b,b<w.heap.size->w'.heap[b]? =w.heap[b]?)/\
   (∀x,x.block<w.heap.size->w'.frozen? x=w.frozen? x)/\w'.output=w.output/\w'.os=w.os
section auF
variable {a:Act}
theorem aeQ(hh:∀b,b<w.heap.size->w'.heap[b]? =w.heap[b]?){o:Nat}(hb:b<w.heap.size):w'.cell? ⟨b,o,none⟩=w.cell? ⟨b,o,none⟩:=by
 simp only[World.cell?,hh b hb]
def mM.auF(S:mM C U J a w)(hs:w.heap.size<=w'.heap.size)(hh:∀b,b<w.heap.size->w'.heap[b]? =w.heap[b]?)(hf:∀x,x.block<w.heap.size->w'.frozen? x=w.frozen? x)(hr:w'.output=w.output/\w'.os=w.os):
 mM C U J a w':=by
 have le:(C.env U J.heap w).Le J.heap.length (C.env U J.heap w'):=
  qu.CG (av _) (fun _ _=>⟨rfl,rfl⟩) (fun b o u hm hc=>⟨hm,by grind [aeQ,FI]⟩)
 refine {jV:=ko.mono le _ _ (ko.nb _ _ S.jV) S.jV,defers:=S.defers.same le hh,nX:=?_,apart:=S.apart,tW:=S.tW,size:=bc S.size hs,F9:=?_,nM:=?_,Ce:=S.Ce,wS:=fun x hx=>by rw[hf x (aa hx S.size)];exact S.wS x hx,rest:=⟨by rw[hr.1];exact S.rest.1,by rw[hr.2];exact S.rest.2⟩,low:=S.low,lR:=S.lR}
 ·intro l x hx;have r:=S.nX l x hx;exact n8.mono r le (fun b hb=>hh b (r.qH hb))
 ·intro b o hb hm;rw[aeQ hh (aa hb S.size)];exact S.F9 b o hb hm
 ·intro b hb hm;rw[hh b (aa hb S.size)];exact S.nM b hb hm
def mM.callee(S:mM C U J a w):qu:=
 {P:=C.P,w0:=w,M0:=fun _ _=>False,A:=fun b o=>F8 U J.heap b o\/C.A b o,
  hA:=by
   rintro b o (⟨l,x,hx,hm⟩|hA)
   ·exact(S.nX l x hx).qH (jT.nV hm)
   ·exact aa (C.hA b o hA) S.size
  hk:=⟨fun b o h=>let ⟨v,h1,h2,_⟩:=S.know.cell b o h;⟨v,h1,h2,fun f=>f⟩,fun b h=>⟨fun _ f=>f,(S.know.row b h).2⟩⟩}
def mM.avI(S:mM C U J a w)(U':Nat->aJW)(w1:aJX):(C.env U J.heap w1).Le 0 (S.callee.env U' [] w1):=by
 refine⟨bU _,fun l hl=>absurd hl (bz _),fun b o u hm hc=>⟨?_,hc⟩,CF _⟩;simp only[qu.env,mM.callee]at hm ⊢;rintro(⟨l,x,hx,_⟩|h)
 ·simp at hx
 ·exact hm h
def mM.avJ(S:mM C U J a w)(U':Nat->aJW)(w1:aJX):(S.callee.env U' [] w1).Le 0 (C.env U J.heap w1):=by
 refine⟨bU _,fun l hl=>absurd hl (bz _),fun b o u hm hc=>⟨?_,hc⟩,CF _⟩
 simp_all [qu.env,mM.callee]
def aeR{V:AV->Prop}{K:vf->List jT->Prop}(h:KD P f args V)(hK:∀r,V r->K (.ret r) J.heap):Bf P f args J K:=by
 obtain⟨he,hn,hc⟩:=h;refine⟨he,fun C U a w hP S vs hr=>?_⟩;refine(hc S.callee U w hP rfl rfl (fun _ _ h=>h) vs (ko.mono (S.avI U w) _ _ hn hr)).mono ?_;rintro e w' ⟨r,v,U',hV,rfl,rep,hs,hh,hf,ho⟩;refine⟨.ret r,U,J.heap,hK r hV,S.auF hs hh hf ho,?_⟩;exact pg.mono (S.avJ U' w') _ _ (pg.nb _ _ rep) rep
end auF
section loc
variable {J':jJ}
def aeS{c:Call}{x:aJV}(h:x∈c.args):x∈(Op.call c).operands:=by
 grind [ae,Call.operands]
def aav{d:Nat}{x:Option aJV}(h:∀y,x=some y->J'.ev y=J.ev y):Ca J' d x=Ca J d x:=by
 cases x with
 |none=>rfl
 |some y=>simp only[Ca,h y rfl]
theorem age{H H':List jT}:∀{cs ds:List AV}{ns:List Nat},vwL H cs=some (ds,ns)->(∀l∈ns,H'[l]? =H[l]?)->vwL H' cs=some (ds,ns)
 |[],_,_,h,_=>by simp only[vwL]at h ⊢;exact h
 |c::cs,ds,ns,h,hr=>by
  unfold vwL at h ⊢;split at h
  ·cases ‹_::_=[]›
  ·rename_i l n cs' heq;simp only[aA]at heq;obtain⟨rfl,rfl⟩:=heq;split at h
   ·rename_i tN sz rows hl;split at h
    ·rename_i hn;split at h
     ·rename_i es ms he;simp only[ai,aF]at h;obtain⟨rfl,rfl⟩:=h;have:=age he (fun k hk=>hr k (by simp [hk]))
      grind
     ·cases h
    ·cases h
   ·cases h
  ·rename_i c' cs' sA heq;simp only[aA]at heq;obtain⟨rfl,rfl⟩:=heq;split at h
   ·rename_i es ms he;simp only[ai,aF]at h;obtain⟨rfl,rfl⟩:=h;have:=age he hr
    grind
   ·cases h
theorem asf{H:List jT}:∀{cs ds:List AV}{ns:List Nat},vwL H cs=some (ds,ns)->∀l∈ns,l<H.length
 |[],_,_,h=>by grind [vwL]
 |c::cs,ds,ns,h=>by
  unfold vwL at h;split at h
  ·cases ‹_::_=[]›
  ·rename_i l n cs' heq;simp only[aA]at heq;obtain⟨rfl,rfl⟩:=heq;split at h
   ·rename_i tN sz rows hl;split at h
    ·split at h
     ·rename_i es ms he;simp only[ai,aF]at h;obtain⟨_,rfl⟩:=h;intro k hk;simp only[aT]at hk;rcases hk with rfl|hk
      ·grind
      ·exact asf he k hk
     ·cases h
    ·cases h
   ·cases h
  ·rename_i c' cs' sA heq;simp only[aA]at heq;obtain⟨rfl,rfl⟩:=heq;split at h
   ·rename_i es ms he;simp only[ai,aF]at h;obtain⟨_,rfl⟩:=h;exact asf he
   ·cases h
theorem avK{v:AV}{e:vW}(h:ldV H l v=some e)(hr:∀k∈e.rd,H'[k]? =H[k]?):ldV H' l v=some e:=by
 unfold ldV at h ⊢
 grind [age]
theorem axN{v:AV}{e:vW}(h:ldV H l v=some e):l∈e.rd/\e.up=[]/\∀k∈e.rd,k=l\/k<H.length:=by
 unfold ldV at h
 grind [asf]
theorem apg {o:Op} {e:vW} (h:kQ P J o=some e) (Xr: ∀x∈o.operands,J'.ev x=J.ev x) (hrd: ∀l∈e.rd,J'.heap[l]? =J.heap[l]?) (hnw:e.nw≠[]->J'.heap.length=J.heap.length):
 kQ P J' o=some e:=by
 cases o with
 |move x=>simp only[kQ]at h ⊢;grind [ae]
 |assign x=>simp only[kQ]at h ⊢;grind [ae]
 |pick c x y=>simp only[kQ]at h ⊢;grind [ae]
 |alloc t=>
  simp only[kQ]at h ⊢;cases hz:lI P t with
  |none=>rw[hz]at h;cases h
  |some z=>
   rw[hz]at h;cases h;rw[hnw amn]
 |box t x=>
  simp only[kQ]at h ⊢;have hx:J'.ev x=J.ev x:=by grind [ae]
  rw[hx];cases hc:cellsOf (J.ev x)with
  |none=>rw[hc]at h;cases h
  |some cs=>
   rw[hc]at h;cases h;rw[hnw amn]
 |build t parts=>
  simp only[kQ]at h ⊢
  grind [aW,ae]
 |buildSlice t len parts=>
  simp only[kQ]at h ⊢
  have:(parts.toList.map fun p=>(p.1,J'.ev p.2))=(parts.toList.map fun p=>(p.1,J.ev p.2)):=by
   grind [aW,ae]
  rw[this];cases aAv:aAh t (aml (parts.toList.map (·.2)))with
  |false=>rw[aAv]at h;exact h
  |true=>
   rw[aAv]at h;have hn:J'.heap.length=J.heap.length:=hnw (by grind);rw[hn];exact h
 |load t x=>
  simp only[kQ]at h ⊢;rw[Xr x (by simp [ae])];split at h
  ·grind [axN,avK]
  all_goals grind
 |store t x y=>
  simp only[kQ]at h ⊢;rw[Xr x (by simp [ae]),Xr y (by simp [ae])];split at h
  all_goals grind
 |nilCheck x=>simp only[kQ]at h ⊢;grind [ae]
 |binOp op t x y ty=>simp only[kQ]at h ⊢;grind [ae]
 |unOp op t x=>simp only[kQ]at h ⊢;grind [ae]
 |convert s d x=>simp only[kQ]at h ⊢;grind [ae]
 |makeInterface t x=>simp only[kQ]at h ⊢;grind [ae]
 |makeFunc fn f c=>
  simp only[kQ]at h ⊢
  grind [aW,ae]
 |makeSlice t x y=>
  simp only[kQ]at h ⊢;rw[Xr x (by simp [ae]),Xr y (by simp [ae])];split at h
  all_goals grind
 |slice t x lo hi mx=>
  simp only[kQ]at h ⊢;have hx:=Xr x (by simp [ae]);have h1:∀d,Ca J' d lo=Ca J d lo:=fun d=>aav fun y hy=>Xr y (by simp [ae,hy])
  have h2:∀d,Ca J' d hi=Ca J d hi:=fun d=>aav fun y hy=>Xr y (by simp [ae,hy])
  have h3:∀d,Ca J' d mx=Ca J d mx:=fun d=>aav fun y hy=>Xr y (by simp [ae,hy])
  rw[hx];simp only[aeL,h1,h2,h3]at h ⊢;split at h
  ·split at h
   ·cases h
   ·rename_i hmx;rw[if_neg hmx];split at h
    all_goals grind
  ·exact h
 |fieldAddr t x i=>simp only[kQ]at h ⊢;grind [ae]
 |field t x i=>simp only[kQ]at h ⊢;grind [ae]
 |indexAddr t x i=>
  simp only[kQ]at h ⊢;rw[Xr x (by simp [ae]),Xr i (by simp [ae])];split at h
  ·split at h
   all_goals grind
  ·exact h
 |index t x i=>simp only[kQ]at h ⊢;grind [ae]
 |extract x i=>simp only[kQ]at h ⊢;grind [ae]
 |call c=>
  obtain⟨cl,args,ts⟩:=c;cases cl with
  |builtin b=>
   simp only[kQ]at h ⊢;have e1:args.toList.map J'.ev=args.toList.map J.ev:=aW fun x hx=>Xr x (aeS (by simpa using hx))
   rw[e1];revert h;generalize args.toList.map J.ev=xs;generalize ts.toList=tl;intro h;unfold MV at h ⊢;split at h
   ·rename_i t x;unfold amk at h ⊢
    grind
   ·rename_i t u x y;split at h
    ·rename_i et sz by' ht hu;split at h
     ·split at h
      ·rename_i hc;rw[if_pos hc];by_cases hy:∃u,y=.str u
       ·obtain⟨u,rfl⟩:=hy;simp only[Qm]at h ⊢;split at h
        ·unfold acg at h ⊢
         grind
        ·cases h
       rw[ahf hy]at h ⊢;unfold Ql at h ⊢;split at h
       ·cases h
       ·rename_i rd ys ak4
        have acJ:∀l∈rd,l∈e.rd:=by
         grind
        have aFB:Xo J' sz y=some (rd,ys):=by
         unfold Xo at ak4 ⊢;split at ak4
         all_goals grind
        rw[aFB];simp only;split at h
        all_goals grind
      ·cases h
     ·cases h
    ·cases h
   all_goals grind
  |value f=>cases h
  |invoke r m=>cases h
 |makeMap t r=>
  cases r with
  |some r=>cases h
  |none=>cases h;simp only[kQ];rw[hnw (by simp)]
 |typeAssert x u t ok=>
  cases ok with
  |false=>cases h
  |true=>simp only[kQ]at h ⊢;grind [ae]
 |lookup t x k ok=>
  cases ok with
  |true=>
   simp only[kQ]at h ⊢;rw[Xr x (by simp [ae]),Xr k (by simp [ae])];split at h
   ·rename_i z l s ht Dt RB;unfold af6 at h ⊢;split at h
    ·rename_i es hl;split at h
     ·rename_i hs;cases h;rw[hrd l (by cases ze s es<;>simp [amm]),hl];simp [hs]
     ·cases h
    ·cases h
   ·cases h
  |false=>
   simp only[kQ]at h ⊢;rw[Xr x (by simp [ae]),Xr k (by simp [ae])];split at h
   ·rename_i z l s ht Dt RB;unfold ach at h ⊢
    grind
   ·cases h
 |range t x=>
  simp only[kQ]at h ⊢
  grind [ae]
 |next x st=>
  cases st with
  |false=>cases h
  |true=>
   simp only[kQ]at h ⊢;rw[Xr x (by simp [ae])];split at h
   ·rename_i l hv;unfold aci at h ⊢
    grind
   ·cases h
 |mapUpdate t x k y=>
  simp only[kQ]at h ⊢;rw[Xr x (by simp [ae]),Xr k (by simp [ae]),Xr y (by simp [ae])];split at h
  ·rename_i z l s ht Dt RB;unfold CH at h ⊢
   grind
  ·cases h
 |insert t x k y=>
  simp only[kQ]at h ⊢;rw[Xr x (by simp [ae]),Xr k (by simp [ae]),Xr y (by simp [ae])];split at h
  ·rename_i z l s ht Dt RB;unfold CH at h ⊢
   grind
  ·cases h
 |_=>cases h
end loc
end Go.Abs
