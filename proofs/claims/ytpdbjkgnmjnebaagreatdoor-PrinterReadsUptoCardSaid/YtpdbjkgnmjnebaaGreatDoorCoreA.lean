/- A part of the proof: abstract states and the rules for them. -/
import Derived.KernelRfl
import Derived.Calls
import Derived.Orders
import Derived.Laws.Sem
import Derived.Lib.FrozenHead
import Derived.Laws.CopyRow
import Derived.Laws.Cells
import Derived.Laws.Small
import Derived.RangeFuncRecord
import Derived.MapKept
import Derived.Lib.SliceRun
import Derived.Scope
import Derived.Deep.LoopGhost
import Derived.OrdersIn
set_option linter.all false
open Go renaming Operand→aRt,Value→aRu,World→aRv,FuncId→aRw,Program→aRx,TypeId→aRy
open Nat renaming lt_of_lt_of_le→aa,mul_le_mul_right→av,le_refl→aA,add_mul→aB,add_zero→bt,le_trans→bu,add_assoc→bO,one_mul→bU
open Go.Result renaming andThen_ok→ae,andThen→ar
open List renaming eq_nil_of_length_eq_zero→af,getElem?_eq_some_iff→aj,replicate→an,getElem?_append_left→az,flatten_cons→aD,getElem?_cons_zero→aF,length_cons→aG,getElem?_set_self→aR,append_assoc→aS,drop_drop→aT,drop_take→aY,getElem?_cons_succ→aZ,mem_cons→a7,take_left'→bb,drop_left'→bc,mem_append→bf,drop_append_of_le_length→bi,flatten_append→bl,all_eq_true→br,length_take→bw,length_nil→bB,drop_of_length_le→bC,tail_drop→bE,take_take→bF,getElem?_toArray→bG,length_replicate→bJ,modify_succ_cons→bK,mem_cons_of_mem→bL,mem_of_getElem?→bM,map_cons→bN,take_add→bQ,replicate_succ→bR
open Option.some renaming injEq→ah,inj→bV
open Go.Sem renaming run_bind→ai,run_pure→aq
open Go.MapKept renaming run_getObj_map→ak
open Go.Builtin renaming append_→am,firstCells→ap,nextslicecap→be,len_→bg,zeroCells→bq,growBy→bI,lenOf→bP
open ByteArray renaming empty→au
open Go.Instr renaming findNow→ax,sureAddr→ay,sliceBound→aC,sliceBounds→aE,lookup→aJ,indexAt→aL,buildSlice→aN,loadAt→aO,fieldAt→aP,mapUpdate→aQ,sliceAt→aV,sameNow→aW,makeSlice→bh,storeAt→bo,index→bD,next→bW
open Option renaming map_eq_some_iff→aH,bind_eq_some_iff→bA,isSome_none→bT
open Bool renaming false_eq_true→aI,and_eq_true→aU,not_false→bH
open Array renaming getElem?_eq_some_iff→aK,length_toList→bj,range→bn,toList_map→bz,toList_append→bS
open Go.Lib renaming strCells→aM,run_append_own_stringF→bp
open List.cons renaming injEq→aX
open Prod.mk renaming injEq→a8
namespace Go.Abs
variable {parts:Array (Nat×aRt)}{c us:Array aRu}{op:BinOp}{g im tt:Bool}{s:ByteArray}{R:Ending->aRv->Prop}{f:aRw}{m:Int}{k:IntKind}{ms:List (Int×Int)}{ds:List Deferred}{rd:List Nat}{xs:List aRu}{D b cap l n off:Nat}{U U':Nat->aRu}{o:Oper}{ox:aRt}{base:Option Addr}{ro:Option Nat}{dst:Option Tmp}{P:aRx}{p:Prop}{r:Result Next}{W O:Type}{d:TypeDesc}{t ty:aRy}{i:TypeInfo}{h h' u v vx:aRu}{w w':aRv}
theorem jE {W:Sort _} (a b:W):cond true a b=a:=rfl
theorem jF {W:Sort _} (a b:W):cond false a b=b:=rfl
theorem jG [Decidable p] (h:p):decide p=true:=decide_eq_true h
theorem jH [Decidable p] (h:¬p):decide p=false:=decide_eq_false h
def jI [Decidable p] (h:decide p=true):p:=of_decide_eq_true h
def jJ [Decidable p] (h:decide p=false):¬p:=of_decide_eq_false h
def jK [Decidable p]:(decide p=true)=p:=decide_eq_true_eq
theorem jL {W:Type _} [BEq W] [LawfulBEq W] {a b:W}:(a==b)=true↔a=b:=beq_iff_eq
def jM {W:Sort _} {_:Decidable True} (t e:W):(if True then t else e)=t:=if_true t e
theorem jN {W:Sort _} {a b:W} (h:a=b:=by kernel_rfl):a=b:=h
def arU(o:Nat):Int:=if o=32\/(9<=o/\o<=13)then 1 else 0
def aGH(o:Nat):Option Int:=if o<256 then some (arU o)else none
def aI2(b o:Nat):Prop:=(b=0/\o=0)\/(b=1/\o<256)
def aI3(b o:Nat)(v:aRu):Prop:=(b=0->∃m,v=.int .i64 m)/\(b=1->v=.int .u8 (arU o))
def aLK(t k:Nat):Bool:=bif t==34 then(bif k==5 then false else true)else bif t==35 then(bif k==5 then false else true)else bif t==110 then(bif k==98 then false else bif k==24 then false else bif k==11 then false else bif k==34 then false else bif k==25 then false else true)else true
def aI4(t k:Nat):Bool:=bif t==110 then(bif k==24 then true else bif k==11 then true else bif k==34 then true else bif k==25 then true else false)else bif t==35 then(bif k==46 then true else bif k==9 then true else false)else bif t==23 then(bif k==100 then true else false)else false
def aI5(b:Nat):Option IntKind:=if b=1 then some .u8 else none
def aEg(b o:Nat):Option Int:=if b=1 then aGH o else none
def amx(t:Nat):Bool:=t==141
def Mk:Nat:=5
def aI6 {o:Nat}{n:Int}(h:aI5 b=some k)(h2:aEg b o=some n):aI2 b o/\∀v,aI3 b o v->v=.int k n:=by
 unfold aI5 at h;split at h
 ·rename_i hb;cases h;unfold aEg at h2;rw[if_pos hb]at h2;unfold aGH at h2;split at h2
  ·rename_i ho;cases h2;exact⟨.inr ⟨hb,ho⟩,fun v hv=>hv.2 hb⟩
  ·cases h2
 ·cases h
def aNn(b:Nat):Prop:=b=3
def aGI:Array aRu:=((List.range 20).map fun i=>Value.int .u64 ((10 ^ i:Nat):Int)).toArray
structure ay8(w:aRv)(M:Nat->Nat->Prop):Prop where
 cell:∀b o,aI2 b o->∃v,w.cell? ⟨b,o,none⟩=some v/\aI3 b o v/\ ¬ M b o
 row:∀b,aNn b->(∀o,¬ M b o)/\∃t fz,w.heap[b]? =some (.cells aGI t fz)
inductive AV where
 |any
 |bool (b:Bool)
 |int (k:IntKind) (n:Int)
 |str (s:ByteArray)
 |sV (v:aRu)
 |agg (cs:List AV)
 |I3 (cs:List AV)
 |kF (tight:Bool) (sz:Nat) (rows:List (List AV))
 |lR (l n:Nat)
 |own (l off len cap sz:Nat)
 |ptr (l off:Nat)
 |map (l:Nat)
 |pp (cs:List AV)
 |func (fn:Fn) (first captured:List AV)
 |iface (t:aRy) (x:AV)
 |sn (t:aRy) (l:Nat)
variable {x y:AV}{es:List (AV×AV)}{df:List (aRw×List AV)}{rows ys:List (List AV)}{args cs z:List AV}
instance:Inhabited AV:=⟨.any⟩
structure CS where
 w:aRv
 mu:Nat->Nat->Prop
 U:Nat->aRu
 ln:Nat->Option Nat
 n:Nat
variable {E E':CS}
def hdl:aRu->Option Nat
 |.map r=>r
 |.func (.yield r) _ _=>some r
 |_=>none
mutual
def pm(E:CS):AV->aRu->Prop
 |.any,_=>True
 |.bool b,v=>v=.bool b
 |.int k n,v=>v=.int k n
 |.str s,v=>v=.string s
 |.sV u,v=>v=u
 |.agg cs,v=>∃vs:Array aRu,v=.agg vs/\kP E cs vs.toList
 |.I3 cs,v=>∃vs:Array aRu,v=.tuple vs/\kP E cs vs.toList
 |.kF t sz rows,v=>∃base cap,v=.slice base rows.length cap/\rows.length<=cap/\(t=true->cap=rows.length)/\(base=none->cap=0)/\
     (∀a,base=some a->(rows≠[]->a.spot=none))/\(∀a,base=some a->ol E sz a.block a.off rows)
 |.lR l n,v=>l<E.n/\(∃b m c,v=.slice b m c)/\∀k,E.ln l=some k->n<=k/\(n=k->v=E.U l)
 |.own l i n o sz,v=>l<E.n/\(∃a,v=.pointer (some a))/\∀k,E.ln l=some k->n<=k/\(n=k->∃b off m c,E.U l=.slice (some ⟨b,off,none⟩) m c/\v=.pointer (some ⟨b,off+i*sz+o,none⟩))
 |.ptr l off,v=>l<E.n/\∃b,E.U l=.pointer (some ⟨b,0,none⟩)/\v=.pointer (some ⟨b,off,none⟩)
 |.map l,v=>l<E.n/\v=E.U l/\∃r,hdl (E.U l)=some r
 |.pp cs,v=>∃b off,v=.pointer (some ⟨b,off,none⟩)/\oV E b off cs
 |.func fn f c,v=>∃f' c':Array aRu,v=.func fn f' c'/\kP E f f'.toList/\kP E c c'.toList
 |.iface t x,v=>∃u,v=.iface t u/\pm E x u
 |.sn t l,v=>l<E.n/\∃b,E.U l=.pointer (some ⟨b,0,none⟩)/\(v=.pointer none\/v=.pointer (some ⟨b,0,none⟩))/\∃c fz,E.w.heap[b]? =some (.cells c t fz)
def kP(E:CS):List AV->List aRu->Prop
 |[],vs=>vs=[]
 |c::cs,vs=>∃u us,vs=u::us/\pm E c u/\kP E cs us
def oV(E:CS)(b off:Nat):List AV->Prop
 |[]=>True
 |c::cs=>(¬ E.mu b off/\∃u,E.w.cell? ⟨b,off,none⟩=some u/\u.oneCell'=true/\pm E c u)/\oV E b (off+1) cs
def ol(E:CS)(sz b off:Nat):List (List AV)->Prop
 |[]=>True
 |r::rs=>r.length=sz/\oV E b off r/\ol E sz b (off+sz) rs
end
def tyk(w w':aRv):Prop:=∀(b:Nat)(c:Array aRu)(t:aRy)(fz:Nat×Nat),w.heap[b]? =some (Obj.cells c t fz)->∃(c':Array aRu)(fz':Nat×Nat),w'.heap[b]? =some (Obj.cells c' t fz')
def CT(w:aRv):tyk w w:=fun _ c _ fz h=>⟨c,fz,h⟩
def tyk.trans {w'':aRv}(h:tyk w w')(k:tyk w' w''):tyk w w'':=fun b c t fz hc=>by
 obtain⟨c',fz',h'⟩:=h b c t fz hc;exact k b c' t fz' h'
def arV(h:∀b,b<w.heap.size->w'.heap[b]? =w.heap[b]?):tyk w w':=fun b c t fz hc=>by
 refine⟨c,fz,?_⟩
 rw[h b (by
  rcases Nat.lt_or_ge b w.heap.size with h'|h'
  ·exact h'
  ·simp [Array.getElem?_eq_none h']at hc)]
 exact hc
def amy {w1:aRv}(o:Obj)(h:w1.heap=w.heap.push o):tyk w w1:=arV fun b hb=>by
 rw[h,Array.getElem?_push,if_neg (by omega)]
def aw8{o:Obj}(hD:w.heap[D]? =some o)(ho:∀c t fz,o≠ .cells c t fz)(h:∀b,b≠D->w'.heap[b]? =w.heap[b]?):tyk w w':=fun b c t fz hc=>by
 refine⟨c,fz,?_⟩;rw[h b (fun e=>by subst e;rw[hD]at hc;exact ho c t fz (bV hc))];exact hc
structure CS.Le(N:Nat)(E E':CS):Prop where
 n:N<=E'.n
 mA:∀l,l<N->(E'.U l=E.U l/\(E'.ln l=E.ln l\/E'.ln l=none))\/
  ((∃k,E.ln l=some k/\∀k',E'.ln l=some k'->k<k')/\(∀a,E.U l≠ .pointer a)/\hdl (E.U l)=none)
 mem:∀b o u,¬ E.mu b o->E.w.cell? ⟨b,o,none⟩=some u-> ¬ E'.mu b o/\E'.w.cell? ⟨b,o,none⟩=some u
 ty:tyk E.w E'.w
mutual
def AV.nb(N:Nat):AV->Prop
 |.agg cs|.I3 cs|.pp cs=>uc N cs
 |.kF _ _ rows=>Jv N rows
 |.lR l _|.own l _ _ _ _|.ptr l _|.map l|.sn _ l=>l<N
 |.func _ f c=>uc N f/\uc N c
 |.iface _ x=>x.nb N
 |.any|.bool _|.int _ _|.str _|.sV _=>True
def uc(N:Nat):List AV->Prop
 |[]=>True
 |c::cs=>c.nb N/\uc N cs
def Jv(N:Nat):List (List AV)->Prop
 |[]=>True
 |r::rs=>uc N r/\Jv N rs
end
section
variable {N:Nat}
mutual
def pm.mono(h:E.Le N E'):∀(x:AV)(v:aRu),x.nb N->pm E x v->pm E' x v
 |.any,_,_,_=>trivial
 |.bool _,_,_,r=>r
 |.int _ _,_,_,r=>r
 |.str _,_,_,r=>r
 |.sV _,_,_,r=>r
 |.agg cs,_,hb,⟨vs,hv,hr⟩=>⟨vs,hv,kP.mono h cs _ hb hr⟩
 |.I3 cs,_,hb,⟨vs,hv,hr⟩=>⟨vs,hv,kP.mono h cs _ hb hr⟩
 |.kF _ _ rows,_,hb,⟨base,cap,h1,h2,h3,h4,h5,h6⟩=>⟨base,cap,h1,h2,h3,h4,h5,fun a ha=>ol.mono h rows _ hb (h6 a ha)⟩
 | .lR l n,v,hb,⟨_,hsl,r⟩=>by
   refine⟨aa hb h.n,hsl,fun k' PL=>?_⟩;rcases h.mA l hb with⟨hφ,hl|hl⟩|⟨⟨k,hk,sJ⟩,_⟩
   ·rw[hl]at PL;rw[hφ];exact r k' PL
   ·rw[hl]at PL;cases PL
   ·have:=sJ k' PL;have:=r k hk;exact⟨by omega,fun e=>by omega⟩
 | .own l i n o sz,v,hb,⟨_,hsl,r⟩=>by
   refine⟨aa hb h.n,hsl,fun k' PL=>?_⟩;rcases h.mA l hb with⟨hφ,hl|hl⟩|⟨⟨k,hk,sJ⟩,_⟩
   ·rw[hl]at PL;rw[hφ];exact r k' PL
   ·rw[hl]at PL;cases PL
   ·have:=sJ k' PL;have:=r k hk;exact⟨by omega,fun e=>by omega⟩
 | .ptr l off,v,hb,⟨_,b,hφ,hv⟩=>by
   refine⟨aa hb h.n,b,?_,hv⟩;rcases h.mA l hb with⟨h1,_⟩|⟨_,h2,_⟩
   ·rw[h1];exact hφ
   ·exact absurd hφ (h2 _)
 | .map l,v,hb,⟨_,hv,r,hφ⟩=>by
   refine⟨aa hb h.n,?_,r,?_⟩
   all_goals rcases h.mA l hb with⟨h1,_⟩|⟨_,_,h2⟩
   ·rw[h1];exact hv
   ·rw[h2]at hφ;cases hφ
   ·rw[h1];exact hφ
   ·rw[h2]at hφ;cases hφ
 |.pp cs,_,hb,⟨b,off,hv,r⟩=>⟨b,off,hv,oV.mono h cs _ hb r⟩
 |.func _ f c,_,hb,⟨f',c',hv,r1,r2⟩=>⟨f',c',hv,kP.mono h f _ hb.1 r1,kP.mono h c _ hb.2 r2⟩
 |.iface _ x,_,hb,⟨u,hv,r⟩=>⟨u,hv,pm.mono h x _ hb r⟩
 | .sn t l,v,hb,⟨_,b,hφ,hv,c,fz,hc⟩=>by
   refine⟨aa hb h.n,b,?_,hv,h.ty b c t fz hc⟩;rcases h.mA l hb with⟨h1,_⟩|⟨_,h2,_⟩
   ·rw[h1];exact hφ
   ·exact absurd hφ (h2 _)
def kP.mono(h:E.Le N E'):∀(cs:List AV)(vs:List aRu),uc N cs->kP E cs vs->kP E' cs vs
 |[],_,_,r=>r
 |c::cs,_,hb,⟨u,us,hv,r1,r2⟩=>⟨u,us,hv,pm.mono h c _ hb.1 r1,kP.mono h cs _ hb.2 r2⟩
def oV.mono(h:E.Le N E'){b:Nat}:∀(cs:List AV)(off:Nat),uc N cs->oV E b off cs->oV E' b off cs
 |[],_,_,_=>trivial
 |c::cs,off,hb,⟨⟨hm,u,hu,h1,r1⟩,r2⟩=>
  let ⟨m,c'⟩:=h.mem b off u hm hu
  ⟨⟨m,u,c',h1,pm.mono h c _ hb.1 r1⟩,oV.mono h cs _ hb.2 r2⟩
def ol.mono(h:E.Le N E'){sz b:Nat}:∀(rs:List (List AV))(off:Nat),Jv N rs->ol E sz b off rs->ol E' sz b off rs
 |[],_,_,_=>trivial
 |r::rs,off,hb,⟨hl,r1,r2⟩=>⟨hl,oV.mono h r _ hb.1 r1,ol.mono h rs _ hb.2 r2⟩
end
mutual
theorem pm.nb:∀(x:AV)(v:aRu),pm E x v->x.nb E.n
 |.any,_,_|.bool _,_,_|.int _ _,_,_|.str _,_,_|.sV _,_,_=>trivial
 |.agg cs,_,⟨_,_,hr⟩=>kP.nb cs _ hr
 |.I3 cs,_,⟨_,_,hr⟩=>kP.nb cs _ hr
 | .kF _ _ rows,_,⟨base,cap,h1,h2,h3,h4,h5,h6⟩=>by
   cases base with
   |none=>
    have:rows.length=0:=by have:=h4 rfl;omega
    have:rows=[]:=af this;subst this;trivial
   |some a=>exact ol.nb rows _ (h6 a rfl)
 |.lR _ _,_,⟨h,_⟩=>h
 |.own _ _ _ _ _,_,⟨h,_⟩=>h
 |.ptr _ _,_,⟨h,_⟩=>h
 |.map _,_,⟨h,_⟩=>h
 |.pp cs,_,⟨_,_,_,r⟩=>oV.nb cs _ r
 |.func _ f c,_,⟨_,_,_,r1,r2⟩=>⟨kP.nb f _ r1,kP.nb c _ r2⟩
 |.iface _ x,_,⟨_,_,r⟩=>pm.nb x _ r
 |.sn _ _,_,⟨h,_⟩=>h
theorem kP.nb:∀(cs:List AV)(vs:List aRu),kP E cs vs->uc E.n cs
 |[],_,_=>trivial
 |c::cs,_,⟨_,_,_,r1,r2⟩=>⟨pm.nb c _ r1,kP.nb cs _ r2⟩
theorem oV.nb{b:Nat}:∀(cs:List AV)(off:Nat),oV E b off cs->uc E.n cs
 |[],_,_=>trivial
 |c::cs,_,⟨⟨_,_,_,_,r1⟩,r2⟩=>⟨pm.nb c _ r1,oV.nb cs _ r2⟩
theorem ol.nb{sz b:Nat}:∀(rs:List (List AV))(off:Nat),ol E sz b off rs->Jv E.n rs
 |[],_,_=>trivial
 |r::rs,_,⟨_,r1,r2⟩=>⟨oV.nb r _ r1,ol.nb rs _ r2⟩
end
mutual
def AV.apP{M:Nat}(h:N<=M):∀x:AV,x.nb N->x.nb M
 |.any,_|.bool _,_|.int _ _,_|.str _,_|.sV _,_=>trivial
 |.agg cs,r=>sy h cs r
 |.I3 cs,r=>sy h cs r
 |.pp cs,r=>sy h cs r
 |.kF _ _ rows,r=>aw9 h rows r
 |.lR _ _,r=>aa r h
 |.own _ _ _ _ _,r=>aa r h
 |.ptr _ _,r=>aa r h
 |.map _,r=>aa r h
 |.func _ f c,r=>⟨sy h f r.1,sy h c r.2⟩
 |.iface _ x,r=>AV.apP h x r
 |.sn _ _,r=>aa r h
def sy{M:Nat}(h:N<=M):∀cs:List AV,uc N cs->uc M cs
 |[],_=>trivial
 |c::cs,r=>⟨AV.apP h c r.1,sy h cs r.2⟩
def aw9{M:Nat}(h:N<=M):∀rs:List (List AV),Jv N rs->Jv M rs
 |[],_=>trivial
 |r::rs,q=>⟨sy h r q.1,aw9 h rs q.2⟩
end
end
section lists

theorem kP.length:∀{cs:List AV}{vs:List aRu},kP E cs vs->vs.length=cs.length
 |[],_,rfl=>rfl
 |_::_,_,⟨_,_,rfl,_,r2⟩=>by simp [kP.length r2]
def kP.get:∀{cs:List AV}{vs:List aRu}{i:Nat}{c:AV},kP E cs vs->cs[i]? =some c->∃v,vs[i]? =some v/\pm E c v
 |c::cs,_,0,_,⟨u,us,rfl,r1,r2⟩,h=>by
  simp at h;subst h;exact⟨u,by simp,r1⟩
 |c::cs,_,i+1,_,⟨u,us,rfl,r1,r2⟩,h=>by
  simp at h;obtain⟨v,hv,r⟩:=kP.get r2 h;exact⟨v,by simpa using hv,r⟩
def kP.set:∀{cs:List AV}{vs:List aRu}{i:Nat}{c:AV}{v:aRu},kP E cs vs->pm E c v->kP E (cs.set i c) (vs.set i v)
 |[],_,_,_,_,rfl,_=>rfl
 |_::_,_,0,_,v,⟨_,us,rfl,_,r2⟩,r=>⟨v,us,rfl,r,r2⟩
 |_::_,_,i+1,_,v,⟨u,us,rfl,r1,r2⟩,r=>⟨u,us.set i v,rfl,r1,kP.set r2 r⟩
theorem kP.append:∀{cs ds:List AV}{vs us:List aRu},kP E cs vs->kP E ds us->kP E (cs++ds) (vs++us)
 |[],_,_,_,rfl,r=>r
 |_::_,_,_,_,⟨u,us,rfl,r1,r2⟩,r=>⟨u,us++_,rfl,r1,kP.append r2 r⟩
theorem kP.take:∀{cs:List AV}{vs:List aRu}(k:Nat),kP E cs vs->kP E (cs.take k) (vs.take k)
 |[],_,_,rfl=>by simp [kP]
 |_::_,_,0,_=>by simp [kP]
 |_::_,_,k+1,⟨u,us,rfl,r1,r2⟩=>⟨u,us.take k,by simp,r1,kP.take k r2⟩
theorem kP.drop:∀{cs:List AV}{vs:List aRu}(k:Nat),kP E cs vs->kP E (cs.drop k) (vs.drop k)
 |[],_,_,rfl=>by simp [kP]
 |_::_,_,0,h=>by simpa using h
 |_::_,_,k+1,⟨u,us,rfl,r1,r2⟩=>by simpa using kP.drop k r2
def kP.Fl:∀(vs:List aRu),kP E (an vs.length .any) vs
 |[]=>rfl
 |v::vs=>⟨v,vs,rfl,trivial,kP.Fl vs⟩
theorem oV.drop:∀{cs:List AV}{off:Nat}(k:Nat),oV E b off cs->oV E b (off+k) (cs.drop k)
 |[],_,_,_=>by simp [oV]
 |_::_,_,0,h=>by simpa using h
 |_::_,off,k+1,⟨_,r⟩=>by
  have:=oV.drop k r
  grind
def ol.get {sz:Nat}:∀{rs:List (List AV)}{off i:Nat}{r:List AV},ol E sz b off rs->rs[i]? =some r->
 r.length=sz/\oV E b (off+i*sz) r
 |_::_,off,0,_,⟨hl,m,_⟩,h=>by grind
 |_::_,off,i+1,_,⟨_,_,r⟩,h=>by
  simp at h;obtain⟨h1,h2⟩:=ol.get r h
  grind
theorem ol.drop {sz:Nat}:∀{rs:List (List AV)}{off:Nat}(k:Nat),k<=rs.length->ol E sz b off rs->ol E sz b (off+k*sz) (rs.drop k)
 |[],_,_,_,_=>by simp [ol]
 |_::_,_,0,_,h=>by simpa using h
 |_::_,off,k+1,hk,⟨_,_,r⟩=>by
  have:=ol.drop k (by simpa using hk) r
  grind
theorem ol.take {sz:Nat}:∀{rs:List (List AV)}{off:Nat}(k:Nat),ol E sz b off rs->ol E sz b off (rs.take k)
 |[],_,_,_=>by simp [ol]
 |_::_,_,0,_=>by simp [ol]
 |_::_,_,k+1,⟨h1,h2,r⟩=>⟨h1,h2,ol.take k r⟩
theorem oV.append:∀{cs ds:List AV}{off:Nat},oV E b off cs->oV E b (off+cs.length) ds->oV E b off (cs++ds)
 |[],_,_,_,h=>by simpa using h
 |c::cs,_,off,⟨h1,h3⟩,h=>by
  refine⟨h1,oV.append h3 ?_⟩
  grind
end lists
structure xI where
 ps:Array Tmp
 assign:Code
 body:Code
 js:List (Int×Code)
def ay9:List (Int×Code)->Int->Option Code
 |[],_=>none
 |(k,c)::cs,j=>match cs with
  |[]=>some c
  |_::_=>bif j==k then some c else ay9 cs j
def pV(js:List (Int×Code))(j:Int):Option Code:=bif j==0 then none else ay9 js j
inductive j5 where
 |cells (cs:List AV)
 |lR (ub:Bool) (sz:Nat) (rows:List (List AV))
 |map (es:List (AV×AV))
 |loop (k:xI) (j9:List AV) (st:LoopState) (uA:Int)
 |iter (s:ByteArray) (pos:Nat)
 |Jw (s:ByteArray)
 |vZ
variable {H H':List j5}
structure jS where
 j9:List AV
 heap:List j5
 low:Nat:=0
 df:List (aRw×List AV):=[]
variable {J:jS}
def Ml:aRu->AV
 |.int k n=>.int k n
 |.bool b=>.bool b
 |.string s=>.str s
 |.slice none 0 0=>.kF true 0 []
 |v=>.sV v
def jS.ev(J:jS):aRt->AV
 |.tmp t=>J.j9.getD t .any
 |.const v=>Ml v
 |.global g=>.sV (.pointer (some ⟨g,0,none⟩))
 |.func f=>.func (.func f) [] []
def jS.put(J:jS)(dst:Option Tmp)(x:AV):jS:=
 match dst with
 |some d=>{J with j9:=J.j9.set d x}
 |none=>J
def j5.Bk:j5->aRu->Nat->Nat->Prop
 |.cells _,.pointer (some a),b,_=>b=a.block
 |.lR ub sz _,.slice (some a) n cap,b,o=>(b=a.block/\cap≠0)/\(ub=true->a.off+n*sz<=o)
 |.map _,.map (some r),b,_=>b=r
 |.loop _ _ _ _,.func (.yield r) _ _,b,_=>b=r\/b+1=r
 |.iter _ _,.pointer (some a),b,_=>b=a.block
 |.Jw _,h,b,_=>h.ownBlock=some b
 |_,_,_,_=>False
def j5.block:j5->aRu->Nat->Prop
 |.cells _,.pointer (some a),b=>b=a.block
 |.lR _ _ _,.slice (some a) _ cap,b=>b=a.block/\cap≠0
 |.map _,.map (some r),b=>b=r
 |.loop _ _ _ _,.func (.yield r) _ _,b=>b=r\/b+1=r
 |.iter _ _,.pointer (some a),b=>b=a.block
 |.Jw _,h,b=>h.ownBlock=some b
 |_,_,_=>False
theorem j5.ot{x:j5}{o:Nat}(m:x.Bk h b o):x.block h b:=by
 unfold j5.Bk at m;grind [j5.block]
def GJ(U:Nat->aRu)(H:List j5)(b o:Nat):Prop:=∃(l:Nat)(x:j5),H[l]? =some x/\x.Bk (U l) b o
def mR:Option j5->Option Nat
 |some (.lR _ _ rows)=>some rows.length
 |some (.Jw s)=>some s.size
 |_=>none
def World.more(w:aRv)(o:Obj):aRv:={w with heap:=w.heap.push o}
def arW {w1:aRv}{o:Obj}(h:w1.heap=w.heap):tyk w (World.more w1 o):=amy o (by show w1.heap.push o=_;rw[h])
def arK(w:aRv)(b:Nat)(c':Array aRu):tyk w (w.setRow b c'):=fun b' c t fz hc=>by
 by_cases e:b'=b
 ·subst e;exact⟨c',fz,setRow_heap w b' c c' t fz hc⟩
 ·exact⟨c,fz,by rw[setRow_other w b b' c' e];exact hc⟩
def ac6 {base e sz:Nat}(h:w.ownsRowF base e sz v n xs)(hs:∀b,v.ownBlock=some b->w'.heap[b]? =w.heap[b]?):w'.ownsRowF base e sz v n xs:=by
 refine⟨h.1,?_⟩;rcases h.2 with hn|⟨g,cap,cur,fz,rfl,hb,hg,rest⟩
 ·exact .inl hn
 ·exact .inr ⟨g,cap,cur,fz,rfl,hb,by rw[hs g rfl];exact hg,rest⟩
structure qC where
 P:aRx
 w0:aRv
 M0:Nat->Nat->Prop
 A:Nat->Nat->Prop
 hA:∀b o,A b o->b<w0.heap.size
 hk:ay8 w0 M0
 N0:Nat:=0
 U0:Nat->aRu:=fun _=>.tuple #[]
 ln0:Nat->Option Nat:=fun _=>none
variable {C:qC}
def qC.env(C:qC)(U:Nat->aRu)(H:List j5)(w:aRv):CS:=
 {w,mu:=fun b o=>GJ U H b o\/C.A b o,U,ln:=fun l=>mR H[l]?,n:=H.length}
def rJ(E:CS):List (AV×AV)->List MapEntry->Prop
 |[],es=>es=[]
 |(k,v)::r,es=>∃e s,es=e::s/\pm E k e.key/\pm E v e.val/\rJ E r s
def oP(E:CS):j5->aRu->Prop
 |.cells cs,h=>∃b c t,h=.pointer (some ⟨b,0,none⟩)/\E.w.heap[b]? =some (.cells c t (0,0))/\kP E cs c.toList/\∀u∈c.toList,u.oneCell'=true
 |.lR _ sz rows,h=>∃base cap,h=.slice base rows.length cap/\rows.length<=cap/\(base=none->cap=0)/\(∀r∈rows,r.length=sz)/\
     ∀a,base=some a->cap≠0->a.spot=none/\∃c t,E.w.heap[a.block]? =some (.cells c t (0,0))/\a.off+cap*sz<=c.size/\
      kP E rows.flatten ((c.toList.drop a.off).take (rows.length*sz))/\∀u∈(c.toList.drop a.off).take (rows.length*sz),u.oneCell'=true
 |.map es,h=>∃r entries clock,h=.map (some r)/\E.w.heap[r]? =some (.map entries clock)/\rJ E es entries.toList
 |.loop k j9 st uA,h=>∃D rec,h=.func (.yield (D+1)) #[] #[]/\E.w.heap[D+1]? =some (.loop rec)/\E.w.heap[D]? =some (.deferred (some []))/\
     (rec.params=k.ps/\rec.assign=k.assign/\rec.body=k.body/\rec.state=st/\rec.pending=pV k.js uA/\rec.defers=D)/\kP E j9 rec.tmps.toList
 |.iter s p,h=>∃b,h=.pointer (some ⟨b,0,none⟩)/\E.w.heap[b]? =some (.stringIter s p)
 |.Jw s,h=>E.w.ownsRowF 0 Mk 1 h s.size (aM s)
 |.vZ,_=>True
def aI7(C:qC)(U:Nat->aRu)(H:List j5):Prop:=∀l,l<C.N0->(U l=C.U0 l/\(mR H[l]? =C.ln0 l\/mR H[l]? =none))\/
 ((∃k,C.ln0 l=some k/\∀k',mR H[l]? =some k'->k<k')/\(∀a,C.U0 l≠ .pointer a)/\hdl (C.U0 l)=none)
def amz(d:Deferred):Bool:=match d.target with
 |.collected _=>true
 |_=>false
def QM(E:CS):List (aRw×List AV)->List Deferred->Prop
 |[],ds=>ds=[]
 |(f,xs)::r,ds=>∃d s cap,ds=d::s/\d.target=.fn (.func f) cap/\kP E xs (d.args++cap).toList/\QM E r s
def QM.imp(h:∀(xs:List AV)(vs:List aRu),kP E xs vs->kP E' xs vs):∀{df:List (aRw×List AV)}{ds:List Deferred},QM E df ds->QM E' df ds
 |[],_,r=>r
 |_::_,_,⟨d,s,cap,h1,h2,h3,h4⟩=>⟨d,s,cap,h1,h2,h _ _ h3,QM.imp h h4⟩
def QM.mono(h:E.Le E.n E')(r:QM E df ds):QM E' df ds:=
 r.imp fun _ _ r=>kP.mono h _ _ (kP.nb _ _ r) r
theorem QM.nb:∀{df:List (aRw×List AV)}{ds:List Deferred},QM E df ds->∀p∈df,uc E.n p.2
 |[],_,_,_,h=>by cases h
 |q::r,_,⟨_,_,_,_,_,h3,h4⟩,p,hp=>by
  rcases a7.1 hp with rfl|hp
  ·exact kP.nb _ _ h3
  ·exact QM.nb h4 p hp
def tv(C:qC)(U:Nat->aRu)(H:List j5)(w:aRv)(df:List (aRw×List AV))(ds:List Deferred):Prop:=
 (ds.filter amz).Nodup/\(∀d∈ds,amz d=true->∃D,d=⟨.collected D,#[]⟩/\w.heap[D]? =some (.deferred (some []))/\C.w0.heap.size<=D/\∀(l:Nat)(x:j5),H[l]? =some x-> ¬ x.block (U l) D)/\
   QM (C.env U H w) df (ds.filter fun d=> !amz d)
theorem tv.nil:tv C U H w [] []:=⟨List.nodup_nil,fun _ h _=>(by cases h),rfl⟩
def tv.aza(h:tv C U H w df ds)
 (hr:∀(xs:List AV)(vs:List aRu),(∃f,(f,xs)∈df)->kP (C.env U H w) xs vs->kP (C.env U' H' w') xs vs)
 (Jy:∀b,b<w.heap.size->(∀(l:Nat)(x:j5),H[l]? =some x-> ¬ x.block (U l) b)->w'.heap[b]? =w.heap[b]?)
 (I4:∀(l:Nat)(x:j5)(b:Nat),H'[l]? =some x->x.block (U' l) b->(∃(k:Nat)(y:j5),H[k]? =some y/\y.block (U k) b)\/w.heap.size<=b):tv C U' H' w' df ds:=by
 refine⟨h.1,fun d hd hm=>?_,?_⟩
 ·obtain⟨D,h1,h2,h3,h4⟩:=h.2.1 d hd hm
  grind
 ·have key:∀(df':List (aRw×List AV))(ds':List Deferred),(∀p∈df',p∈df)->QM (C.env U H w) df' ds'->QM (C.env U' H' w') df' ds':=by
   intro df';induction df' with
   |nil=>intro _ _ r;exact r
   |cons p r ih=>
    intro ds' hp ⟨d,s,cap,h1,h2,h3,h4⟩;exact⟨d,s,cap,h1,h2,hr _ _ ⟨p.1,hp p (List.mem_cons_self ..)⟩ h3,ih _ (fun q hq=>hp q (bL _ hq)) h4⟩
  exact key df _ (fun _ h=>h) h.2.2
theorem tv.step(h:tv C U H w df ds)(le:(C.env U H w).Le H.length (C.env U' H' w'))
 (Jy:∀b,b<w.heap.size->(∀(l:Nat)(x:j5),H[l]? =some x-> ¬ x.block (U l) b)->w'.heap[b]? =w.heap[b]?)
 (I4:∀(l:Nat)(x:j5)(b:Nat),H'[l]? =some x->x.block (U' l) b->(∃(k:Nat)(y:j5),H[k]? =some y/\y.block (U k) b)\/w.heap.size<=b):tv C U' H' w' df ds:=
 h.aza (fun xs vs _ r=>kP.mono le _ _ (kP.nb _ _ r) r) Jy I4
theorem tv.same(h:tv C U H w df ds)(le:(C.env U H w).Le H.length (C.env U H w'))(Jy:∀b,b<w.heap.size->w'.heap[b]? =w.heap[b]?):tv C U H w' df ds:=
 h.step le (fun b hb _=>Jy b hb) (fun l x b hx hb=>.inl ⟨l,x,hx,hb⟩)
structure nF(C:qC)(U:Nat->aRu)(J:jS)(a:Act)(w:aRv):Prop where
 j9:kP (C.env U J.heap w) J.j9 a.tmps.toList
 defers:tv C U J.heap w J.df a.defers
 om:∀(l:Nat)(x:j5),J.heap[l]? =some x->oP (C.env U J.heap w) x (U l)
 apart:∀(l l':Nat)(x x':j5)(b:Nat),J.heap[l]? =some x->J.heap[l']? =some x'->x.block (U l) b->x'.block (U l') b->l=l'
 uh:∀(l:Nat)(x:j5)(b o:Nat),J.heap[l]? =some x->x.block (U l) b-> ¬ C.A b o
 size:C.w0.heap.size<=w.heap.size
 old:∀b o,b<C.w0.heap.size-> ¬ C.M0 b o->w.cell? ⟨b,o,none⟩=C.w0.cell? ⟨b,o,none⟩
 n8:∀b,b<C.w0.heap.size->(∀o,¬ C.M0 b o)->w.heap[b]? =C.w0.heap[b]?
 Cn:∀(l:Nat)(x:j5)(b o:Nat),J.heap[l]? =some x->x.Bk (U l) b o->b<C.w0.heap.size->C.M0 b o
 wZ:∀a,a.block<C.w0.heap.size->(∀o,¬ C.M0 a.block o)->w.frozen? a=C.w0.frozen? a
 rest:w.output=C.w0.output/\w.os=C.w0.os
 low:C.N0=J.low/\J.low<=J.heap.length
 mA:aI7 C U J.heap
 ty:tyk C.w0 w:=by first|exact S.ty|exact S.ty.trans (by first|exact fun _ c _ fz h=>⟨c,fz,h⟩|exact arW rfl|exact arK _ _ _|exact arV (by assumption)|assumption)|exact S.ty.trans S'.ty|exact fun _ c _ fz h=>⟨c,fz,h⟩|(rw[h0];exact CT _)
section basics
variable {a:Act}
def avZ(E:CS)(v:aRu):pm E (Ml v) v:=by
 unfold Ml;split
 ·rfl
 ·rfl
 ·rfl
 ·exact⟨none,0,rfl,aA _,fun _=>rfl,fun _=>rfl,(by intro a h;cases h),(by intro a h;cases h)⟩
 ·rfl
theorem nF.ev(S:nF C U J a w)(x:aRt):pm (C.env U J.heap w) (J.ev x) (a.eval x):=by
 cases x with
 |tmp t=>
  simp only[jS.ev,Act.eval,List.getD];cases h:J.j9[t]? with
  |none=>exact trivial
  |some c=>
   obtain⟨v,hv,r⟩:=S.j9.get h
   simp_all
 |const v=>exact avZ _ v
 |global g=>rfl
 |func f=>exact⟨#[],#[],rfl,rfl,rfl⟩
theorem nF.put(S:nF C U J a w)(dst:Option Tmp)(r:pm (C.env U J.heap w) x v):nF C U (J.put dst x) (a.put dst v) w:=by
 cases dst with
 |none=>exact S
 |some d=>
  refine {S with j9:=?_,defers:=S.defers};have:=S.j9.set (i:=d) r
  grind [jS.put,Act.put]
def qC.CU(hn:H.length<=H'.length)
 (hφ:∀l,l<H.length->U' l=U l/\mR H'[l]? =mR H[l]?)
 (aI8:∀b o u,¬ (GJ U H b o\/C.A b o)->w.cell? ⟨b,o,none⟩=some u-> ¬ (GJ U' H' b o\/C.A b o)/\w'.cell? ⟨b,o,none⟩=some u) (ht:tyk w w':=by first|exact fun _ c _ fz h=>⟨c,fz,h⟩|exact arW rfl|exact arK _ _ _|exact arV (by assumption)|assumption):
 (C.env U H w).Le H.length (C.env U' H' w'):=
 ⟨hn,fun l hl=>.inl ⟨(hφ l hl).1,.inl (hφ l hl).2⟩,aI8,ht⟩
theorem F6 {o:Nat}(h:w.cell? ⟨b,o,none⟩=some u):b<w.heap.size:=by
 grind [World.cell?]
def nF.know(S:nF C U J a w):ay8 w (GJ U J.heap) where
 cell b o h:=by
  obtain⟨v,hc,hv,hm⟩:=C.hk.cell b o h;have hb:=F6 hc;refine⟨v,by rw[S.old b o hb hm];exact hc,hv,?_⟩;rintro⟨l,x,hx,hmu⟩;exact hm (S.Cn l x b o hx hmu hb)
 row b h:=by
  obtain⟨hm,t,fz,hc⟩:=C.hk.row b h;have hb:b<C.w0.heap.size:=(aK.1 hc).1;refine⟨?_,t,fz,by rw[S.n8 b hb hm];exact hc⟩;rintro o ⟨l,x,hx,hmu⟩;exact hm o (S.Cn l x b o hx hmu hb)
@[simp] theorem Vy(w:aRv)(o:Obj):(World.more w o).heap.size=w.heap.size+1:=by simp [World.more]
theorem yZ(w:aRv)(o:Obj)(h:b<w.heap.size):(World.more w o).heap[b]? =w.heap[b]? :=by
 grind [World.more]
theorem Jz(w:aRv)(o:Obj):(World.more w o).heap[w.heap.size]? =some o:=by
 show(w.heap.push o)[w.heap.size]? =some o;simp
theorem Fm(w:aRv)(o:Obj){i:Nat}(h:b<w.heap.size):(World.more w o).cell? ⟨b,i,none⟩=w.cell? ⟨b,i,none⟩:=by
 grind [World.cell?,yZ]
theorem auC(w:aRv)(c:Array aRu)(t:aRy)(i:Nat):(World.more w (.cells c t)).cell? ⟨w.heap.size,i,none⟩=c[i]? :=by
 grind [World.cell?,Jz]
theorem xa(w:aRv)(o:Obj)(ho:∀c t lo hi,o=.cells c t (lo,hi)->lo=0/\hi=0)(a:Addr):(World.more w o).frozen? a=w.frozen? a:=by
 grind [World.frozen?,World.more]
def oP.qP{x:j5}(r:oP E x h)(hb:x.block h b):b<E.w.heap.size:=by
 cases x with
 |cells cs=>
  obtain⟨b',c,t,rfl,hh,_⟩:=r
  grind [j5.block]
 |lR ub sz rows=>
  obtain⟨base,cap,rfl,_,_,_,hh⟩:=r;cases base with
  |none=>simp [j5.block]at hb
  |some a0=>
   grind [j5.block]
 |map es=>
  obtain⟨r',en,cl,rfl,hh,_⟩:=r
  grind [j5.block]
 |loop k j9 st uA=>
  obtain⟨D,rec,rfl,h1,h2,_⟩:=r
  grind [j5.block]
 |iter s p=>
  obtain⟨b',rfl,hh⟩:=r
  grind [j5.block]
 |Jw s=>exact(World.ownsRowF.lt r b hb).2
 |vZ=>simp [j5.block]at hb
def rJ.mono{N:Nat}(h:E.Le N E'):∀{es:List (AV×AV)}{xs:List MapEntry},(∀p∈es,p.1.nb N/\p.2.nb N)->rJ E es xs->rJ E' es xs
 |[],_,_,r=>r
 |(k,v)::_,_,hb,⟨e,s,he,r1,r2,r3⟩=>
  ⟨e,s,he,pm.mono h k _ (hb (k,v) (by simp)).1 r1,pm.mono h v _ (hb (k,v) (by simp)).2 r2,rJ.mono h (fun p hp=>hb p (by simp [hp])) r3⟩
theorem rJ.nb:∀{es:List (AV×AV)}{xs:List MapEntry},rJ E es xs->∀p∈es,p.1.nb E.n/\p.2.nb E.n
 |[],_,_=>by simp
 |(k,v)::_,_,⟨e,s,he,r1,r2,r3⟩=>by
  intro p hp;simp only[a7]at hp;rcases hp with rfl|hp
  ·exact⟨pm.nb _ _ r1,pm.nb _ _ r2⟩
  ·exact rJ.nb r3 p hp
def oP.mono{x:j5}{hd:aRu}(r:oP E x hd)(h:E.Le E.n E')(hs:∀b,x.block hd b->E'.w.heap[b]? =E.w.heap[b]?):oP E' x hd:=by
 cases x with
 |cells cs=>
  obtain⟨b,c,t,rfl,hh,rl,h1⟩:=r;exact⟨b,c,t,rfl,by rw[hs b rfl,hh],kP.mono h _ _ (kP.nb _ _ rl) rl,h1⟩
 |lR ub sz rows=>
  obtain⟨base,cap,rfl,h1,h2,h3,hh⟩:=r;refine⟨base,cap,rfl,h1,h2,h3,fun a0 ha hc=>?_⟩;obtain⟨h4,c,t,h5,h6,rl,h1⟩:=hh a0 ha hc;subst ha;exact⟨h4,c,t,by rw[hs _ ⟨rfl,hc⟩,h5],h6,kP.mono h _ _ (kP.nb _ _ rl) rl,h1⟩
 |map es=>
  obtain⟨r',en,cl,rfl,hh,rp⟩:=r;exact⟨r',en,cl,rfl,by rw[hs r' rfl,hh],rJ.mono h (rJ.nb rp) rp⟩
 |loop k j9 st uA=>
  obtain⟨D,rec,rfl,h1,h2,h3,rl⟩:=r;exact⟨D,rec,rfl,by rw[hs (D+1) (.inl rfl),h1],by rw[hs D (.inr rfl),h2],h3,kP.mono h _ _ (kP.nb _ _ rl) rl⟩
 |iter s p=>
  obtain⟨b,rfl,hh⟩:=r;exact⟨b,rfl,by rw[hs b rfl,hh]⟩
 |Jw s=>exact ac6 r hs
 |vZ=>trivial
theorem nF.more(S:nF C U J a w)(o:Obj)(ho:∀c t lo hi,o=.cells c t (lo,hi)->lo=0/\hi=0):nF C U J a (World.more w o):=by
 have le:(C.env U J.heap w).Le J.heap.length (C.env U J.heap (World.more w o)):=
  qC.CU (aA _) (fun _ _=>⟨rfl,rfl⟩) (fun b i u hm hc=>⟨hm,by grind [Fm,F6]⟩)
 refine {j9:=kP.mono le _ _ (kP.nb _ _ S.j9) S.j9,defers:=S.defers.same le (fun b hb=>yZ w o hb),om:=?_,apart:=S.apart,uh:=S.uh,size:=?_,old:=?_,n8:=?_,Cn:=S.Cn,wZ:=?_,rest:=S.rest,low:=S.low,mA:=S.mA}
 ·intro l x hx;have r:=S.om l x hx;exact oP.mono r le (fun b hb=>yZ w o (r.qP hb))
 ·have:=S.size;simp;omega
 ·intro b i hb hm;rw[Fm w o (aa hb S.size)];exact S.old b i hb hm
 ·intro b hb hm;rw[yZ w o (aa hb S.size)];exact S.n8 b hb hm
 ·intro x hx;rw[xa w o ho];exact S.wZ x hx
def nF.drew(S:nF C U J a w)(n:Nat):nF C U J a {w with drawn:=n}:=by
 have le:(C.env U J.heap w).Le J.heap.length (C.env U J.heap {w with drawn:=n}):=
  qC.CU (aA _) (fun _ _=>⟨rfl,rfl⟩) (fun b i u hm hc=>⟨hm,hc⟩)
 exact {j9:=kP.mono le _ _ (kP.nb _ _ S.j9) S.j9,defers:=S.defers.same le (fun _ _=>rfl),om:=fun l x hx=>oP.mono (S.om l x hx) le (fun _ _=>rfl),apart:=S.apart,uh:=S.uh,size:=S.size,old:=S.old,n8:=S.n8,Cn:=S.Cn,wZ:=S.wZ,rest:=S.rest,low:=S.low,mA:=S.mA}
def nF.aI9(_S:nF C U J a w)(o:Obj):(C.env U J.heap w).Le J.heap.length (C.env U J.heap (World.more w o)):=
 qC.CU (aA _) (fun _ _=>⟨rfl,rfl⟩) (fun b i u hm hc=>⟨hm,by grind [Fm,F6]⟩)
def azb(S:nF C U J a w)(hb:w.heap.size<=b)(o:Nat): ¬ (GJ U J.heap b o\/C.A b o):=by
 rintro(⟨l,x,hx,hm⟩|hA)
 ·have:=(S.om l x hx).qP (j5.ot hm);simp only[qC.env]at this;omega
 ·have:=C.hA _ _ hA;have:=S.size;omega
def arX(S:nF C U J a w)(c:Array aRu)(t:aRy)(h1: ∀u∈c.toList,u.oneCell'=true): ∀(cs:List AV)(off:Nat),kP (C.env U J.heap w) cs ((c.toList.drop off).take cs.length)->
 oV (C.env U J.heap (World.more w (.cells c t))) w.heap.size off cs
 |[],_,_=>trivial
 |x::cs,off,r=>by
  obtain⟨u,us,hu,r1,r2⟩:=r
  have hc:c[off]? =some u:=by
   have:(c.toList.drop off)[0]? =some u:=by
    have:=congrArg (fun l:List aRu=>l[0]?) hu;simpa using this
   simpa using this
  have htl:us=(c.toList.drop (off+1)).take cs.length:=by
   have h1:=congrArg List.tail hu;simp only[List.tail_cons]at h1;rw[<-h1];cases hd:c.toList.drop off with
   |nil=>rw[hd]at hu;simp at hu
   |cons y ys=>
    grind [bE]
  refine⟨⟨azb S (aA _) _,u,by grind [qC.env,auC],h1 u (bM (by simpa using hc)),pm.mono (S.aI9 _) _ _ (pm.nb _ _ r1) r1⟩,arX S c t h1 cs (off+1) (by rw[<-htl];exact r2)⟩
theorem apQ(S:nF C U J a w)(c:Array aRu)(t:aRy)(h1:∀u∈c.toList,u.oneCell'=true)(sz:Nat):∀(rs:List (List AV))(off:Nat),(∀r∈rs,r.length=sz)->kP (C.env U J.heap w) rs.flatten ((c.toList.drop off).take (rs.length*sz))->
 ol (C.env U J.heap (World.more w (.cells c t))) sz w.heap.size off rs
 |[],_,_,_=>trivial
 |r::rs,off,hl,h=>by
  have hr:r.length=sz:=hl r (by simp);simp only[aD]at h;have h3:=kP.take r.length h;have h2:=kP.drop r.length h;simp only[bb,bc,bF,aY,aT]at h3 h2;refine⟨hr,arX S c t h1 r off ?_,apQ S c t h1 sz rs (off+sz) (fun q hq=>hl q (by simp [hq])) ?_⟩
  all_goals grind [aB]
def nF.aLp(S:nF C U J a w)(c:Array aRu)(t:aRy)(r:(C.env U J.heap w).Le J.heap.length (C.env (fun l=>if l=J.heap.length then .pointer (some ⟨w.heap.size,0,none⟩)else U l) (J.heap++[.cells cs]) (World.more w (.cells c t)))->kP (C.env (fun l=>if l=J.heap.length then .pointer (some ⟨w.heap.size,0,none⟩)else U l) (J.heap++[.cells cs]) (World.more w (.cells c t))) cs c.toList)(h1:∀u∈c.toList,u.oneCell'=true):
 nF C (fun l=>if l=J.heap.length then .pointer (some ⟨w.heap.size,0,none⟩)else U l) {J with heap:=J.heap++[.cells cs]} a (World.more w (.cells c t))/\
 (C.env U J.heap w).Le J.heap.length (C.env (fun l=>if l=J.heap.length then .pointer (some ⟨w.heap.size,0,none⟩)else U l) (J.heap++[.cells cs]) (World.more w (.cells c t))):=by
 let U':Nat->aRu:=fun l=>if l=J.heap.length then .pointer (some ⟨w.heap.size,0,none⟩)else U l
 have hφ:∀l,l<J.heap.length->U' l=U l:=fun l hl=>by grind
 have n9:∀(l:Nat)(x:j5),(J.heap++[.cells cs])[l]? =some x->(l<J.heap.length/\J.heap[l]? =some x)\/(l=J.heap.length/\x=.cells cs):=by
  grind
 have OC:∀b o,GJ U' (J.heap++[.cells cs]) b o->b=w.heap.size\/GJ U J.heap b o:=by
  rintro b o ⟨l,x,hx,hm⟩;rcases n9 l x hx with⟨hl,hx⟩|⟨rfl,rfl⟩
  ·rw[hφ l hl]at hm;exact .inr ⟨l,x,hx,hm⟩
  grind [j5.Bk]
 have le:(C.env U J.heap w).Le J.heap.length (C.env U' (J.heap++[.cells cs]) (World.more w (.cells c t))):=by
  refine qC.CU (by simp) (fun l hl=>⟨hφ l hl,by rw[az hl]⟩) (fun b i u hm hc=>?_)
  grind [F6,Fm]
 have B1:tv C U' (J.heap++[.cells cs]) (World.more w (.cells c t)) J.df a.defers:=by
  refine S.defers.step le (fun b hb _=>yZ w _ hb) (fun l x b hx hb=>?_)
  grind [j5.block]
 refine⟨{j9:=kP.mono le _ _ (kP.nb _ _ S.j9) S.j9,defers:=B1,om:=?_,apart:=?_,uh:=?_,size:=?_,old:=?_,n8:=?_,Cn:=?_,wZ:=?_,rest:=S.rest,low:=⟨S.low.1,by have:=S.low.2;simp;omega⟩,mA:=?_},le⟩
 ·intro l x hx;rcases n9 l x hx with⟨hl,hx⟩|⟨rfl,rfl⟩
  ·have r0:=S.om l x hx;have:oP (C.env U' (J.heap++[.cells cs]) (World.more w (.cells c t))) x (U l):=oP.mono r0 le (fun b hb=>yZ w _ (r0.qP hb))
   grind
  ·exact⟨w.heap.size,c,t,by simp,Jz w _,r le,h1⟩
 ·intro l l' x x' b hx BA hb sK;rcases n9 l x hx with⟨hl,hx⟩|⟨rfl,rfl⟩<;>rcases n9 l' x' BA with⟨hl',BA⟩|⟨rfl,rfl⟩
  ·rw[show(if l=J.heap.length then _ else U l)=U l from hφ l hl]at hb;rw[show(if l'=J.heap.length then _ else U l')=U l' from hφ l' hl']at sK;exact S.apart l l' x x' b hx BA hb sK
  ·rw[show(if l=J.heap.length then _ else U l)=U l from hφ l hl]at hb;have:=(S.om l x hx).qP hb
   grind [j5.block,qC.env]
  ·rw[show(if l'=J.heap.length then _ else U l')=U l' from hφ l' hl']at sK;have:=(S.om l' x' BA).qP sK
   grind [j5.block,qC.env]
  ·rfl
 ·intro l x b o hx hb;rcases n9 l x hx with⟨hl,hx⟩|⟨rfl,rfl⟩
  ·rw[show(if l=J.heap.length then _ else U l)=U l from hφ l hl]at hb;exact S.uh l x b o hx hb
  ·simp only[jM,j5.block]at hb;intro hA;have:=C.hA _ _ hA;have:=S.size;omega
 ·have:=S.size;simp;omega
 ·intro b i hb hm;rw[Fm w _ (aa hb S.size)];exact S.old b i hb hm
 ·intro b hb hm;rw[yZ w _ (aa hb S.size)];exact S.n8 b hb hm
 ·intro l x b o hx hm hb;rcases n9 l x hx with⟨hl,hx⟩|⟨rfl,rfl⟩
  ·rw[show(if l=J.heap.length then _ else U l)=U l from hφ l hl]at hm;exact S.Cn l x b o hx hm hb
  ·simp only[jM,j5.Bk]at hm;have:=S.size;omega
 ·intro x hx;rw[xa w _ (by grind)];exact S.wZ x hx
 ·intro l hl;have sJ:l<J.heap.length:=by have:=S.low;omega
  have:=S.mA l hl
  grind
theorem nF.name(S:nF C U J a w)(c:Array aRu)(t:aRy)(r:kP (C.env U J.heap w) cs c.toList)(h1:∀u∈c.toList,u.oneCell'=true):
 nF C (fun l=>if l=J.heap.length then .pointer (some ⟨w.heap.size,0,none⟩)else U l) {J with heap:=J.heap++[.cells cs]} a (World.more w (.cells c t))/\
 (C.env U J.heap w).Le J.heap.length (C.env (fun l=>if l=J.heap.length then .pointer (some ⟨w.heap.size,0,none⟩)else U l) (J.heap++[.cells cs]) (World.more w (.cells c t))):=
 S.aLp c t (fun le=>kP.mono le _ _ (kP.nb _ _ r) r) h1
end basics
structure vF where
 val:AV
 rd:List Nat:=[]
 up:List (Nat×j5):=[]
 nw:List j5:=[]
 pre:Prop:=True
 whole:Bool:=false
variable {ef:vF}
def ni:List j5->List (Nat×j5)->List j5
 |H,[]=>H
 |H,(l,x)::r=>ni (H.set l x) r
def jS.app(J:jS)(dst:Option Tmp)(e:vF):jS:=
 {J.put dst e.val with heap:=ni J.heap e.up++e.nw}
def mN(P:aRx)(t:aRy):Option (Bool×Nat):=
 match P.info? t with
 |none=>none
 |some i=>match P.underlying t with
  |some (.struct _)=>some (true,i.size)
  |some (.array _ _)=>some (true,i.size)
  |some _=>some (false,i.size)
  |none=>none
def mD(P:aRx)(t:aRy):Option (List AV):=
 match P.info? t with
 |none=>none
 |some i=>match i.zero with
  |some v=>if v.cells.toList.all Value.oneCell' then some (v.cells.toList.map Ml)else none
  |none=>none
def oO(P:aRx)(t:aRy)(i:Nat):Option (Nat×aRy):=
 match P.underlying t with
 |some (.struct fs)=>match fs[i]? with
  |some f=>match P.info? f.type with
   |some j=>if j.size=0 then none else some (f.offset,f.type)
   |none=>none
  |none=>none
 |_=>none
def l8(P:aRx)(t:aRy):Option (aRy×Nat×Nat):=
 match P.underlying t with
 |some (.slice e)=>match P.info? e with
  |some i=>some (e,i.size,i.bytes)
  |none=>none
 |_=>none
def auD(P:aRx)(t:aRy):Option (Nat×Nat):=
 match P.underlying t with
 |some (.array n e)=>match P.info? e with
  |some i=>some (n,i.size)
  |none=>none
 |_=>none
def pg(P:aRx)(t:aRy):Bool:=
 match P.underlying t with
 |some .string=>true
 |_=>false
def arY(P:aRx)(t:aRy):Option IntKind:=
 match P.underlying t with
 |some (.int k)=>some k
 |_=>none
def lT(P:aRx)(t:aRy):Bool:=
 match P.underlying t with
 |some (.int _)=>false
 |some _=>true
 |none=>false
def nn(P:aRx)(t:aRy):Bool:=
 match P.underlying t with
 |some (.interface _)=>false
 |some _=>true
 |none=>false
def AV.lI:AV->Bool
 |.any|.agg _|.I3 _|.sn _ _=>false
 |.sV v=>v.oneCell'
 |_=>true
def cellsOf:AV->Option (List AV)
 |.agg cs=>if cs.all AV.lI then some cs else none
 |x=>if x.lI then some [x] else none
def kr(g:Bool)(n:Nat)(cs:List AV):Option AV:=
 match g with
 |true=>if n<=cs.length then some (.agg (cs.take n))else none
 |false=>match cs with
  |c::_=>some c
  |[]=>none
def vq(cs:List AV)(off:Nat)(xs:List AV):List AV:=cs.take off++xs++cs.drop (off+xs.length)
def ac7(place:Nat->Option (Nat×Nat))(cs:List AV):List (Nat×AV)->Option (List AV)
 |[]=>some cs
 |(i,x)::rest=>match place i,cellsOf x with
  |some (off,size),some xs=>if xs.length=size/\off+size<=cs.length then ac7 place (vq cs off xs) rest else none
  |_,_=>none
def Ya(P:aRx)(t:aRy):Option (Nat->Option (Nat×Nat)):=
 match P.underlying t with
 |some (.array _ e)=>match P.info? e with
  |some ie=>some fun i=>some (i*ie.size,ie.size)
  |none=>none
 |some (.struct fields)=>match fields.toList.mapM (fun f=>(P.info? f.type).map fun i=>(f.offset,i.size))with
  |some places=>some fun i=>places.toArray[i]?
  |none=>none
 |_=>none
def rW(P:aRx)(t:aRy):Bool:=(Ya P t).isSome
def kT(P:aRx)(t:aRy)(i:Nat):Option (Nat×Nat):=
 match Ya P t with
 |some f=>f i
 |none=>none
def ac8(sz:Nat)(rows:List (List AV)):List (Nat×AV)->Option (List (List AV))
 |[]=>some rows
 |(i,x)::rest=>match cellsOf x with
  |some xs=>if i<rows.length/\xs.length=sz then ac8 sz (rows.set i xs) rest else none
  |none=>none
def aGJ(k:IntKind)(f:BitVec k.bits->BitVec k.bits->BitVec k.bits)(a b:Int):Int:=k.wrap (f (BitVec.ofInt k.bits a) (BitVec.ofInt k.bits b)).toNat
def av0(op:BinOp)(x y:AV):Option AV:=
 match x,y with
 | .int k a,.int k' b=>
   if k≠k' then none else
   match op with
   |.add=>some (.int k (k.wrap (a+b)))
   |.sub=>some (.int k (k.wrap (a-b)))
   |.mul=>some (.int k (k.wrap (a*b)))
   |.eql=>some (.bool (a==b))
   |.neq=>some (.bool (a !=b))
   |.lss=>some (.bool (decide (a<b)))
   |.leq=>some (.bool (decide (a<=b)))
   |.gtr=>some (.bool (decide (b<a)))
   |.geq=>some (.bool (decide (b<=a)))
   |.quo=>if b=0 then none else some (.int k (k.wrap (a.tdiv b)))
   |.rem=>if b=0 then none else some (.int k (a.tmod b))
   |.and=>some (.int k (aGJ k (· &&& ·) a b))
   |.or=>some (.int k (aGJ k (· ||| ·) a b))
   |.xor=>some (.int k (aGJ k (· ^^^ ·) a b))
   |.andNot=>some (.int k (aGJ k (fun x y=>x&&& ~~~y) a b))
   |_=>none
 | .str a,.str b=>
   match op with
   |.eql=>some (.bool (a.toList==b.toList))
   |.neq=>some (.bool (!(a.toList==b.toList)))
   |.add=>if a.size+b.size<=9223372036854775807 then some (.str (a++b))else none
   |.lss=>some (.bool (Op.bytesLess a.toList b.toList))
   |.leq=>some (.bool (Op.bytesLess a.toList b.toList||a.toList==b.toList))
   |.gtr=>some (.bool (!(Op.bytesLess a.toList b.toList||a.toList==b.toList)))
   |.geq=>some (.bool (!Op.bytesLess a.toList b.toList))
   |_=>none
 |_,_=>none
def eq1:AV->AV->Bool
 |.int _ a,.int _ b=>a==b
 |.str a,.str b=>a.toList==b.toList
 |.bool a,.bool b=>a==b
 |_,_=>false
def eqB:List AV->List AV->Bool
 |[],[]=>true
 |x::xs,y::ys=>eq1 x y&&eqB xs ys
 |_,_=>false
def av1(P:aRx)(t:aRy)(cs ds:List AV):Prop:=
 ∀ (E:CS) (vs us:Array aRu) (w:aRv) (x y:aRt),kP E cs vs.toList->kP E ds us.toList->
   (do eqGuard .eql t x y (.agg vs) (.agg us);binOp .eql t (.agg vs) (.agg us):Sem aRu).run P w=.ok (.bool (eqB cs ds)) w/\
   (do eqGuard .neq t x y (.agg vs) (.agg us);binOp .neq t (.agg vs) (.agg us):Sem aRu).run P w=.ok (.bool (!eqB cs ds)) w
def tbl(P:aRx)(t:aRy):Bool:=
 match P.underlying t with
 |some .bool=>true
 |_=>false
def aBY(P:aRx)(t:aRy):Bool:=
 match P.underlying t with
 |some (.interface ms)=>ms.isEmpty
 |_=>false
def aoF(P:aRx)(op:BinOp)(t:aRy)(x y:AV):Option vF:=
 match op,x,y with
 |.eql,.agg cs,.agg ds=>some {val:=.bool (eqB cs ds),pre:=av1 P t cs ds}
 |.neq,.agg cs,.agg ds=>some {val:=.bool (!eqB cs ds),pre:=av1 P t cs ds}
 |.eql,.bool a,.bool b=>if tbl P t then some {val:=.bool (a==b)} else none
 |.neq,.bool a,.bool b=>if tbl P t then some {val:=.bool (!(a==b))} else none
 |.eql,.iface _ _,.sV .nilIface=>if aBY P t then some {val:=.bool false} else none
 |.neq,.iface _ _,.sV .nilIface=>if aBY P t then some {val:=.bool true} else none
 |.eql,.sV .nilIface,.sV .nilIface=>if aBY P t then some {val:=.bool true} else none
 |.neq,.sV .nilIface,.sV .nilIface=>if aBY P t then some {val:=.bool false} else none
 |_,_,_=>none
def alr(P:aRx)(op:BinOp)(t:aRy)(x:AV)(y:aRt):Option vF:=
 match op,x,y with
 |.eql,.sV (.slice a _ _),.const (.slice none 0 0)=>if (l8 P t).isSome then some {val:=.bool a.isNone} else none
 |.eql,.kF _ _ rows,.const (.slice none 0 0)=>if rows.isEmpty=false/\(l8 P t).isSome then some {val:=.bool false} else none
 |_,_,_=>none
def av2(P:aRx)(op:BinOp)(t:aRy)(y:aRt)(a b:AV):Option vF:=
 match alr P op t a y with
 |some e=>some e
 |none=>aoF P op t a b
def Cm(J:jS)(d:Nat):Option aRt->Option Int
 |none=>some d
 |some x=>match J.ev x with
  |.int _ n=>some n
  |_=>none
def ajv(mx:Option aRt)(t:Bool)(h n m:Int):Bool:=
 match mx with
 |none=>t&&decide (h=n)
 |some _=>decide (h=m)
def amA (J:jS) (sz:Nat) (x:AV) (lo hi mx:Option aRt):Option vF:=
 match x with
 | .kF t Ud rows=>
   match Cm J 0 lo,Cm J rows.length hi,Cm J rows.length mx with
   |some l,some h,some m=>if (Ud=sz\/rows.length=0)/\0<=l/\l<=h/\h<=m/\m<=rows.length then
     some {val:=.kF (ajv mx t h rows.length m) sz ((rows.take h.toNat).drop l.toNat)} else none
   |_,_,_=>none
 | .lR k n=>match J.heap[k]? with
   |some (.lR true Ud rows)=>
    match Cm J 0 lo,Cm J rows.length hi,Cm J rows.length mx with
    |some l,some h,some m=>if Ud=sz/\rows.length=n/\0<=l/\l<=h/\h<=m/\m<=rows.length then
      some {val:=.kF (ajv mx false h rows.length m) sz ((rows.take h.toNat).drop l.toNat),rd:=[k]} else none
    |_,_,_=>none
   |_=>none
 |_=>none
def ac9(J:jS)(sz:Nat):AV->Option (List Nat×List (List AV))
 |.kF _ Ud rows=>if Ud=sz\/rows.length=0 then some ([],rows)else none
 | .lR l n=>match J.heap[l]? with
   |some (.lR true Ud rows)=>if Ud=sz/\rows.length=n then some ([l],rows)else none
   |_=>none
 |.sV (.slice _ 0 _)=>some ([],[])
 |_=>none
def room(n bytes:Nat):Prop:=n*bytes<=2 ^ 44
def VD (im:Bool) (J:jS) (sz bytes:Nat) (x y:AV):Option vF:=
 match ac9 J sz y with
 |none=>none
 |some (rd,ys)=>match x with
  | .lR l n=>match J.heap[l]? with
    |some (.lR ub Ud rows)=>if Ud=sz/\rows.length=n then
      some {val:=.lR l (rows++ys).length,rd:=l::rd,up:=[(l,.lR ub sz (rows++ys))],pre:=room (rows.length+ys.length) bytes} else none
    |_=>none
  | .kF true Ud rows=>if Ud=sz\/rows.length=0 then
      (if rows.length=0\/0<ys.length then some {val:=.lR J.heap.length (rows++ys).length,rd:=rd,nw:=[.lR im sz (rows++ys)],pre:=room (rows.length+ys.length) bytes}
        else some {val:=.kF true Ud rows,rd:=rd})else none
  |_=>none
def axa(P:aRx):Bool:=match P.info? Mk with
 |some i=>(match i.zero with
  |some (.int .u8 0)=>true
  |_=>false)&&(i.size==1)&&(i.bytes==1)
 |none=>false
def ajw(J:jS)(e:aRy)(x:AV)(u:ByteArray):Option vF:=match x with
 | .lR l n=>match J.heap[l]? with
   |some (.Jw s)=>if s.size=n/\e=Mk then some {val:=.lR l (s.size+u.size),rd:=[l],up:=[(l,.Jw (s++u))],pre:=room (s.size+u.size) 1} else none
   |_=>none
 |_=>none
def VE(P:aRx)(u:aRy)(im:Bool)(J:jS)(e:aRy)(sz bytes:Nat)(x y:AV):Option vF:=match y with
 |.str s=>if axa P=true/\pg P u=true then ajw J e x s else none
 |_=>VD im J sz bytes x y
theorem apR{u:aRy}{e:aRy}{sz bytes:Nat}(h: ¬ ∃s,y=.str s):VE P u im J e sz bytes x y=VD im J sz bytes x y:=by
 unfold VE;split
 ·rename_i s;exact absurd ⟨s,rfl⟩ h
 ·rfl
def av3(P:aRx)(J:jS)(t:aRy):AV->Option vF
 |.str s=>if pg P t then some {val:=.int .i64 s.size} else none
 |.kF _ _ rows=>if (l8 P t).isSome then some {val:=.int .i64 rows.length} else none
 | .lR l n=>if (l8 P t).isSome then match J.heap[l]? with
   |some (.lR _ _ rows)=>if rows.length=n then some {val:=.int .i64 n,rd:=[l]} else none
   |some (.Jw s)=>if s.size=n then some {val:=.int .i64 n,rd:=[l]} else none
   |_=>none else none
 |_=>none
def av4:List aRt->Nat
 |.tmp t::_=>t
 |_=>0
def PM (P:aRx) (J:jS) (b:Builtin) (kE:List aRt) (ts:List aRy) (xs:List AV):Option vF:=
 match b,ts,xs with
 |.len,[t],[x]=>av3 P J t x
 | .append,[t,u],[x,y]=>match l8 P t,lT P u with
   |some (e,sz,bytes),true=>match mD P e with
    |some z=>if z.length=sz/\0<sz/\0<bytes then VE P u (aLK t (av4 kE)) J e sz bytes x y else none
    |none=>none
   |_,_=>none
 |.max,[_,_],[.int k m,.int _ n]=>some {val:=.int k (if n>m then n else m)}
 |.min,[_,_],[.int k m,.int _ n]=>some {val:=.int k (if n<m then n else m)}
 |_,_,_=>none
def vwL (H:List j5):List AV->Option (List AV×List Nat)
 |[]=>some ([],[])
 | .lR l n::cs=>match H[l]? with
   |some (.lR ub sz rows)=>if rows.length=n then match vwL H cs with
    |some (ds,ns)=>some ((bif ub then .kF false sz rows else .lR l n)::ds,l::ns)
    |none=>none else none
   |_=>none
 |c::cs=>match vwL H cs with
  |some (ds,ns)=>some (c::ds,ns)
  |none=>none
def ldV(H:List j5)(l:Nat):AV->Option vF
 | .agg cs=>match vwL H cs with
   |some (ds,ns)=>some {val:=.agg ds,rd:=l::ns}
   |none=>none
 |v=>some {val:=v,rd:=[l]}
def VF(sz:Nat):Nat->List AV->Option (List AV)
 |0,cs=>if sz<=cs.length then some (cs.take sz)else none
 |n+1,cs=>VF sz n (cs.drop sz)
def tz1(P:aRx)(t:aRy):Option AV:=
 match P.info? t with
 |some i=>match i.zero with
  |some (.bool b)=>some (.bool b)
  |some (.int k n)=>some (.int k n)
  |some (.string s)=>some (.str s)
  |some (.agg vs)=>some (.agg (vs.toList.map Ml))
  |_=>none
 |none=>none
def aeQ(P:aRx)(t:aRy):Option AV:=
 match P.underlying t with
 |some (.map k e)=>match P.underlying k with
  |some .string=>tz1 P e
  |_=>none
 |_=>none
def Sj:List (AV×AV)->Bool
 |[]=>true
 |(.str _,_)::es=>Sj es
 |_=>false
def zn(s:ByteArray):List (AV×AV)->Option AV
 |(.str k,v)::es=>bif s==k then some v else zn s es
 |_=>none
def PO(s:ByteArray)(v:AV):List (AV×AV)->List (AV×AV)
 |(.str k,u)::es=>bif s==k then(.str k,v)::es else(.str k,u)::PO s v es
 |_=>[(.str s,v)]
def ajx(z:AV)(l:Nat)(s:ByteArray):Option j5->Option vF
 |some (.map es)=>if Sj es=true then some {val:=(zn s es).getD z,rd:=[l]} else none
 |_=>none
def av5(z:AV)(l:Nat):Option AV->vF
 |some v=>{val:=.I3 [v,.bool true],rd:=[l]}
 |none=>{val:=.I3 [z,.bool false],rd:=[l]}
def aoG(z:AV)(l:Nat)(s:ByteArray):Option j5->Option vF
 |some (.map es)=>if Sj es=true then some (av5 z l (zn s es))else none
 |_=>none
def apS(P:aRx)(t:aRy):Bool:=
 match P.underlying t with
 |some (.map k e)=>match P.underlying k,tz1 P e with
  |some (.int .i64),some (.int .i64 0)=>true
  |_,_=>false
 |_=>false
def agG:List (AV×AV)->Option (List (Int×Int))
 |[]=>some []
 |(.int .i64 a,.int .i64 b)::es=>(agG es).map ((a,b):: ·)
 |_=>none
def aeR(n:Int):List (Int×Int)->Option Int
 |[]=>none
 |(k,v)::ms=>bif n==k then some v else aeR n ms
def axb(n v:Int):List (Int×Int)->List (Int×Int)
 |[]=>[(n,v)]
 |(k,u)::ms=>bif n==k then(k,v)::ms else(k,u)::axb n v ms
def auE:List (Int×Int)->List (AV×AV)
 |[]=>[]
 |(k,v)::ms=>(.int .i64 k,.int .i64 v)::auE ms
def amB(l:Nat)(n:Int):Option j5->Option vF
 |some (.map es)=>(agG es).map fun ms=>{val:=.I3 [.int .i64 ((aeR n ms).getD 0),.bool (aeR n ms).isSome],rd:=[l]}
 |_=>none
def ada(l:Nat)(n m:Int):Option j5->Option vF
 |some (.map es)=>(agG es).map fun ms=>{val:=.any,rd:=[l],up:=[(l,.map (auE (axb n m ms)))]}
 |_=>none
def axc(P:aRx)(t:aRy):AV->Option vF
 |.iface t' x=>if t'=t/\nn P t=true then some {val:=.I3 [x,.bool true]} else none
 |_=>none
def CV(l:Nat)(s:ByteArray)(v:AV):Option j5->Option vF
 |some (.map es)=>if Sj es=true then some {val:=.any,rd:=[l],up:=[(l,.map (PO s v es))]} else none
 |_=>none
def arZ:aRu->Option vF
 | .pointer (some ⟨b,o,none⟩)=>match aI5 b with
   |some k=>(aEg b o).bind fun m=>some {val:=.int k m}
   |none=>none
 |_=>none
def ajy(l:Nat):Option j5->Option vF
 |some (.iter s p)=>if p<s.size then some {val:=.I3 [.bool true,.int .i64 p,.int .i32 (Utf8.decode s p).1],rd:=[l],up:=[(l,.iter s (p+(Utf8.decode s p).2))]}
   else some {val:=.I3 [.bool false],rd:=[l]}
 |_=>none
def zB(t:Nat)(z:List AV):List AV:=bif amx t then(match z with
 |x::.kF true 0 []::r=>x::.sV (.slice none 0 0)::r
 |z=>z)else z
def Mm(t l:Nat)(z:List AV):vF:=bif amx t then(match z with
 |.sV (.pointer none)::.sV (.slice none 0 0)::r=>{val:=.ptr (l+1) 0,nw:=[.Jw au,.cells (.sn t (l+1)::.lR l 0::r)]}
 |_=>{val:=.ptr l 0,nw:=[.cells z]})else {val:=.ptr l 0,nw:=[.cells z]}
theorem av6 {t:Nat}:(Mm t l z).nw≠[]:=by
 unfold Mm;cases amx t with
 |false=>simp
 |true=>rw[jE];split<;>simp
def azc {t:Nat}:(Mm t l z).rd=[]/\(Mm t l z).up=[]/\(Mm t l z).pre=True/\(Mm t l z).whole=false:=by
 unfold Mm;cases amx t with
 |false=>simp
 |true=>rw[jE];split<;>simp
def apT(P:aRx)(t:aRy):Option Nat:=
 match P.underlying t with
 |some (.array n e)=>match mN P e with
  |some (false,1)=>some n
  |_=>none
 |_=>none
def amC:List AV->Option (List Int)
 |[]=>some []
 |.int .i64 n::xs=>(amC xs).map (n:: ·)
 |_=>none
def lG (P:aRx) (J:jS):Op->Option vF
 |.move x=>some {val:=J.ev x}
 |.assign x=>some {val:=J.ev x}
 | .pick c x y=>match J.ev c with
   |.bool b=>some {val:=bif b then J.ev x else J.ev y}
   |_=>none
 | .alloc t=>match mD P t with
   |some z=>some (Mm t J.heap.length (zB t z))
   |none=>none
 | .box t x=>match cellsOf (J.ev x) with
   |some cs=>some (Mm t J.heap.length cs)
   |none=>none
 | .build t parts=>match rW P t,mD P t with
   |true,some z=>match ac7 (kT P t) (zB t z) (parts.toList.map fun p=>(p.1,J.ev p.2))with
    |some cs=>some {val:=.agg cs}
    |none=>none
   |_,_=>none
 | .buildSlice t len parts=>match l8 P t with
   |some (e,sz,_)=>match mD P e with
    |some z=>if z.length=sz/\len*sz<=16777216 then
      match ac8 sz (an len z) (parts.toList.map fun p=>(p.1,J.ev p.2))with
      |some rows=>bif aI4 t (av4 (parts.toList.map (·.2)))then some {val:=.lR J.heap.length rows.length,nw:=[.lR (aLK t (av4 (parts.toList.map (·.2)))) sz rows]} else some {val:=.kF true sz rows}
      |none=>none
     else none
    |none=>none
   |none=>none
 | .load t x=>match mN P t,J.ev x with
   |some (g,n),.ptr l off=>match J.heap[l]? with
    |some (.cells cs)=>match kr g n (cs.drop off)with
     |some v=>ldV J.heap l v
     |none=>none
    |_=>none
   |some (g,n),.pp cs=>match kr g n cs with
    |some v=>some {val:=v}
    |none=>none
   |some (g,n),.own l i m o sz=>match J.heap[l]? with
    |some (.lR false Ud rows)=>if Ud=sz/\rows.length=m then match rows[i]? with
     |some r=>match kr g n (r.drop o)with
      |some v=>some {val:=v,rd:=[l]}
      |none=>none
     |none=>none else none
    |_=>none
   |some (false,_),.sV v=>arZ v
   |_,_=>none
 | .store t x y=>match mN P t,J.ev x,cellsOf (J.ev y) with
   |some (_,n),.ptr l off,some ys=>match J.heap[l]? with
    |some (.cells cs)=>if ys.length=n/\off+n<=cs.length then some {val:=.any,rd:=[l],up:=[(l,.cells (vq cs off ys))]} else none
    |_=>none
   |some (_,n),.own l i m o sz,some ys=>match J.heap[l]? with
    |some (.lR false Ud rows)=>if Ud=sz/\rows.length=m then match rows[i]? with
     |some r=>if ys.length=n/\o+n<=sz then some {val:=.any,rd:=[l],up:=[(l,.lR false sz (rows.set i (vq r o ys)))]} else none
     |none=>none else none
    |_=>none
   |_,_,_=>none
 | .binOp op t x y _=>match av0 op (J.ev x) (J.ev y) with
   |some v=>some {val:=v}
   |none=>av2 P op t y (J.ev x) (J.ev y)
 | .unOp op _ x=>match op,J.ev x with
   |.not,.bool b=>some {val:=.bool (!b)}
   |.neg,.int k n=>some {val:=.int k (k.wrap (0-n))}
   |.xor,.int k n=>some {val:=.int k (aGJ k (· ^^^ ·) (if k.signed then-1 else k.max) n)}
   |_,_=>none
 | .fieldAddr t x i=>match oO P t i,J.ev x with
   |some (o,_),.ptr l off=>some {val:=.ptr l (off+o)}
   |some (o,_),.pp cs=>some {val:=.pp (cs.drop o)}
   |some (o,_),.own l i m o' sz=>some {val:=.own l i m (o'+o) sz}
   |_,_=>none
 | .field t x i=>match oO P t i,J.ev x with
   |some (o,u),.agg cs=>match mN P u with
    |some (g,n)=>match kr g n (cs.drop o)with
     |some v=>some {val:=v}
     |none=>none
    |none=>none
   |_,_=>none
 | .indexAddr t x i=>match l8 P t with
   |some (_,sz,_)=>match J.ev x,J.ev i with
    | .kF _ Ud rows,.int _ n=>if Ud=sz/\0<=n then match rows[n.toNat]? with
      |some r=>some {val:=.pp r}
      |none=>none else none
    | .lR l m,.int _ n=>match J.heap[l]? with
      |some (.lR true Ud rows)=>if Ud=sz/\0<=n/\rows.length=m then match rows[n.toNat]? with
       |some r=>some {val:=.pp r,rd:=[l]}
       |none=>none else none
      |some (.lR false Ud rows)=>if Ud=sz/\0<=n/\rows.length=m/\n<m then some {val:=.own l n.toNat m 0 sz,rd:=[l]} else none
      |_=>none
    |_,_=>none
   |none=>match auD P t with
    |some (len,sz)=>match J.ev x,J.ev i with
     |.ptr l off,.int _ n=>if 0<=n/\n<len then some {val:=.ptr l (off+n.toNat*sz)} else none
     |.pp cs,.int _ n=>if 0<=n/\n<len then(VF sz n.toNat cs).bind fun ds=>some {val:=.pp ds} else none
     |.sV (.pointer (some ⟨b,o,none⟩)),.int _ n=>if 0<=n/\n<len then some {val:=.sV (.pointer (some ⟨b,o+n.toNat*sz,none⟩))} else none
     |_,_=>none
    |none=>none
 | .index t x i=>match pg P t,J.ev x,J.ev i with
   |true,.str s,.int _ n=>if 0<=n then match s[n.toNat]? with
    |some b=>some {val:=.int .u8 b.toNat}
    |none=>none else none
   |false,.agg cs,.int _ n=>match apT P t,amC cs with
    |some len,some ms=>if 0<=n/\n<len then match ms[n.toNat]? with
     |some m=>some {val:=.int .i64 m}
     |none=>none else none
    |_,_=>none
   |_,_,_=>none
 | .slice t x lo hi mx=>match l8 P t with
   |some (_,sz,_)=>if mx.isSome&&hi.isNone then none else amA J sz (J.ev x) lo hi mx
   |none=>match pg P t,J.ev x,mx with
    |true,.str s,none=>match Cm J 0 lo,Cm J s.size hi with
     |some l,some h=>if 0<=l/\l<=h/\h<=s.size then some {val:=.str (s.extract l.toNat h.toNat)} else none
     |_,_=>none
    |_,_,_=>none
 | .nilCheck x=>match J.ev x with
   |.ptr l off=>some {val:=.ptr l off}
   |.pp cs=>some {val:=.pp cs}
   |.func (.func f) fs cs=>some {val:=.func (.func f) fs cs}
   |_=>none
 | .convert s d x=>match J.ev x with
   |.str v=>if pg P s&&pg P d then some {val:=.str v} else none
   | .int _ n=>match arY P s,arY P d with
     |some _,some k=>some {val:=.int k (k.wrap n)}
     |some _,none=>if pg P d then some {val:=.str (Utf8.encode n)} else none
     |_,_=>none
   | .kF _ _ [[.int k n]]=>match l8 P s with
     |some (e,sz,_)=>if sz=1/\k=.u8/\arY P e=some .u8/\pg P d=true then some {val:=.str ⟨[UInt8.ofNat n.toNat].toArray⟩} else none
     |none=>none
   |_=>none
 |.makeInterface t x=>if nn P t then some {val:=.iface t (J.ev x)} else none
 | .makeSlice t x y=>match l8 P t,J.ev x,J.ev y with
   |some (e,sz,bytes),.int .i64 n,.int .i64 m=>match mD P e with
    |some z=>if z.length=sz/\0<sz/\0<=n/\n=m then
      some {val:=.lR J.heap.length n.toNat,nw:=[.lR false sz (an n.toNat z)],pre:=room n.toNat bytes/\n<2 ^ 62} else none
    |none=>none
   |_,_,_=>none
 |.call {callee:=.builtin b,args,argTypes}=>PM P J b args.toList argTypes.toList (args.toList.map J.ev)
 | .extract x i=>match J.ev x with
   | .I3 vs=>match vs[i]? with
     |some v=>some {val:=v}
     |none=>none
   |_=>none
 |.makeFunc fn f c=>some {val:=.func fn (f.toList.map J.ev) (c.toList.map J.ev)}
 | .range t x=>match pg P t,J.ev x with
   |true,.str s=>some {val:=.ptr J.heap.length 0,nw:=[.iter s 0]}
   |_,_=>none
 | .next x true=>match J.ev x with
   |.ptr l 0=>ajy l J.heap[l]?
   |_=>none
 |.makeMap _ none=>some {val:=.map J.heap.length,nw:=[.map []]}
 | .lookup t x k false=>match aeQ P t,J.ev x,J.ev k with
   |some z,.map l,.str s=>ajx z l s J.heap[l]?
   |_,_,_=>none
 | .lookup t x k true=>match aeQ P t,J.ev x,J.ev k with
   |some z,.map l,.str s=>aoG z l s J.heap[l]?
   |none,.map l,.int .i64 n=>if apS P t=true then amB l n J.heap[l]? else none
   |_,_,_=>none
 |.typeAssert x _ t true=>axc P t (J.ev x)
 | .mapUpdate t x k y=>match aeQ P t,J.ev x,J.ev k with
   |some _,.map l,.str s=>CV l s (J.ev y) J.heap[l]?
   |none,.map l,.int .i64 n=>match J.ev y with
    |.int .i64 m=>if apS P t=true then ada l n m J.heap[l]? else none
    |_=>none
   |_,_,_=>none
 | .insert t x k y=>match aeQ P t,J.ev x,J.ev k with
   |some _,.map l,.str s=>CV l s (J.ev y) J.heap[l]?
   |none,.map l,.int .i64 n=>match J.ev y with
    |.int .i64 m=>if apS P t=true then ada l n m J.heap[l]? else none
    |_=>none
   |_,_,_=>none
 |_=>none
section sound
variable {a:Act}
def Ad(C:qC)(J:jS)(a:Act)(w:aRv)(dst:Option Tmp)(r:Result Next)(e:vF):Prop:=
 ∃n v w' U',r=.ok n w'/\(n=.value v\/(n=.skip/\v=undef))/\nF C U' (J.app dst e) (a.put dst v) w'
def K9(h:mN C.P t=some (g,n)):(isAgg t).run C.P w=.ok g w/\(sizeOf t).run C.P w=.ok n w:=by
 unfold mN at h;cases hi:C.P.info? t with
 |none=>simp [hi]at h
 |some i=>
  simp only[hi]at h;cases hu:C.P.underlying t with
  |none=>simp [hu]at h
  |some d=>
   simp only[hu]at h;constructor
   ·cases d<;>simp_all [isAgg,run_underlying hu]
   ·simp only[sizeOf,typeInfo];cases d<;>simp_all
def ar0{c:AV}(h:c.lI=true)(r:pm E c v):v.oneCell'=true:=by
 cases c with
 |any|agg _|I3 _|sn _ _=>simp [AV.lI]at h
 |bool b|int k n|str s=>simp only[pm]at r;subst r;rfl
 |sV u=>simp only[pm]at r;subst r;exact h
 |kF t sz rows=>obtain⟨_,_,rfl,_⟩:=r;rfl
 |lR l n=>obtain⟨_,⟨_,_,_,rfl⟩,_⟩:=r;rfl
 |own l i n o sz=>obtain⟨_,⟨_,rfl⟩,_⟩:=r;rfl
 |ptr l off=>obtain⟨_,_,_,rfl⟩:=r;rfl
 |map l=>
  obtain⟨_,rfl,_,h2⟩:=r;revert h2;generalize E.U l=h;intro h2;unfold hdl at h2;split at h2<;>first|rfl|cases h2
 |pp cs=>obtain⟨_,_,rfl,_⟩:=r;rfl
 |func fn f c=>obtain⟨_,_,rfl,_⟩:=r;rfl
 |iface t x=>obtain⟨_,rfl,_⟩:=r;rfl
def apU{E:CS}:∀{cs:List AV}{vs:List aRu},cs.all AV.lI=true->kP E cs vs->∀v∈vs,v.oneCell'=true
 |[],_,_,rfl=>by simp
 |c::cs,_,h,⟨u,us,rfl,r1,r2⟩=>by
  simp only[List.all_cons,aU]at h;intro v hv;simp only[a7]at hv;rcases hv with rfl|hv
  ·exact ar0 h.1 r1
  ·exact apU h.2 r2 v hv
end sound
section sound
variable {a:Act}
def azd(E:CS)(b off:Nat)(cs:List AV):Prop:=∃us:List aRu,kP E cs us/\∀j u,us[j]? =some u->E.w.cell? ⟨b,off+j,none⟩=some u
def Sk{E:CS}{b:Nat}:∀{cs:List AV}{off:Nat},oV E b off cs->azd E b off cs
 |[],_,_=>⟨[],rfl,by simp⟩
 |c::cs,off,⟨⟨_,u,hu,_,r⟩,r2⟩=>by
  obtain⟨us,rl,h⟩:=Sk r2;refine⟨u::us,⟨u,us,rfl,r,rl⟩,fun j v hj=>?_⟩
  grind
def ar1{fr:Nat×Nat}(hh:E.w.heap[b]? =some (.cells c t fr))(r:kP E cs c.toList)(off:Nat):
 azd E b off (cs.drop off):=
 ⟨c.toList.drop off,r.drop off,fun j u hj=>by
   grind [World.cell?]⟩
theorem Ae(b off j:Nat):(⟨b,off,none⟩:Addr).add j=⟨b,off+j,none⟩:=by
 unfold Addr.add;split<;>simp_all
theorem auF{a:Addr}{m:Mode}(h:w.cell? a=some u):(load a m).run P w=.ok u w:=by rw[run_load,h]
def adb(hm:azd E b off cs)(ha:(isAgg t).run P E.w= .ok g E.w)(hs:(sizeOf t).run P E.w= .ok n E.w)(hl:kr g n cs=some x):
 ∃v,(loadVar t ⟨b,off,none⟩).run P E.w=.ok v E.w/\pm E x v:=by
 obtain⟨us,rl,h⟩:=hm;unfold kr at hl;cases g with
 |true=>
  simp only at hl;split at hl
  ·rename_i hn;cases hl;have hlen:=rl.length;refine⟨.agg (us.take n).toArray,?_,(us.take n).toArray,rfl,by simpa using rl.take n⟩
   have:=run_loadCells_list (P:=P) E.w ⟨b,off,none⟩ (us.take n) (fun j v hj=>by
    grind [Ae])
   simp_all [loadVar]
  ·cases hl
 |false=>
  simp only at hl;split at hl
  ·rename_i c cs;cases hl;obtain⟨u,us',rfl,r1,_⟩:=rl;have:=h 0 u (by simp)
   grind [loadVar,ai,ae,auF]
  ·cases hl
def JA{xs:List AV}(h:cellsOf x=some xs)(r:pm E x v):kP E xs v.cells.toList/\∀u∈v.cells.toList,u.oneCell'=true:=by
 unfold cellsOf at h;split at h
 ·rename_i cs;split at h
  ·rename_i hs;cases h;obtain⟨vs,rfl,rl⟩:=r;exact⟨rl,apU hs rl⟩
  ·cases h
 ·split at h
  ·rename_i hs;cases h;have h1:=ar0 hs r;have:v.cells= #[v]:=by cases v<;>first|rfl|(simp [Value.oneCell']at h1)
   rw[this];exact⟨⟨v,[],rfl,r,rfl⟩,by simpa using h1⟩
  ·cases h
def ade(E:CS):∀vs:List aRu,kP E (vs.map Ml) vs
 |[]=>rfl
 |v::vs=>⟨v,vs,rfl,avZ E v,ade E vs⟩
def aoH(h:mD P t=some z):∃v,(zeroValue t).run P w=.ok v w/\(∀E,kP E z v.cells.toList)/\∀u∈v.cells.toList,u.oneCell'=true:=by
 unfold mD at h;cases hi:P.info? t with
 |none=>simp [hi]at h
 |some i=>
  simp only[hi]at h;cases hz:i.zero with
  |none=>simp [hz]at h
  |some v=>
   simp only[hz]at h;split at h
   ·rename_i h1;cases h;exact⟨v,by simp [zeroValue,typeInfo,hi,hz],fun E=>ade E _,br.1 h1⟩
   ·cases h
def aBZ(h:mD P t=some z):∃v,(zeroValue t).run P w=.ok v w/\z=v.cells.toList.map Ml/\∀u∈v.cells.toList,u.oneCell'=true:=by
 unfold mD at h;cases hi:P.info? t with
 |none=>simp [hi]at h
 |some i=>
  simp only[hi]at h;cases hz:i.zero with
  |none=>simp [hz]at h
  |some v=>
   simp only[hz]at h;split at h
   ·rename_i h1;cases h;exact⟨v,by simp [zeroValue,typeInfo,hi,hz],rfl,br.1 h1⟩
   ·cases h
def axd(h:Ml v=.kF true 0 []):v=.slice none 0 0:=by
 unfold Ml at h;split at h<;>first|rfl|cases h
def aGK(E:CS)(t:Nat){vs:List aRu}(h:z=vs.map Ml):kP E (zB t z) vs:=by
 have r0:kP E z vs:=by rw[h];exact ade E vs
 unfold zB;cases amx t with
 |false=>exact r0
 |true=>
  rw[jE];split
  ·obtain⟨v0,vs',rfl,h0,v1,aQx,rfl,_,h2⟩:=r0;simp only[bN,aX]at h;exact⟨v0,_,rfl,h0,v1,_,rfl,axd h.2.1.symm,h2⟩
  ·exact r0
def nF.write(S:nF C U J a w){cs':List AV}{c':Array aRu}(hl:J.heap[l]? =some (.cells cs))(hφ:U l=.pointer (some ⟨b,0,none⟩))
 (hh:w.heap[b]? =some (.cells c t (0,0))) (hr:kP (C.env U J.heap w) cs' c'.toList) (h1:∀u∈c'.toList,u.oneCell'=true):nF C U {J with heap:=J.heap.set l (.cells cs')} a (w.setRow b c'):=by
 have sJ:l<J.heap.length:=(aj.1 hl).1
 have n9:∀(k:Nat)(x:j5),(J.heap.set l (.cells cs'))[k]? =some x->(k=l/\x=.cells cs')\/(k≠l/\J.heap[k]? =some x):=by
  grind
 have OC:∀b' o,GJ U (J.heap.set l (.cells cs')) b' o->GJ U J.heap b' o:=by
  rintro b' o ⟨k,x,hx,hm⟩;rcases n9 k x hx with⟨rfl,rfl⟩|⟨_,hx⟩
  ·exact⟨k,_,hl,by rw[hφ]at hm ⊢;exact hm⟩
  ·exact⟨k,x,hx,hm⟩
 have hmb:∀o,GJ U J.heap b o:=fun o=>⟨l,_,hl,by rw[hφ];rfl⟩
 have le:(C.env U J.heap w).Le J.heap.length (C.env U (J.heap.set l (.cells cs')) (w.setRow b c')):=by
  refine qC.CU (by simp) (fun k hk=>⟨rfl,?_⟩) (fun b' o u hm hc=>?_)
  ·by_cases e:k=l
   ·subst e;rw[aR sJ,hl];rfl
   grind
  grind [cell_setRow_other]
 have B1:tv C U (J.heap.set l (.cells cs')) (w.setRow b c') J.df a.defers:=by
  refine S.defers.step le (fun b' _ hno=>?_) (fun k x b' hx hb=>?_)
  ·refine setRow_other w b b' c' (fun e=>?_);subst e;exact hno l _ hl (by rw[hφ];rfl)
  ·rcases n9 k x hx with⟨rfl,rfl⟩|⟨sv,hx⟩
   ·exact .inl ⟨k,_,hl,by rw[hφ]at hb ⊢;exact hb⟩
   ·exact .inl ⟨k,x,hx,hb⟩
 refine {j9:=kP.mono le _ _ (kP.nb _ _ S.j9) S.j9,defers:=B1,om:=?_,apart:=?_,uh:=?_,size:=by simpa using S.size,old:=?_,n8:=?_,Cn:=?_,wZ:=?_,rest:=S.rest,low:=⟨S.low.1,by simpa using S.low.2⟩,mA:=?_}
 ·intro k x hx;rcases n9 k x hx with⟨rfl,rfl⟩|⟨sv,hx⟩
  ·exact⟨b,c',t,hφ,setRow_heap w b c c' t _ hh,kP.mono le _ _ (kP.nb _ _ hr) hr,h1⟩
  ·refine oP.mono (S.om k x hx) le (fun b' sK=>?_);refine setRow_other w b b' c' (fun e=>?_);subst e;exact sv (S.apart k l x _ b' hx hl sK (by rw[hφ];rfl))
 ·intro k k' x x' b' hx BA hb sK;rcases n9 k x hx with⟨rfl,rfl⟩|⟨sv,Zp⟩<;>rcases n9 k' x' BA with⟨rfl,rfl⟩|⟨auG,aQK⟩
  ·rfl
  ·exact S.apart k k' _ x' b' hl aQK (by rw[hφ]at hb ⊢;exact hb) sK
  ·exact S.apart k k' x _ b' Zp hl hb (by rw[hφ]at sK ⊢;exact sK)
  ·exact S.apart k k' x x' b' Zp aQK hb sK
 ·intro k x b' o hx hb;rcases n9 k x hx with⟨rfl,rfl⟩|⟨sv,hx⟩
  ·exact S.uh k _ b' o hl (by rw[hφ]at hb ⊢;exact hb)
  ·exact S.uh k x b' o hx hb
 ·intro b' o sK hm;by_cases e:b'=b
  ·subst e;exact absurd (S.Cn l _ b' o hl (by rw[hφ];rfl) sK) hm
  ·rw[cell_setRow_other w b c' _ e];exact S.old b' o sK hm
 ·intro b' sK hm;by_cases e:b'=b
  ·subst e;exact absurd (S.Cn l _ b' 0 hl (by rw[hφ];rfl) sK) (hm 0)
  ·rw[setRow_other w b b' c' e];exact S.n8 b' sK hm
 ·intro k x b' o hx hm sK;rcases n9 k x hx with⟨rfl,rfl⟩|⟨sv,hx⟩
  ·exact S.Cn k _ b' o hl (by rw[hφ]at hm ⊢;exact hm) sK
  ·exact S.Cn k x b' o hx hm sK
 ·intro x hx hm0;rw[<-S.wZ x hx hm0];by_cases e:x.block=b
  ·simp only[World.frozen?];rw[e,setRow_heap w b c c' t _ hh,hh]
  grind [World.frozen?,setRow_other]
 ·intro k hk;have:=S.mA k hk;by_cases e:k=l
  ·subst e;rw[aR sJ];rw[hl]at this;exact this
  grind
def aze(S:nF C U J a w){ys:List AV}(ht:mN C.P t=some (g,n))(hl:J.heap[l]? =some (.cells cs))
 (hr:kP (C.env U J.heap w) ys v.cells.toList) (h1:∀u∈v.cells.toList,u.oneCell'=true) (hn:ys.length=n) (aPg:off+n<=cs.length) {p:aRu}
 (hp:pm (C.env U J.heap w) (.ptr l off) p):
 ∃w',(bo t p v).run C.P w=.ok () w'/\nF C U {J with heap:=J.heap.set l (.cells (vq cs off ys))} a w':=by
 obtain⟨_,b,hφ,rfl⟩:=hp;simp only[qC.env]at hφ;obtain⟨b2,c,t2,hφ2,hh,rl,zr⟩:=S.om l _ hl;have e:b2=b:=by grind
 subst e;simp only[qC.env]at hh;have hcl:c.size=cs.length:=by have:=rl.length;simpa using this
 have hvl:v.cells.size=n:=by have:=hr.length;simp at this;omega
 have hst:=run_storeCells_at C.P b2 off t2 v.cells.toList 0 c w hh (by simp;omega) h1;refine⟨_,?_,S.write hl hφ hh (c':=(c.toList.take off++v.cells.toList++c.toList.drop (off+v.cells.toList.length)).toArray) ?_ ?_⟩
 ·have hs:=(K9 (C:=C) (w:=w) ht).2
  grind [bo,ay,storeVar,ai,ae]
 ·have e1:v.cells.toList.length=ys.length:=hr.length;rw[e1];exact((rl.take off).append hr).append (rl.drop _)
 grind
theorem amD(off:Nat):∀(xs:List aRu)(k:Nat)(cs:Array aRu),off+k+xs.length<=cs.size->
 (((xs.zipIdx k).foldl (fun cs p=>cs.setIfInBounds (off+p.2) p.1) cs).toList=cs.toList.take (off+k)++xs++cs.toList.drop (off+k+xs.length))
 |[],k,cs,_=>by simp
 |x::xs,k,cs,h=>by
  simp only[List.zipIdx_cons,List.foldl_cons];rw[amD off xs (k+1) _ (by simp at h ⊢;omega)];have e:=list_seg_step cs.toList (off+k) x xs (by simp at h ⊢;omega)
  simp_all [bO]
def als{E:CS}(place:Nat->Option (Nat×Nat)): ∀(ps:List (Nat×AV))(qs:List (Nat×aRu))(cs:List AV)(vs:Array aRu)(out:List AV),
 kP E cs vs.toList->(∀u∈vs.toList,u.oneCell'=true)->qs.map (·.1)=ps.map (·.1)->kP E (ps.map (·.2)) (qs.map (·.2))->ac7 place cs ps=some out->
 ∃us,Instr.fill place vs qs=some us/\kP E out us.toList/\∀u∈us.toList,u.oneCell'=true
 |[],[],cs,vs,out,r,h1,_,_,h=>by
  simp only[ac7]at h;cases h;exact⟨vs,rfl,r,h1⟩
 |[],_::_,_,_,_,_,_,h,_,_=>by simp at h
 |_::_,[],_,_,_,_,_,h,_,_=>by simp at h
 |(i,x)::ps,(j,v)::qs,cs,vs,out,r,h1,hi,hr,h=>by
  simp only[bN,aX]at hi;obtain⟨rfl,hi⟩:=hi;obtain⟨u,us,hus,r1,r2⟩:=hr;simp only[bN,aX]at hus;obtain⟨rfl,rfl⟩:=hus;simp only[ac7]at h;split at h
  ·rename_i off size xs hp hx;split at h
   ·rename_i hc;obtain⟨hrl,zr⟩:=JA hx r1;have hlen:=hrl.length;have hcl:=r.length;have hsz:v.cells.size=size:=by simp at hlen;omega
    have hsp:off+v.cells.size<=vs.size:=by simp at hcl;omega
    have hf:=amD off v.cells.toList 0 vs (by simpa using hsp);simp only[bt]at hf
    have aLL:(v.cells.zipIdx.foldl (fun cs (c,j)=>cs.setIfInBounds (off+j) c) vs).toList=vs.toList.take off++v.cells.toList++vs.toList.drop (off+v.cells.toList.length):=by
     rw[<-hf,<-Array.foldl_toList];simp
    obtain⟨us',aGL,hr',ho'⟩:=als place ps qs (vq cs off xs) (v.cells.zipIdx.foldl (fun cs (c,j)=>cs.setIfInBounds (off+j) c) vs) out (by
     rw[aLL,hlen];exact((r.take off).append hrl).append (r.drop _)) (by
     grind) hi r2 h
    grind [Instr.fill]
   ·cases h
  ·cases h
theorem azf(S:nF C U J a w)(hb:rW C.P t=true)(hz:mD C.P t=some z)
 (hf:ac7 (kT C.P t) (zB t z) (parts.toList.map fun p=>(p.1,J.ev p.2))=some cs):
 ∃v,(Instr.build t (parts.map fun(i,x)=>(i,a.eval x))).run C.P w=.ok v w/\pm (C.env U J.heap w) (.agg cs) v:=by
 have hev:∀ps:List (Nat×aRt),kP (C.env U J.heap w) ((ps.map fun p=>(p.1,J.ev p.2)).map (·.2)) ((ps.map fun p=>(p.1,a.eval p.2)).map (·.2)):=by
  intro ps;induction ps with
  |nil=>rfl
  |cons p ps ih=>exact⟨_,_,rfl,S.ev p.2,ih⟩
 unfold mD at hz;cases hi:C.P.info? t with
 |none=>simp [hi]at hz
 |some it=>
  simp only[hi]at hz;cases hz0:it.zero with
  |none=>simp [hz0]at hz
  |some zv=>
   simp only[hz0]at hz;split at hz
   case isFalse=>cases hz
   rename_i zr;cases hz;obtain⟨us,hus,hr,_⟩:=als (kT C.P t) _ (parts.toList.map fun p=>(p.1,a.eval p.2)) _ zv.cells cs (aGK (C.env U J.heap w) t rfl) (br.1 zr) (by simp) (hev _) hf;refine⟨.agg us,run_build w t _ us ?_,us,rfl,hr⟩;have aB0:(parts.map fun(i,x)=>(i,a.eval x)).toList=parts.toList.map fun p=>(p.1,a.eval p.2):=by simp
   rw[aB0];unfold rW at hb;unfold Program.built;cases hu:C.P.underlying t with
   |none=>simp [Ya,hu]at hb
   |some d=>
    cases d<;>try (simp [Ya,hu]at hb;done)
    case array n e=>
     cases he:C.P.info? e with
     |none=>simp [Ya,hu,he]at hb
     |some ie=>
      have:kT C.P t=fun i=>some (i*ie.size,ie.size):=by grind [kT,Ya]
      grind
    case struct fs=>
     cases hp:fs.toList.mapM (fun f=>(C.P.info? f.type).map fun i=>(f.offset,i.size))with
     |none=>simp [Ya,hu,hp]at hb
     |some pl=>
      have:kT C.P t=fun i=>pl.toArray[i]? :=by grind [kT,Ya]
      grind
end sound
section sound
variable {a:Act}
def Mn {e:aRy}{sz bytes:Nat}(h:l8 P t=some (e,sz,bytes)):P.underlying t=some (.slice e)/\∃i,P.info? e=some i/\i.size=sz/\i.bytes=bytes:=by
 grind [l8]
theorem akl(z:List aRu):∀n,(List.range (n*z.length)).map (fun i=>z.toArray[i % z.length]!)=(an n z).flatten
 |0=>by simp
 |n+1=>by
  rw[aB,bU,Nat.add_comm,List.range_add,List.map_append,List.map_map,bR,aD,<-akl z n];congr 1
  ·apply List.ext_getElem?
   grind [Nat.mod_eq_of_lt]
  simp_all
theorem CW{W:Type}{sz:Nat}:∀{rows:List (List W)},(∀r∈rows,r.length=sz)->rows.flatten.length=rows.length*sz
 |[],_=>by simp
 |r::rows,h=>by
  simp only[aD,List.length_append,aG,aB,bU];rw[CW (fun q hq=>h q (by simp [hq])),h r (by simp)];omega
theorem apV{sz:Nat}:∀{rows:List (List AV)}{i:Nat}{xs:List AV},(∀r∈rows,r.length=sz)->i<rows.length->xs.length=sz->
 (rows.set i xs).flatten=vq rows.flatten (i*sz) xs
 |[],_,_,_,h,_=>by simp at h
 |r::rows,0,xs,hl,_,hx=>by
  grind [vq]
 |r::rows,i+1,xs,hl,hi,hx=>by
  have hr:=hl r (by simp);have ih:=apV (rows:=rows) (i:=i) (xs:=xs) (fun q hq=>hl q (bL _ hq)) (by simpa using hi) hx;simp only[List.set_cons_succ,aD,ih,vq];have e1:(i+1)*sz=r.length+i*sz:=by rw[aB,hr];omega
  have e2:(i+1)*sz+xs.length=r.length+(i*sz+xs.length):=by omega
  rw[e2,e1,List.take_length_add_append,List.drop_length_add_append];simp
def apW{sz:Nat}: ∀{ps:List (Nat×AV)}{rows out:List (List AV)},(∀r∈rows,r.length=sz)->ac8 sz rows ps=some out->
 ac7 (fun i=>some (i*sz,sz)) rows.flatten ps=some out.flatten/\out.length=rows.length/\∀r∈out,r.length=sz
 |[],rows,out,hl,h=>by
  simp only[ac8]at h;cases h;exact⟨rfl,rfl,hl⟩
 |(i,x)::ps,rows,out,hl,h=>by
  simp only[ac8]at h;split at h
  ·rename_i xs hx;split at h
   ·rename_i hc
    have hl':∀r∈rows.set i xs,r.length=sz:=by
     grind
    obtain⟨h1,h2,h3⟩:=apW hl' h;refine⟨?_,by simpa using h2,h3⟩;simp only[ac7,hx];have hfl:=CW hl
    have:i*sz+sz<=rows.length*sz:=by
     have:(i+1)*sz<=rows.length*sz:=av _ hc.1;rw[aB]at this;omega
    grind [apV]
   ·cases h
  ·cases h
theorem Ec{E:CS}{z:List AV}{vs:List aRu}(r:kP E z vs):∀n,kP E (an n z).flatten (an n vs).flatten
 |0=>by simp [kP]
 |n+1=>by
  simp only[bR,aD];exact r.append (Ec r n)
theorem amE(zv:aRu)(n sz:Nat)(hz:zv.cells.size=sz):
 ((bn (n*sz)).map (fun i=>(if n*sz=0 then(#[]:Array aRu)else zv.cells)[i % (if n*sz=0 then(#[]:Array aRu)else zv.cells).size]!)).toList=(an n zv.cells.toList).flatten:=by
 have:=akl zv.cells.toList n;simp only[bj,hz]at this;rw[<-this];by_cases h:n*sz=0
 ·simp [h]
 ·simp [h,hz]
def agH(S:nF C U J a w){e:aRy}{len sz bytes:Nat}(ht:l8 C.P t=some (e,sz,bytes))
 (hz:mD C.P e=some z) (hl:z.length=sz/\len*sz<=16777216) (hf:ac8 sz (an len z) (parts.toList.map fun p=>(p.1,J.ev p.2))=some rows):
 ∃us:Array aRu,(aN t len (parts.map fun(i,x)=>(i,a.eval x))).run C.P w=.ok (.slice (some ⟨w.heap.size,0,none⟩) len len) (World.more w (.cells us e))/\
  kP (C.env U J.heap w) rows.flatten us.toList/\(∀u∈us.toList,u.oneCell'=true)/\rows.length=len/\(∀r∈rows,r.length=sz)/\us.toList.length=len*sz:=by
 obtain⟨hu,i,hi,rfl,rfl⟩:=Mn ht
 have hev:∀ps:List (Nat×aRt),kP (C.env U J.heap w) ((ps.map fun p=>(p.1,J.ev p.2)).map (·.2)) ((ps.map fun p=>(p.1,a.eval p.2)).map (·.2)):=by
  intro ps;induction ps with
  |nil=>rfl
  |cons p ps ih=>exact⟨_,_,rfl,S.ev p.2,ih⟩
 obtain⟨zv,hzr,aGM,aNo⟩:=aoH (w:=w) hz;have hzl:zv.cells.size=i.size:=by have:=(aGM (C.env U J.heap w)).length;simp at this;omega
 have hrl:∀r∈an len z,r.length=i.size:=by
  grind
 obtain⟨h1,h2,h3⟩:=apW hrl hf
 have amF:kP (C.env U J.heap w) (an len z).flatten ((bn (len*i.size)).map (fun j=>(if len*i.size=0 then(#[]:Array aRu)else zv.cells)[j % (if len*i.size=0 then(#[]:Array aRu)else zv.cells).size]!)).toList:=by
  grind [amE,Ec]
 obtain⟨us,hus,hr,zr⟩:=als (fun j=>some (j*i.size,i.size)) _ (parts.toList.map fun p=>(p.1,a.eval p.2)) _ _ rows.flatten amF (by
  grind [amE,List.mem_flatten]) (by simp) (hev _) h1
 have hlen:rows.length=len:=by simpa using h2
 have aGL:us.toList.length=len*i.size:=by
  rw[hr.length,CW h3,hlen]
 refine⟨us,?_,hr,zr,hlen,h3,aGL⟩;have aB0:(parts.map fun(i,x)=>(i,a.eval x)).toList=parts.toList.map fun p=>(p.1,a.eval p.2):=by simp
 have hsz:(sizeOf e).run C.P w=.ok i.size w:=by simp [sizeOf,typeInfo,hi]
 by_cases h0:len*i.size=0
 ·simp only[h0,jM]at hus;simp only[aN,ai,run_underlying hu,ae,hsz,h0,jM,aB0];simp only[Nat.not_lt_zero,if_false,gt_iff_lt];simp only[hus,newRow,ai,run_newObj,ae,aq];rfl
 ·simp only[h0,if_false]at hus;have hle: ¬ (len*i.size>2 ^ 24):=by omega
  simp only[aN,ai,run_underlying hu,ae,hsz,h0,if_false,aq,aB0,hle,hzr];simp only[hus,newRow,ai,run_newObj,ae,aq];rfl
def aoI(S:nF C U J a w){e:aRy}{len sz bytes:Nat}(ht:l8 C.P t=some (e,sz,bytes))
 (hz:mD C.P e=some z) (hl:z.length=sz/\len*sz<=16777216) (hf:ac8 sz (an len z) (parts.toList.map fun p=>(p.1,J.ev p.2))=some rows):
 ∃v c,(aN t len (parts.map fun(i,x)=>(i,a.eval x))).run C.P w=.ok v (World.more w (.cells c e))/\
  pm (C.env U J.heap (World.more w (.cells c e))) (.kF true sz rows) v:=by
 obtain⟨us,uB,hr,zr,hlen,h3,aGL⟩:=agH S ht hz hl hf;refine⟨.slice (some ⟨w.heap.size,0,none⟩) len len,us,uB,some ⟨w.heap.size,0,none⟩,len,by rw[hlen],by omega,fun _=>hlen.symm,by simp,by simp,?_⟩
 grind [apQ]
end sound
section sound
variable {a:Act}
def Sl {u e:aRy}{sLen sCap:Nat}{x:aRu}(hu:P.underlying t=some (.slice e))(hi:P.info? e=some i)
 (hd:P.underlying u=some d) (hni:∀k,d≠ .int k) (hlen:(bP x).run P w=.ok n w) (auH:(ap i.size n x).run P w=.ok us w) (aoJ:sLen+n<=sCap):
 (am #[t,u] ty #[.slice base sLen sCap,x]).run P w=
   (match base with|some a=>(storeCells (a.add (sLen*i.size)) us.toList).run P w|none=>.ok () w).andThen fun _ w'=>.ok (.slice base (sLen+n) sCap) w':=by
 have hsz:(sizeOf e).run P w=.ok i.size w:=by simp [sizeOf,typeInfo,hi]
 cases d<;>try (exact absurd rfl (hni _))
 all_goals
  simp only[am,bG,aF,aZ,ai,run_underlying hu,run_underlying hd,ae,hsz,hlen,aoJ,jM,aq,aI,if_false,bH,auH];cases base with
  |none=>rfl
  |some b=>simp only[ai,aq]
theorem av7(aGN:Nat):∀(r c:Nat),256<=c->bI aGN r c<=2 ^ r*c
 |0,c,_=>by simp [bI]
 |r+1,c,h=>by
  unfold bI;split
  ·have:1<=2 ^ (r+1):=Nat.one_le_two_pow
   calc c=1*c:=by omega
    _<=_:=av _ this
  ·have h1:=av7 aGN r (c+(c+768) / 4) (by omega);have h2:c+(c+768) / 4<=2*c:=by omega
   calc _<=2 ^ r*(c+(c+768) / 4):=h1
    _<=2 ^ r*(2*c):=Nat.mul_le_mul_left _ h2
    _=2 ^ (r+1)*c:=by grind
def aB1 {me:Nat}(h:cap<me):be me cap<=16*me:=by
 grind [be,av7]
def aa1 {u e:aRy}{sLen sCap:Nat}{x zv:aRu}{old:Array aRu}(hu:P.underlying t=some (.slice e))(hi:P.info? e=some i)
 (hd:P.underlying u=some d) (hni:∀k,d≠ .int k) (hlen:(bP x).run P w=.ok n w) (auH:∀k,(ap i.size n x).run P {w with drawn:=k}=.ok us {w with drawn:=k})
 (hold:∀k,(ap i.size sLen (.slice base sLen sCap)).run P {w with drawn:=k}=.ok old {w with drawn:=k}) (hz:i.zero=some zv)
 (aB2:sCap<sLen+n) (Bm:(sLen+n)*i.bytes<=2 ^ 44) (hb:0<i.bytes):
 ∃cap,sLen+n<=cap/\(am #[t,u] ty #[.slice base sLen sCap,x]).run P w=
  .ok (.slice (some ⟨w.heap.size,0,none⟩) (sLen+n) cap) (World.more {w with drawn:=w.drawn+1} (.cells (old++us++bq zv.cells (cap-(sLen+n))) e)):=by
 have hsz:∀w:aRv,(sizeOf e).run P w=.ok i.size w:=fun w=>by simp [sizeOf,typeInfo,hi]
 have hti:∀w:aRv,(typeInfo e).run P w=.ok i w:=fun w=>by simp [typeInfo,hi]
 have hzv:∀w:aRv,(zeroValue e).run P w=.ok zv w:=fun w=>by simp [zeroValue,typeInfo,hi,hz]
 have aQt:sLen+n<=2 ^ 44:=bu (Nat.le_mul_of_pos_right _ hb) Bm
 have Cp: ¬ (be (sLen+n) sCap*i.bytes>2 ^ 48):=by
  have h1:=av i.bytes (aB1 aB2);rw[Nat.mul_assoc]at h1;omega
 have hb0:i.bytes≠0:=by omega
 have aoJ: ¬ (sLen+n<=sCap):=by omega
 refine⟨(sLen+n)+w.tape w.drawn (.appendCap (sLen+n) sCap e) % (2 ^ 63-(sLen+n)),by omega,?_⟩;cases d<;>try (exact absurd rfl (hni _))
 all_goals
  simp only[am,bG,aF,aZ,ai,run_underlying hu,run_underlying hd,ae,hsz,hlen,aoJ,if_false,aq,hti,aI,hb0,or_self,and_false,Cp,run_choose,Question.forced,Question.cut,run_askRoom,hold,auH,hzv,bH,jM,newRow,run_newObj];rfl
def nF.aB3(S:nF C U J a w){sz:Nat}{ub:Bool}(hl:J.heap[l]? =some (.lR ub sz rows))(hys:0<ys.length\/h'=U l)
 (aa2:w.heap.size<=w'.heap.size)
 (ud:∀b o,b<w.heap.size-> ¬ (j5.lR ub sz rows).Bk (U l) b o->w'.cell? ⟨b,o,none⟩=w.cell? ⟨b,o,none⟩)
 (Jy:∀b,b<w.heap.size-> ¬ (j5.lR ub sz rows).block (U l) b->w'.heap[b]? =w.heap[b]?)
 (aGO:∀x,w'.frozen? x=w.frozen? x) (yd:w'.output=w.output/\w'.os=w.os)
 (Fv:∀b,(j5.lR ub sz (rows++ys)).block h' b->(j5.lR ub sz rows).block (U l) b\/w.heap.size<=b)
 (apX:∀b o,(j5.lR ub sz (rows++ys)).Bk h' b o->(j5.lR ub sz rows).Bk (U l) b o\/w.heap.size<=b)
 (Sm:∀E',(C.env U J.heap w).Le J.heap.length E'->E'.w=w'->oP E' (.lR ub sz (rows++ys)) h') (hty:tyk w w':=by first|exact fun _ c _ fz h=>⟨c,fz,h⟩|exact arW rfl|exact arK _ _ _|exact arV (by assumption)|assumption):
 nF C (fun k=>if k=l then h' else U k) {J with heap:=J.heap.set l (.lR ub sz (rows++ys))} a w':=by
 have sJ:l<J.heap.length:=(aj.1 hl).1
 let U':Nat->aRu:=fun k=>if k=l then h' else U k
 have hφl:U' l=h':=by simp [U']
 have hφk:∀k,k≠l->U' k=U k:=fun k hk=>by simp [U',hk]
 have n9:∀(k:Nat)(x:j5),(J.heap.set l (.lR ub sz (rows++ys)))[k]? =some x->(k=l/\x=.lR ub sz (rows++ys))\/(k≠l/\J.heap[k]? =some x):=by
  grind
 have aPh:∀a,U l≠ .pointer a:=by
  obtain⟨base,cap,hh,_⟩:=S.om l _ hl;intro a;rw[hh];simp
 have aNp:hdl (U l)=none:=by
  obtain⟨base,cap,hh,_⟩:=S.om l _ hl;rw[hh];rfl
 have OC:∀b o,GJ U' (J.heap.set l (.lR ub sz (rows++ys))) b o->GJ U J.heap b o\/w.heap.size<=b:=by
  rintro b o ⟨k,x,hx,hm⟩;rcases n9 k x hx with⟨rfl,rfl⟩|⟨sv,hx⟩
  ·rw[hφl]at hm;exact(apX b o hm).imp (fun h=>⟨k,_,hl,h⟩) id
  ·rw[hφk k sv]at hm;exact .inl ⟨k,x,hx,hm⟩
 have le:(C.env U J.heap w).Le J.heap.length (C.env U' (J.heap.set l (.lR ub sz (rows++ys))) w'):=by
  refine⟨by simp [qC.env],fun k hk=>?_,fun b o u hm hc=>?_,hty⟩
  ·grind [qC.env,mR]
  ·have hb:=F6 hc;simp only[qC.env]at hb hm ⊢;refine⟨fun h=>?_,?_⟩
   ·grind
   ·rw[ud b o hb (fun h=>hm (.inl ⟨l,_,hl,h⟩))];exact hc
 have B1:tv C U' (J.heap.set l (.lR ub sz (rows++ys))) w' J.df a.defers:=by
  refine S.defers.step le (fun b hb hno=>Jy b hb (hno l _ hl)) (fun k x b hx hb=>?_)
  grind
 refine {j9:=kP.mono le _ _ (kP.nb _ _ S.j9) S.j9,defers:=B1,om:=?_,apart:=?_,uh:=?_,size:=bu S.size aa2,old:=?_,n8:=?_,Cn:=?_,wZ:=fun x hx=>by rw[aGO];exact S.wZ x hx,rest:=⟨by rw[yd.1];exact S.rest.1,by rw[yd.2];exact S.rest.2⟩,low:=⟨S.low.1,by simpa using S.low.2⟩,mA:=?_}
 ·intro k x hx;rcases n9 k x hx with⟨rfl,rfl⟩|⟨sv,hx⟩
  ·have:=Sm _ le rfl;simpa using this
  ·have r0:=S.om k x hx
   have:oP (C.env U' (J.heap.set l (.lR ub sz (rows++ys))) w') x (U k):=by
    refine oP.mono r0 le (fun b hb=>Jy b (r0.qP hb) (fun h=>?_));exact sv (S.apart k l x _ b hx hl hb h)
   simpa [sv] using this
 ·intro k k' x x' b hx BA hb sK;rcases n9 k x hx with⟨rfl,rfl⟩|⟨sv,Zp⟩<;>rcases n9 k' x' BA with⟨rfl,rfl⟩|⟨auG,aQK⟩
  ·rfl
  ·simp only[jM]at hb;simp only[auG,if_false]at sK;rcases Fv b hb with h|h
   ·exact S.apart k k' _ x' b hl aQK h sK
   ·have:=(S.om k' x' aQK).qP sK;simp only[qC.env]at this;omega
  ·simp only[jM]at sK;simp only[sv,if_false]at hb;rcases Fv b sK with h|h
   ·exact S.apart k k' x _ b Zp hl hb h
   ·have:=(S.om k x Zp).qP hb;simp only[qC.env]at this;omega
  ·simp only[sv,auG,if_false]at hb sK;exact S.apart k k' x x' b Zp aQK hb sK
 ·intro k x b o hx hb;rcases n9 k x hx with⟨rfl,rfl⟩|⟨sv,Zp⟩
  ·simp only[jM]at hb;rcases Fv b hb with h|h
   ·exact S.uh k _ b o hl h
   ·intro hA;have:=C.hA _ _ hA;have:=S.size;omega
  ·simp only[sv,if_false]at hb;exact S.uh k x b o Zp hb
 ·intro b o hb hm;rw[ud b o (aa hb S.size) (fun h=>hm (S.Cn l _ b o hl h hb))];exact S.old b o hb hm
 ·intro b hb hm;rw[Jy b (aa hb S.size) (fun h=>?_)]
  ·exact S.n8 b hb hm
  ·obtain⟨base,cap,hh,_⟩:=S.om l _ hl;rw[hh]at h;cases base with
   |none=>simp [j5.block]at h
   |some a0=>
    simp only[j5.block]at h;exact hm (a0.off+rows.length*sz) (S.Cn l _ b _ hl (by rw[hh];exact⟨h,fun _=>aA _⟩) hb)
 ·intro k x b o hx hm hb;rcases n9 k x hx with⟨rfl,rfl⟩|⟨sv,Zp⟩
  ·simp only[jM]at hm;rcases apX b o hm with h|h
   ·exact S.Cn k _ b o hl h hb
   ·have:=S.size;omega
  ·simp only[sv,if_false]at hm;exact S.Cn k x b o Zp hm hb
 ·intro k hk;have:=S.mA k hk
  grind [mR]
def nF.adf(S:nF C U J a w){ub:Bool}{sz:Nat}
 (aa2:w.heap.size<=w'.heap.size) (Jy:∀b,b<w.heap.size->w'.heap[b]? =w.heap[b]?)
 (aGO:∀x,w'.frozen? x=w.frozen? x) (yd:w'.output=w.output/\w'.os=w.os)
 (Fv:∀b,(j5.lR ub sz rows).block h' b->w.heap.size<=b)
 (Sm:∀E',(C.env U J.heap w).Le J.heap.length E'->E'.w=w'->oP E' (.lR ub sz rows) h'):
 nF C (fun k=>if k=J.heap.length then h' else U k) {J with heap:=J.heap++[.lR ub sz rows]} a w':=by
 let U':Nat->aRu:=fun k=>if k=J.heap.length then h' else U k
 have hφ:∀l,l<J.heap.length->U' l=U l:=fun l hl=>by grind
 have n9:∀(l:Nat)(x:j5),(J.heap++[.lR ub sz rows])[l]? =some x->(l<J.heap.length/\J.heap[l]? =some x)\/(l=J.heap.length/\x=.lR ub sz rows):=by
  grind
 have ud:∀b o,b<w.heap.size->w'.cell? ⟨b,o,none⟩=w.cell? ⟨b,o,none⟩:=by
  grind [World.cell?]
 have OC:∀b o,GJ U' (J.heap++[.lR ub sz rows]) b o->w.heap.size<=b\/GJ U J.heap b o:=by
  rintro b o ⟨l,x,hx,hm⟩;rcases n9 l x hx with⟨hl,hx⟩|⟨rfl,rfl⟩
  ·rw[hφ l hl]at hm;exact .inr ⟨l,x,hx,hm⟩
  ·simp only[U',jM]at hm;exact .inl (Fv b (j5.ot hm))
 have le:(C.env U J.heap w).Le J.heap.length (C.env U' (J.heap++[.lR ub sz rows]) w'):=by
  refine qC.CU (by simp) (fun l hl=>⟨hφ l hl,by rw[az hl]⟩) (fun b i u hm hc=>?_)
  grind [F6]
 have B1:tv C U' (J.heap++[.lR ub sz rows]) w' J.df a.defers:=by
  refine S.defers.step le (fun b hb _=>Jy b hb) (fun l x b hx hb=>?_)
  grind
 refine {j9:=kP.mono le _ _ (kP.nb _ _ S.j9) S.j9,defers:=B1,om:=?_,apart:=?_,uh:=?_,size:=bu S.size aa2,old:=?_,n8:=?_,Cn:=?_,wZ:=fun x hx=>by rw[aGO];exact S.wZ x hx,rest:=⟨by rw[yd.1];exact S.rest.1,by rw[yd.2];exact S.rest.2⟩,low:=⟨S.low.1,by have:=S.low.2;simp;omega⟩,mA:=?_}
 ·intro l x hx;rcases n9 l x hx with⟨hl,hx⟩|⟨rfl,rfl⟩
  ·have r0:=S.om l x hx;have:oP (C.env U' (J.heap++[.lR ub sz rows]) w') x (U l):=oP.mono r0 le (fun b hb=>Jy b (r0.qP hb))
   grind
  ·have:=Sm _ le rfl;simpa using this
 ·intro l l' x x' b hx BA hb sK;rcases n9 l x hx with⟨hl,Zp⟩|⟨rfl,rfl⟩<;>rcases n9 l' x' BA with⟨hl',aQK⟩|⟨rfl,rfl⟩
  ·rw[show(if l=J.heap.length then _ else U l)=U l from hφ l hl]at hb;rw[show(if l'=J.heap.length then _ else U l')=U l' from hφ l' hl']at sK;exact S.apart l l' x x' b Zp aQK hb sK
  ·rw[show(if l=J.heap.length then _ else U l)=U l from hφ l hl]at hb;have:=(S.om l x Zp).qP hb
   grind [qC.env]
  ·rw[show(if l'=J.heap.length then _ else U l')=U l' from hφ l' hl']at sK;have:=(S.om l' x' aQK).qP sK
   grind [qC.env]
  ·rfl
 ·intro l x b o hx hb;rcases n9 l x hx with⟨hl,Zp⟩|⟨rfl,rfl⟩
  ·rw[show(if l=J.heap.length then _ else U l)=U l from hφ l hl]at hb;exact S.uh l x b o Zp hb
  ·simp only[jM]at hb;intro hA;have:=C.hA _ _ hA;have:=Fv b hb;have:=S.size;omega
 ·intro b i hb hm;rw[ud b i (aa hb S.size)];exact S.old b i hb hm
 ·intro b hb hm;rw[Jy b (aa hb S.size)];exact S.n8 b hb hm
 ·intro l x b o hx hm hb;rcases n9 l x hx with⟨hl,Zp⟩|⟨rfl,rfl⟩
  ·rw[show(if l=J.heap.length then _ else U l)=U l from hφ l hl]at hm;exact S.Cn l x b o Zp hm hb
  ·simp only[jM]at hm;have:=Fv b (j5.ot hm);have:=S.size;omega
 ·intro l hl;have sJ:l<J.heap.length:=by have:=S.low;omega
  have:=S.mA l hl
  grind
end sound
section sound
variable {a:Act}
def agI{E:CS}{sz b:Nat}:∀{rows:List (List AV)}{off:Nat},ol E sz b off rows->oV E b off rows.flatten/\∀r∈rows,r.length=sz
 |[],_,_=>⟨trivial,by simp⟩
 |r::rows,off,⟨h1,h2,h3⟩=>by
  obtain⟨m,hl⟩:=agI h3
  grind [oV.append]
def akm{E:CS}{b:Nat}:∀{cs:List AV}{off:Nat}{us:List aRu},oV E b off cs->kP E cs us->(∀j u,us[j]? =some u->E.w.cell? ⟨b,off+j,none⟩=some u)->∀u∈us,u.oneCell'=true
 |[],_,_,_,rfl,_=>by simp
 |c::cs,off,_,⟨⟨_,u,hu,h1,_⟩,r2⟩,⟨u',us,rfl,_,rl⟩,hc=>by
  intro v hv;simp only[a7]at hv;rcases hv with rfl|hv
  ·have:=hc 0 v (by simp)
   grind
  ·exact akm r2 rl (fun j w hj=>by rw[<-hc (j+1) w (by simpa using hj)];congr 2;omega) v hv
def aGP(P:aRx)(E:CS)(sz:Nat)(rows:List (List AV))(v:aRu):Prop:=
 ∃us:List aRu,kP E rows.flatten us/\us.length=rows.length*sz/\(∀r∈rows,r.length=sz)/\(∀u∈us,u.oneCell'=true)/\
  ∀k,(ap sz rows.length v).run P {E.w with drawn:=k}=.ok us.toArray {E.w with drawn:=k}
def av8{sz Ud:Nat}{t:Bool}(h:Ud=sz\/rows.length=0)(r:pm E (.kF t Ud rows) v):aGP P E sz rows v:=by
 obtain⟨base,cap,rfl,h2,h3,h4,h5,h6⟩:=r;cases base with
 |none=>
  have h0:rows.length=0:=by have:=h4 rfl;omega
  have:rows=[]:=af h0;subst this;exact⟨[],rfl,by simp,by simp,by simp,fun k=>by simp [ap]⟩
 |some a=>
  by_cases hr:rows=[]
  ·subst hr;exact⟨[],rfl,by simp,by simp,by simp,fun k=>by simp [ap,loadCells,loadCellsFrom]⟩
  ·have hsz:Ud=sz:=by
    grind
   subst hsz;obtain⟨m,hl⟩:=agI (h6 a rfl);obtain⟨us,rl,hc⟩:=Sk m;have zr:=akm m rl hc;have hlen:us.length=rows.length*Ud:=by rw[rl.length,CW hl]
   refine⟨us,rl,hlen,hl,zr,fun k=>?_⟩;have hsp:=h5 a rfl hr;have ha:a=⟨a.block,a.off,none⟩:=by cases a;simp_all
   have:=run_loadCells_list (P:=P) {E.w with drawn:=k} a us (fun j v hj=>by
    rw[ha,Ae];exact hc j v hj)
   grind [ap]
def av9(S:nF C U J a w){sz:Nat}{ub:Bool}(hl:J.heap[l]? =some (.lR ub sz rows)):aGP P (C.env U J.heap w) sz rows (U l):=by
 obtain⟨base,cap,hh,h2,h3,h4,h5⟩:=S.om l _ hl;rw[hh];cases base with
 |none=>
  have h0:rows.length=0:=by have:=h3 rfl;omega
  have:rows=[]:=af h0;subst this;exact⟨[],rfl,by simp,by simp,by simp,fun k=>by simp [ap]⟩
 |some b=>
  by_cases Cp:cap=0
  ·have h0:rows.length=0:=by omega
   have:rows=[]:=af h0;subst this;exact⟨[],rfl,by simp,by simp,by simp,fun k=>by simp [ap,loadCells,loadCellsFrom]⟩
  ·obtain⟨hsp,c,t,hc,hsz,rl,zr⟩:=h5 b rfl Cp;have hle:rows.length*sz<=cap*sz:=av _ h2
   have hlen:((c.toList.drop b.off).take (rows.length*sz)).length=rows.length*sz:=by
    grind
   refine⟨_,rl,hlen,h4,zr,fun k=>?_⟩;have ha:b=⟨b.block,b.off,none⟩:=by cases b;simp_all
   grind [run_loadCells_list,Ae,World.cell?,ap]
def Qm(_S:nF C U J a w){sz:Nat}{ub:Bool}(hl:J.heap[l]? =some (.lR ub sz rows))(hn:rows.length=n)
 (r:pm (C.env U J.heap w) (.lR l n) v):v=U l:=by
 obtain⟨_,_,h⟩:=r
 grind [qC.env,mR]
def agJ (S:nF C U J a w){sz:Nat} (hl:J.heap[l]? =some (.lR true sz rows)):pm (C.env U J.heap w) (.kF false sz rows) (U l):=by
 obtain⟨base,cap,hh,h2,h3,h4,h5⟩:=S.om l _ hl;refine⟨base,cap,hh,h2,(by intro h;cases h),h3,?_,?_⟩
 ·intro b hb sv;have hc:cap≠0:=fun h0=>sv (af (by omega))
  exact(h5 b hb hc).1
 ·intro b hb;by_cases hc:cap=0
  ·have:rows=[]:=af (by omega);subst this;trivial
  ·obtain⟨hsp,c,t,hcb,hsz,rl,zr⟩:=h5 b hb hc;subst hb;have hle:rows.length*sz<=cap*sz:=av _ h2
   have hnm:∀o,o<b.off+rows.length*sz-> ¬ (GJ U J.heap b.block o\/C.A b.block o):=by
    intro o ho hmu;have hbl:(j5.lR true sz rows).block (U l) b.block:=by rw[hh];exact⟨rfl,hc⟩
    rcases hmu with⟨l',x,hx,hm⟩|hA
    ·have e:=S.apart l' l x _ b.block hx hl (j5.ot hm) hbl;subst e;rw[hl]at hx;cases hx;rw[hh]at hm;have:=hm.2 rfl;omega
    ·exact S.uh l _ b.block o hl hbl hA
   have key: ∀ (rs:List (List AV)) (off:Nat),(∀r∈rs,r.length=sz)->off+rs.length*sz<=b.off+rows.length*sz->
    kP (C.env U J.heap w) rs.flatten ((c.toList.drop off).take (rs.length*sz))->(∀u∈(c.toList.drop off).take (rs.length*sz),u.oneCell'=true)->ol (C.env U J.heap w) sz b.block off rs:=by
    have mem:∀(cs:List AV)(off:Nat),off+cs.length<=b.off+rows.length*sz->kP (C.env U J.heap w) cs ((c.toList.drop off).take cs.length)->(∀u∈(c.toList.drop off).take cs.length,u.oneCell'=true)->
     oV (C.env U J.heap w) b.block off cs:=by
     intro cs;induction cs with
     |nil=>intro _ _ _ _;trivial
     |cons x cs ih=>
      intro off ho r h1;obtain⟨u,us,hu,r1,r2⟩:=r
      have hcu:c[off]? =some u:=by
       have:(c.toList.drop off)[0]? =some u:=by
        have:=congrArg (fun l:List aRu=>l[0]?) hu;simpa using this
       simpa using this
      have htl:us=(c.toList.drop (off+1)).take cs.length:=by
       have h1:=congrArg List.tail hu;simp only[List.tail_cons]at h1;rw[<-h1];cases hd:c.toList.drop off with
       |nil=>rw[hd]at hu;simp at hu
       |cons y ys=>
        grind [bE]
      simp only[aG]at ho;simp only[qC.env]at hcb;refine⟨⟨hnm off (by omega),u,by grind [qC.env,World.cell?],h1 u (by rw[hu];simp),r1⟩,ih (off+1) (by omega) (by rw[<-htl];exact r2) (fun v hv=>h1 v (by rw[hu,htl];simp [hv]))⟩
    intro rs;induction rs with
    |nil=>intro _ _ _ _ _;trivial
    |cons r rs ih=>
     intro off hl' ho h h1;have hr:r.length=sz:=hl' r (by simp);simp only[aD]at h;have h3:=kP.take r.length h;have h2:=kP.drop r.length h;simp only[bb,bc,bF,aY,aT]at h3 h2
     have e1:min r.length ((r::rs).length*sz)=r.length:=by
      grind [aB]
     have e2:(r::rs).length*sz-r.length=rs.length*sz:=by grind [aB]
     simp only[aG,aB,bU]at ho;rw[e1]at h3;rw[e2,hr]at h2;refine⟨hr,mem r off (by omega) h3 (fun u hu=>h1 u ?_),ih (off+sz) (fun q hq=>hl' q (by simp [hq])) (by omega) h2 (fun u hu=>h1 u ?_)⟩
     ·have:(c.toList.drop off).take r.length=((c.toList.drop off).take ((r::rs).length*sz)).take r.length:=by rw[bF,e1]
      grind
     ·have:(c.toList.drop (off+sz)).take (rs.length*sz)=((c.toList.drop off).take ((r::rs).length*sz)).drop sz:=by
       grind [aY,aT]
      grind
   grind
def auI(S:nF C U J a w){sz:Nat}(h:ac9 J sz y=some (rd,ys))(r:pm (C.env U J.heap w) y v):
 aGP P (C.env U J.heap w) sz ys v/\(bP v).run P w=.ok ys.length w:=by
 unfold ac9 at h;split at h
 ·split at h
  ·rename_i hc;cases h;refine⟨av8 hc r,?_⟩;obtain⟨_,_,rfl,_⟩:=r;rfl
  ·cases h
 ·split at h
  ·rename_i hl;split at h
   ·rename_i hc;cases h;have hv:=Qm S hl hc.2 r;subst hv;refine⟨hc.1 ▸ av9 S hl,?_⟩;obtain⟨base,cap,hh,_⟩:=S.om _ _ hl;rw[hh];rfl
   ·cases h
  ·cases h
 ·cases h;have r:v=_:=r;subst r;exact⟨⟨[],rfl,by simp,by simp,by simp,fun k=>by rename_i base cap;cases base<;>simp [ap,loadCells,loadCellsFrom]⟩,rfl⟩
 ·cases h
theorem agK(z:Array aRu)(n:Nat):(bq z n).size=n*z.size:=by simp [bq]
def ar2 {sz:Nat}{e:aRy}{us:List aRu}{zs:Array aRu}{ub:Bool}(OK:∀r∈rows,r.length=sz)
 (hr:kP E' rows.flatten us) (zr:∀u∈us,u.oneCell'=true) (hw:E'.w.heap[b]? =some (.cells c e (0,0))) (hc:c.toList=us++zs.toList) (hz:zs.size=(cap-rows.length)*sz) (hle:rows.length<=cap):
 oP E' (.lR ub sz rows) (.slice (some ⟨b,0,none⟩) rows.length cap):=by
 have hus:us.length=rows.length*sz:=by rw[hr.length,CW OK]
 refine⟨some ⟨b,0,none⟩,cap,rfl,hle,by simp,OK,fun a ha _=>?_⟩;simp only[ah]at ha;subst ha;refine⟨rfl,c,e,hw,?_,?_⟩
 ·have:c.size=rows.length*sz+(cap-rows.length)*sz:=by grind [bj]
  rw[this,<-aB]
  grind
 grind
theorem agL(J:jS)(dst:Option Tmp)(x:AV)(rd:List Nat)(l:Nat)(o:j5)(p:Prop):
 J.app dst {val:=x,rd,up:=[(l,o)],pre:=p}=jS.put {J with heap:=J.heap.set l o} dst x:=by
 cases dst<;>simp [jS.app,ni,jS.put]
theorem aoK(J:jS)(dst:Option Tmp)(x:AV)(rd:List Nat)(o:j5)(p:Prop):
 J.app dst {val:=x,rd,nw:=[o],pre:=p}=jS.put {J with heap:=J.heap++[o]} dst x:=by
 cases dst<;>simp [jS.app,ni,jS.put]
def axe (S:nF C U J a w){u e:aRy} {sz bytes:Nat}{vy:aRu} (ht:l8 C.P t=some (e,sz,bytes)) (hu:lT C.P u=true)
 (hz:mD C.P e=some z) (hzl:z.length=sz/\0<sz/\0<bytes) (h:VD im J sz bytes x y=some ef) (hp:ef.pre)
 (rx:pm (C.env U J.heap w) x vx) (ry:pm (C.env U J.heap w) y vy):
 ∃v w' U',(am #[t,u] ty #[vx,vy]).run C.P w=.ok v w'/\nF C U' (J.app dst ef) (a.put dst v) w':=by
 obtain⟨hut,i,hi,rfl,rfl⟩:=Mn ht
 obtain⟨d,hd,hni⟩:∃d,C.P.underlying u=some d/\∀k,d≠ .int k:=by
  grind [lT]
 obtain⟨zv,hzi,hzs⟩:∃zv,i.zero=some zv/\zv.cells.size=i.size:=by
  grind [mD]
 unfold VD at h;split at h
 ·cases h
 rename_i rd ys auH;obtain⟨⟨us,rus,lus,aNq,aEh,aJa⟩,azg⟩:=auI (P:=C.P) S auH ry;simp only[qC.env]at aJa;have aGQ:(ap i.size ys.length vy).run C.P w=.ok us.toArray w:=aJa w.drawn;split at h
 ·
  rename_i l n;split at h
  ·rename_i ub Ud rows hl;split at h
   ·rename_i hc;obtain⟨rfl,hn⟩:=hc;cases h;simp only at hp;have hvx:=Qm S hl hn rx;subst hvx;obtain⟨base,cap,hh,h2,h3,h4,h5⟩:=S.om l _ hl
    have OK:∀r∈rows++ys,r.length=i.size:=by
     grind
    have sJ:l<J.heap.length:=(aj.1 hl).1
    have y9:∀{h':aRu}{w':aRv},(∃b m c,h'=.slice b m c)->(am #[t,u] ty #[U l,vy]).run C.P w=.ok h' w'->
     nF C (fun k=>if k=l then h' else U k) {J with heap:=J.heap.set l (.lR ub i.size (rows++ys))} a w'->
     ∃v w' U',(am #[t,u] ty #[U l,vy]).run C.P w=.ok v w'/\
      nF C U' (J.app dst {val:=.lR l (rows++ys).length,rd:=l::rd,up:=[(l,.lR ub i.size (rows++ys))],pre:=room (rows.length+ys.length) i.bytes}) (a.put dst v) w':=by
     intro h' w' hsl uB hS;refine⟨h',w',(fun k=>if k=l then h' else U k),uB,?_⟩
     have:=hS.put dst (x:=.lR l (rows++ys).length) (v:=h') ⟨by simpa [qC.env] using sJ,hsl,fun k hk=>by
      grind [qC.env,mR]⟩
     rw[agL];exact this
    by_cases aoJ:rows.length+ys.length<=cap
    ·have uB:=Sl (w:=w) (ty:=ty) (base:=base) (sLen:=rows.length) (sCap:=cap) hut hi hd hni azg aGQ aoJ;by_cases Cp:cap=0
     ·
      have hr0:rows=[]:=af (by omega);have hy0:ys=[]:=af (by omega);subst hr0 hy0;have hu0:us=[]:=by simpa using lus
      subst hu0;rw[<-hh]at uB
      have ar3:(am #[t,u] ty #[U l,vy]).run C.P w=.ok (U l) w:=by
       rw[uB,hh];cases base<;>simp [storeCells]
      refine y9 ⟨_,_,_,hh⟩ ar3 (S.aB3 hl (.inr rfl) (aA _) (fun _ _ _ _=>rfl) (fun _ _ _=>rfl) (fun _=>rfl) ⟨rfl,rfl⟩ (fun b hb=>.inl (by simpa using hb)) (fun b o hm=>.inl (by simpa using hm)) ?_);intro E' hle hw;rw[hh];exact⟨base,cap,by simp,by simp,h3,by simp,fun b hb hc=>absurd Cp hc⟩
     ·cases base with
      |none=>exact absurd (h3 rfl) Cp
      |some b=>
       obtain⟨hsp,c,tc,hcb,hsz,rl,aNr⟩:=h5 b rfl Cp;simp only[qC.env]at hcb;have hb:b=⟨b.block,b.off,none⟩:=by cases b;simp_all
       have e1:(rows.length+ys.length)*i.size<=cap*i.size:=av _ aoJ;have e2:(rows.length+ys.length)*i.size=rows.length*i.size+ys.length*i.size:=aB ..
       have hst:=run_storeCells_at C.P b.block (b.off+rows.length*i.size) tc us 0 c w hcb (by omega) aEh;simp only[bt]at hst
       let c':Array aRu:=(c.toList.take (b.off+rows.length*i.size)++us++c.toList.drop (b.off+rows.length*i.size+us.length)).toArray
       have ar3:(am #[t,u] ty #[U l,vy]).run C.P w=.ok (.slice (some b) (rows.length+ys.length) cap) (w.setRow b.block c'):=by
        grind [Ae,ae]
       have aJb:∀o,o<b.off+rows.length*i.size->c'[o]? =c[o]? :=by
        grind [az]
       refine y9 ⟨_,_,_,rfl⟩ ar3 (S.aB3 hl ?_ (by simp) ?_ ?_ ?_ ⟨rfl,rfl⟩ ?_ ?_ ?_)
       ·grind
       ·intro b' o sK hm;by_cases e:b'=b.block
        ·subst e;simp only[World.cell?];rw[setRow_heap w b.block c c' tc _ hcb,hcb];simp only[bT,aI,if_false];apply aJb;rw[hh]at hm;cases ub with
         |false=>exact absurd ⟨⟨rfl,Cp⟩,fun h=>by cases h⟩ hm
         |true=>
          by_cases ho:o<b.off+rows.length*i.size
          ·exact ho
          ·exact absurd ⟨⟨rfl,Cp⟩,fun _=>by omega⟩ hm
        grind [cell_setRow_other]
       ·intro b' sK hbl;rw[hh]at hbl;exact setRow_other w b.block b' c' (fun e=>hbl ⟨e,Cp⟩)
       ·intro x;by_cases e:x.block=b.block
        ·simp only[World.frozen?];rw[e,setRow_heap w b.block c c' tc _ hcb,hcb]
        grind [World.frozen?,setRow_other]
       ·intro b' sK;left;rw[hh];exact sK
       ·intro b' o hm;left;rw[hh];refine⟨hm.1,fun hi'=>?_⟩;have:=hm.2 hi';omega
       ·intro E' hle hw;refine⟨some b,cap,by simp,by simpa using aoJ,by simp,OK,fun b0 hb0 _=>?_⟩;simp only[ah]at hb0;subst hb0;refine⟨hsp,c',tc,by rw[hw];exact setRow_heap w b.block c c' tc _ hcb,?_,?_⟩
        ·have:c'.size=c.size:=by simp [c'];omega
         omega
        ·have rl':=kP.mono hle _ _ (kP.nb _ _ rl) rl;have ru':=kP.mono hle _ _ (kP.nb _ _ rus) rus;have:=rl'.append ru';rw[bl]
         have e3:(c'.toList.drop b.off).take ((rows++ys).length*i.size)=(c.toList.drop b.off).take (rows.length*i.size)++us:=by
          have hcl:b.off+rows.length*i.size<=c.toList.length:=by simp;omega
          have e4:c'.toList=c.toList.take b.off++((c.toList.drop b.off).take (rows.length*i.size)++(us++c.toList.drop (b.off+rows.length*i.size+us.length))):=by
           simp only[c',aS];rw[<-aS (c.toList.take b.off),<-bQ]
          rw[e4,bi (by simp;omega),aY];simp only[Nat.sub_self,List.take_zero,List.nil_append];rw[<-aS];apply bb;simp only[List.length_append,bw,List.length_drop,lus,aB];omega
         rw[e3];exact⟨this,fun v hv=>(bf.1 hv).elim (aNr v) (aEh v)⟩
    ·
     have hold:=(av9 (P:=C.P) S hl);obtain⟨os,ros,los,_,aGR,aE8⟩:=hold;rw[hh]at aE8;simp only[qC.env]at aE8;obtain⟨aPi,hle,uB⟩:=aa1 (w:=w) (ty:=ty) hut hi hd hni azg aJa aE8 hzi (by omega) hp hzl.2.2;rw[<-hh]at uB;refine y9 ⟨_,_,_,rfl⟩ uB (S.aB3 hl (.inl (by omega)) (by simp) ?_ ?_ ?_ ⟨rfl,rfl⟩ ?_ ?_ ?_)
     ·intro b o hb _;exact Fm {w with drawn:=w.drawn+1} _ hb
     ·intro b hb _;exact yZ {w with drawn:=w.drawn+1} _ hb
     ·intro x;rw[xa {w with drawn:=w.drawn+1} _ (by intro c' t' lo hi h;cases h;exact⟨rfl,rfl⟩)];rfl
     ·intro b hb;right;have:b=w.heap.size:=hb.1;omega
     ·intro b o hm;right;have:b=w.heap.size:=hm.1.1;omega
     ·intro E' aGS hw;have ro':=kP.mono aGS _ _ (kP.nb _ _ ros) ros;have ru':=kP.mono aGS _ _ (kP.nb _ _ rus) rus;have hll:(rows++ys).length=rows.length+ys.length:=by simp
      rw[<-hll];refine ar2 (us:=os++us) OK (by rw[bl];exact ro'.append ru') (fun v hv=>(bf.1 hv).elim (aGR v) (aEh v)) (by rw[hw];exact Jz {w with drawn:=w.drawn+1} _) (by simp;rfl) ?_ (by omega);rw[agK,hzs,hll]
   ·cases h
  ·cases h
 ·
  rename_i Ud rows;split at h
  ·rename_i hc;split at h
   case isFalse sv=>
    cases h;have hy0:ys=[]:=af (by omega);subst hy0;have hu0:us=[]:=by simpa using lus
    subst hu0;obtain⟨base,cap,rfl,h2,h3,h4,h5,h6⟩:=id rx;have Cp:=h3 rfl;subst Cp;have uB:=Sl (w:=w) (ty:=ty) (base:=base) (sLen:=rows.length) (sCap:=rows.length) hut hi hd hni azg aGQ (by simp)
    have ar3:(am #[t,u] ty #[.slice base rows.length rows.length,vy]).run C.P w=.ok (.slice base rows.length rows.length) w:=by
     rw[uB];cases base<;>simp [storeCells]
    refine⟨_,w,U,ar3,?_⟩;have:=S.put dst rx;simpa [jS.app,ni,jS.put] using (by cases dst<;>simpa [jS.put] using this)
   rename_i sv;cases h;have Bm:=hp;obtain⟨os,ros,los,aNs,aGR,aE8⟩:=av8 (P:=C.P) hc rx;obtain⟨base,cap,rfl,h2,h3,h4,h5,h6⟩:=rx;have Cp:=h3 rfl;subst Cp;simp only[qC.env]at aE8
   have OK:∀r∈rows++ys,r.length=i.size:=by
    intro r hr;rcases bf.1 hr with hr|hr
    ·exact aNs r hr
    ·exact aNq r hr
   have y9:∀{h':aRu}{w':aRv},(∃b m c,h'=.slice b m c)->(am #[t,u] ty #[.slice base rows.length rows.length,vy]).run C.P w=.ok h' w'->
    nF C (fun k=>if k=J.heap.length then h' else U k) {J with heap:=J.heap++[.lR im i.size (rows++ys)]} a w'->
    ∃v w' U',(am #[t,u] ty #[.slice base rows.length rows.length,vy]).run C.P w=.ok v w'/\
     nF C U' (J.app dst {val:=.lR J.heap.length (rows++ys).length,rd:=rd,nw:=[.lR im i.size (rows++ys)],pre:=room (rows.length+ys.length) i.bytes}) (a.put dst v) w':=by
    intro h' w' hsl uB hS;refine⟨h',w',(fun k=>if k=J.heap.length then h' else U k),uB,?_⟩
    have:=hS.put dst (x:=.lR J.heap.length (rows++ys).length) (v:=h') ⟨by simp [qC.env],hsl,fun k hk=>by
     simp only[qC.env,List.getElem?_append_right (aA _),Nat.sub_self,aF,mR,ah]at hk;exact⟨by omega,fun _=>by simp [qC.env]⟩⟩
    rw[aoK];exact this
   by_cases aoJ:rows.length+ys.length<=rows.length
   ·have hy0:ys=[]:=af (by omega);subst hy0
    have hr0:rows=[]:=by
     rcases sv with h|h
     ·exact af h
     ·simp at h
    subst hr0;have hu0:us=[]:=by simpa using lus
    subst hu0;have uB:=Sl (w:=w) (ty:=ty) (base:=base) (sLen:=0) (sCap:=0) hut hi hd hni azg aGQ (by simp)
    have ar3:(am #[t,u] ty #[.slice base 0 0,vy]).run C.P w=.ok (.slice base 0 0) w:=by
     rw[uB];cases base<;>simp [storeCells]
    refine y9 ⟨_,_,_,rfl⟩ ar3 (S.adf (aA _) (fun _ _=>rfl) (fun _=>rfl) ⟨rfl,rfl⟩ ?_ ?_)
    ·intro b hb;cases base<;>simp [j5.block]at hb
    ·intro E' _ _;exact⟨base,0,rfl,by simp,fun _=>rfl,by simp,fun b _ h0=>absurd rfl h0⟩
   ·obtain⟨aPi,hle,uB⟩:=aa1 (w:=w) (ty:=ty) hut hi hd hni azg aJa aE8 hzi (by omega) Bm hzl.2.2;refine y9 ⟨_,_,_,rfl⟩ uB (S.adf (by simp) ?_ ?_ ⟨rfl,rfl⟩ ?_ ?_)
    ·intro b hb;exact yZ {w with drawn:=w.drawn+1} _ hb
    ·intro x;rw[xa {w with drawn:=w.drawn+1} _ (by intro c' t' lo hi h;cases h;exact⟨rfl,rfl⟩)];rfl
    ·intro b hb;have:b=w.heap.size:=hb.1;omega
    ·intro E' aGS hw;have ro':=kP.mono aGS _ _ (kP.nb _ _ ros) ros;have ru':=kP.mono aGS _ _ (kP.nb _ _ rus) rus;have hll:(rows++ys).length=rows.length+ys.length:=by simp
     rw[<-hll];refine ar2 (us:=os++us) OK (by rw[bl];exact ro'.append ru') (fun v hv=>(bf.1 hv).elim (aGR v) (aEh v)) (by rw[hw];exact Jz {w with drawn:=w.drawn+1} _) (by simp;rfl) ?_ (by omega);rw[agK,hzs,hll]
  ·cases h
 ·cases h
end sound
section sound
variable {a:Act}
theorem Mo(J:jS)(dst:Option Tmp)(x:AV)(rd:List Nat)(p:Prop):J.app dst {val:=x,rd,pre:=p}=J.put dst x:=by
 cases dst<;>simp [jS.app,ni,jS.put]
theorem lJ(S:nF C U J a w){m:Sem aRu}(h:∃v,m.run C.P w=.ok v w/\pm (C.env U J.heap w) x v):
 Ad C J a w dst ((do pure (.value (<-m)):Sem Next).run C.P w) {val:=x,rd,pre:=p}:=by
 obtain⟨v,hr,rep⟩:=h;refine⟨.value v,v,w,U,by simp [hr],.inl rfl,?_⟩;rw[Mo];exact S.put dst rep
def aEi {u:aRy}{i o:Nat}(h:oO P t i=some (o,u)):∃fs f j,P.underlying t=some (.struct fs)/\fs[i]? =some f/\P.info? f.type=some j/\j.size≠0/\f.offset=o/\f.type=u:=by
 grind [oO]
def nF.aGT(S:nF C U J a w){sz:Nat}{xJ:List (List AV)}{c':Array aRu}(hl:J.heap[l]? =some (.lR false sz rows))(hφ:U l=.slice (some ⟨b,off,none⟩) rows.length cap)(Cp:cap≠0)
 (hle:rows.length<=cap) (hlen:xJ.length=rows.length) (hh:w.heap[b]? =some (.cells c t (0,0))) (hsz:∀r∈xJ,r.length=sz) (aoJ:off+cap*sz<=c'.size)
 (hr:kP (C.env U J.heap w) xJ.flatten ((c'.toList.drop off).take (xJ.length*sz))) (h1:∀u∈(c'.toList.drop off).take (xJ.length*sz),u.oneCell'=true):
 nF C U {J with heap:=J.heap.set l (.lR false sz xJ)} a (w.setRow b c'):=by
 have sJ:l<J.heap.length:=(aj.1 hl).1
 have n9:∀(k:Nat)(x:j5),(J.heap.set l (.lR false sz xJ))[k]? =some x->(k=l/\x=.lR false sz xJ)\/(k≠l/\J.heap[k]? =some x):=by
  grind
 have apX:∀b' o,(j5.lR false sz xJ).Bk (U l) b' o->(j5.lR false sz rows).Bk (U l) b' o:=by
  intro b' o hm;rw[hφ]at hm ⊢;exact⟨hm.1,fun h=>by cases h⟩
 have I4:∀b',(j5.lR false sz xJ).block (U l) b'->(j5.lR false sz rows).block (U l) b':=by
  intro b' hm;rw[hφ]at hm ⊢;exact hm
 have hmb:∀o,(j5.lR false sz rows).Bk (U l) b o:=by
  intro o;rw[hφ];exact⟨⟨rfl,Cp⟩,fun h=>by cases h⟩
 have hbb:(j5.lR false sz rows).block (U l) b:=by rw[hφ];exact⟨rfl,Cp⟩
 have OC:∀b' o,GJ U (J.heap.set l (.lR false sz xJ)) b' o->GJ U J.heap b' o:=by
  rintro b' o ⟨k,x,hx,hm⟩;rcases n9 k x hx with⟨e,rfl⟩|⟨_,hx⟩
  ·rw[e]at hm;exact⟨l,_,hl,apX b' o hm⟩
  ·exact⟨k,x,hx,hm⟩
 have azh:∀k:Nat,mR (J.heap.set l (.lR false sz xJ))[k]? =mR J.heap[k]? :=by
  grind [mR]
 have le:(C.env U J.heap w).Le J.heap.length (C.env U (J.heap.set l (.lR false sz xJ)) (w.setRow b c')):=by
  refine qC.CU (by simp) (fun k _=>⟨rfl,azh k⟩) (fun b' o u hm hc=>?_);have sv:b'≠b:=fun e=>hm (.inl (e ▸ ⟨l,_,hl,hmb o⟩))
  grind [cell_setRow_other]
 have B1:tv C U (J.heap.set l (.lR false sz xJ)) (w.setRow b c') J.df a.defers:=by
  refine S.defers.step le (fun b' _ hno=>?_) (fun k x b' hx hb=>?_)
  all_goals grind [setRow_other]
 refine {j9:=kP.mono le _ _ (kP.nb _ _ S.j9) S.j9,defers:=B1,om:=?_,apart:=?_,uh:=?_,size:=by simpa using S.size,old:=?_,n8:=?_,Cn:=?_,wZ:=?_,rest:=S.rest,low:=⟨S.low.1,by simpa using S.low.2⟩,mA:=?_}
 ·intro k x hx;rcases n9 k x hx with⟨e,rfl⟩|⟨sv,hx⟩
  ·rw[e];refine⟨some ⟨b,off,none⟩,cap,by rw[hlen];exact hφ,by rw[hlen];exact hle,by simp,hsz,?_⟩;intro a0 ha _;simp only[ah]at ha;subst ha;exact⟨rfl,c',t,setRow_heap w b c c' t _ hh,aoJ,kP.mono le _ _ (kP.nb _ _ hr) hr,h1⟩
  ·refine oP.mono (S.om k x hx) le (fun b' sK=>?_);refine setRow_other w b b' c' (fun e=>?_);subst e;exact sv (S.apart k l x _ b' hx hl sK hbb)
 ·intro k k' x x' b' hx BA hb sK;rcases n9 k x hx with⟨e1,rfl⟩|⟨sv,Zp⟩<;>rcases n9 k' x' BA with⟨e2,rfl⟩|⟨auG,aQK⟩
  ·rw[e1,e2]
  ·rw[e1]at hb ⊢;exact S.apart l k' _ x' b' hl aQK (I4 b' hb) sK
  ·rw[e2]at sK ⊢;exact S.apart k l x _ b' Zp hl hb (I4 b' sK)
  ·exact S.apart k k' x x' b' Zp aQK hb sK
 ·intro k x b' o hx hb;rcases n9 k x hx with⟨e,rfl⟩|⟨sv,hx⟩
  ·rw[e]at hb;exact S.uh l _ b' o hl (I4 b' hb)
  ·exact S.uh k x b' o hx hb
 ·intro b' o sK hm;by_cases e:b'=b
  ·subst e;exact absurd (S.Cn l _ b' o hl (hmb o) sK) hm
  ·rw[cell_setRow_other w b c' _ e];exact S.old b' o sK hm
 ·intro b' sK hm;by_cases e:b'=b
  ·subst e;exact absurd (S.Cn l _ b' 0 hl (hmb 0) sK) (hm 0)
  ·rw[setRow_other w b b' c' e];exact S.n8 b' sK hm
 ·intro k x b' o hx hm sK;rcases n9 k x hx with⟨e,rfl⟩|⟨sv,hx⟩
  ·rw[e]at hm;exact S.Cn l _ b' o hl (apX b' o hm) sK
  ·exact S.Cn k x b' o hx hm sK
 ·intro x hx hm0;rw[<-S.wZ x hx hm0];by_cases e:x.block=b
  ·simp only[World.frozen?];rw[e,setRow_heap w b c c' t _ hh,hh]
  grind [World.frozen?,setRow_other]
 ·intro k hk;have:=S.mA k hk
  grind
def aGU(S:nF C U J a w){i o sz:Nat}{r:List AV}(hl:J.heap[l]? =some (.lR false sz rows))(hn:rows.length=n)(hi:rows[i]? =some r)
 (rv:pm (C.env U J.heap w) (.own l i n o sz) v):∃b off cap c t,U l=.slice (some ⟨b,off,none⟩) rows.length cap/\cap≠0/\rows.length<=cap/\v=.pointer (some ⟨b,off+i*sz+o,none⟩)/\w.heap[b]? =some (.cells c t (0,0))/\
   off+cap*sz<=c.size/\(∀q∈rows,q.length=sz)/\kP (C.env U J.heap w) rows.flatten ((c.toList.drop off).take (rows.length*sz))/\∀u∈(c.toList.drop off).take (rows.length*sz),u.oneCell'=true:=by
 obtain⟨_,_,h⟩:=rv;obtain⟨b,off,m,cp,hφ,hv⟩:=(h rows.length (by simp [qC.env,hl,mR])).2 hn.symm;obtain⟨base,cap,hh,h2,h3,h4,h5⟩:=S.om l _ hl;simp only[qC.env]at hφ;rw[hh]at hφ;simp only[Value.slice.injEq]at hφ;obtain⟨hb,_,_⟩:=hφ;subst hb;have sJ:i<rows.length:=(aj.1 hi).1;have Cp:cap≠0:=by omega
 obtain⟨_,c,t,h6,h7,h8,h9⟩:=h5 _ rfl Cp;exact⟨b,off,cap,c,t,hh,Cp,h2,hv,h6,h7,h4,h8,h9⟩
theorem agM{sz:Nat}:∀{rows:List (List AV)}{i:Nat}{r:List AV},(∀q∈rows,q.length=sz)->rows[i]? =some r->rows.flatten.drop (i*sz)=r++(rows.drop (i+1)).flatten
 |q::rows,0,r,_,h=>by simp at h;subst h;simp
 |q::rows,i+1,r,hl,h=>by
  simp at h;have hq:q.length=sz:=hl q (by simp);have:=agM (fun p hp=>hl p (by simp [hp])) h
  grind [aB,List.drop_append,Nat.add_sub_cancel_left,bC]
theorem aGV(S:nF C U J a w){k i o sz:Nat}{r:List AV}(ht:mN C.P t=some (g,k))(hl:J.heap[l]? =some (.lR false sz rows))(hn:rows.length=n)
 (hi:rows[i]? =some r) (hx:kr g k (r.drop o)=some x) (rv:pm (C.env U J.heap w) (.own l i n o sz) v):∃u,(aO t v).run C.P w=.ok u w/\pm (C.env U J.heap w) x u:=by
 obtain⟨b,off,cap,c,t2,hφ,Cp,hle,rfl,hh,aoJ,hsz,rl,_⟩:=aGU S hl hn hi rv;have hrl:=rl.drop (i*sz);rw[agM hsz hi]at hrl;have hr:=hrl.take r.length;rw[bb rfl]at hr;have hr2:=hr.drop o;have hi':=K9 (C:=C) (w:=w) ht
 have hm:azd (C.env U J.heap w) b (off+i*sz+o) (r.drop o):=by
  refine⟨_,hr2,fun j u hj=>?_⟩
  grind [qC.env,World.cell?]
 obtain⟨u,hu,ru⟩:=adb (P:=C.P) (t:=t) hm hi'.1 hi'.2 hx
 grind [aO,ay,qC.env]
theorem aeS{sz:Nat}:∀{rows:List (List AV)}{i:Nat}{r q:List AV},(∀p∈rows,p.length=sz)->rows[i]? =some r->q.length=sz->
 (rows.set i q).flatten=rows.flatten.take (i*sz)++q++rows.flatten.drop (i*sz+sz)
 |p::rows,0,r,q,hl,h,hq=>by
  grind
 |p::rows,i+1,r,q,hl,h,hq=>by
  simp at h;have hp:p.length=sz:=hl p (by simp);have ih:=aeS (q:=q) (fun p hp=>hl p (by simp [hp])) h hq;simp only[List.set_cons_succ,aD,ih]
  grind [aB,List.take_append,List.drop_append,bC]
def aLM{L V:List W}{p k:Nat}(hV:V.length=k)(h:p+k<=n)(hL:off+n<=L.length):
 ((L.take (off+p)++V++L.drop (off+p+k)).drop off).take n=((L.drop off).take n).take p++V++((L.drop off).take n).drop (p+k):=by
 have e1:L.take (off+p)=L.take off++(L.drop off).take p:=by rw[bQ]
 have e2:L.drop (off+p+k)=(L.drop off).drop (p+k):=by rw[aT,bO]
 have hA:(L.take off).length=off:=by rw[bw];omega
 have hB:((L.drop off).take p).length=p:=by grind
 rw[e1,e2,aS,aS,bc hA]
 grind [aY,List.take_append,List.take_of_length_le]
def aE9(S:nF C U J a w){i o k sz:Nat}{r ys:List AV}{p:aRu}(ht:mN C.P t=some (g,k))(hl:J.heap[l]? =some (.lR false sz rows))(hn:rows.length=n)
 (hi:rows[i]? =some r) (hr:kP (C.env U J.heap w) ys v.cells.toList) (h1:∀u∈v.cells.toList,u.oneCell'=true) (hk:ys.length=k) (aPg:o+k<=sz) (hp:pm (C.env U J.heap w) (.own l i n o sz) p):
 ∃w',(bo t p v).run C.P w=.ok () w'/\nF C U {J with heap:=J.heap.set l (.lR false sz (rows.set i (vq r o ys)))} a w':=by
 obtain⟨b,off,cap,c,t2,hφ,Cp,hle,rfl,hh,aoJ,hsz,rl,zr⟩:=aGU S hl hn hi hp;have sJ:i<rows.length:=(aj.1 hi).1;have hrl:r.length=sz:=hsz r (bM hi);have hvl:v.cells.size=k:=by have:=hr.length;simp at this;omega
 have hmul:i*sz+sz<=rows.length*sz:=by
  have:(i+1)*sz<=rows.length*sz:=av _ sJ
  grind
 have aQu:rows.length*sz<=cap*sz:=av _ hle;have hst:=run_storeCells_at C.P b (off+i*sz+o) t2 v.cells.toList 0 c w hh (by simp;omega) h1
 have aLL:(vq r o ys).length=sz:=by
  grind [vq]
 have hfl:rows.flatten.length=rows.length*sz:=CW hsz
 have aNt:(rows.set i (vq r o ys)).flatten=rows.flatten.take (i*sz+o)++ys++rows.flatten.drop (i*sz+o+k):=by
  rw[aeS hsz hi aLL];have hd:=agM hsz hi
  have e1:rows.flatten.take (i*sz+o)=rows.flatten.take (i*sz)++r.take o:=by
   rw[bQ,hd,List.take_append_of_le_length (by omega)]
  have e2:rows.flatten.drop (i*sz+o+k)=r.drop (o+k)++rows.flatten.drop (i*sz+sz):=by
   have e3:rows.flatten.drop (i*sz+sz)=(rows.drop (i+1)).flatten:=by
    rw[<-aT,hd,<-hrl,bc];rfl
   rw[e3,bO,<-aT,hd,bi (by omega)]
  grind [vq]
 let c':Array aRu:=(c.toList.take (off+i*sz+o)++v.cells.toList++c.toList.drop (off+i*sz+o+v.cells.toList.length)).toArray
 have hc':c'.toList=c.toList.take (off+i*sz+o)++v.cells.toList++c.toList.drop (off+i*sz+o+k):=by
  grind
 have hcs:c'.size=c.size:=by
  grind
 have aPj:(c'.toList.drop off).take (rows.length*sz)=((c.toList.drop off).take (rows.length*sz)).take (i*sz+o)++v.cells.toList++((c.toList.drop off).take (rows.length*sz)).drop (i*sz+o+k):=by
  rw[hc'];have hcl:c.toList.length=c.size:=by simp
  have:=aLM (L:=c.toList) (V:=v.cells.toList) (off:=off) (p:=i*sz+o) (k:=k) (n:=rows.length*sz) (by simpa using hvl) (by omega) (by omega)
  grind
 refine⟨_,?_,S.aGT hl hφ Cp hle (by rw[List.length_set]) hh (c':=c') (hsz:=?_) (by rw[hcs];exact aoJ) ?_ ?_⟩
 ·have hs:=(K9 (C:=C) (w:=w) ht).2
  grind [bo,ay,storeVar,ai,ae]
 ·grind
 ·rw[aNt,List.length_set,aPj];exact((rl.take _).append hr).append (rl.drop _)
 grind
theorem aqx(_S:nF C U J a w){u:aRy}{i o:Nat}(h:oO C.P t i=some (o,u))(rx:pm (C.env U J.heap w) x v):
 (∀l off,x=.ptr l off->∃v',(aP t v i).run C.P w=.ok v' w/\pm (C.env U J.heap w) (.ptr l (off+o)) v')/\
 (∀cs,x=.pp cs->∃v',(aP t v i).run C.P w=.ok v' w/\pm (C.env U J.heap w) (.pp (cs.drop o)) v')/\
 (∀l j n o' sz,x=.own l j n o' sz->∃v',(aP t v i).run C.P w=.ok v' w/\pm (C.env U J.heap w) (.own l j n (o'+o) sz) v'):=by
 obtain⟨fs,f,j,hu,hf,hj,hs,rfl,rfl⟩:=aEi h;have hsz:(sizeOf f.type).run C.P w=.ok j.size w:=by simp [sizeOf,typeInfo,hj]
 have key:∀b off,(aP t (.pointer (some ⟨b,off,none⟩)) i).run C.P w=.ok (.pointer (some ⟨b,off+f.offset,none⟩)) w:=by
  simp_all [aP,run_underlying,ay,fieldPlace,Ae]
 refine⟨?_,?_,?_⟩
 ·rintro l off rfl;obtain⟨hl,b,hb,rfl⟩:=rx;exact⟨_,key b off,hl,b,hb,rfl⟩
 ·rintro cs rfl;obtain⟨b,off,rfl,rm⟩:=rx;exact⟨_,key b off,b,_,rfl,rm.drop _⟩
 ·rintro l j n o' sz rfl;obtain⟨hl,⟨ad,rfl⟩,hr⟩:=rx
  have aPk:(aP t (.pointer (some ad)) i).run C.P w=.ok (.pointer (some (ad.add f.offset))) w:=by
   simp_all [aP,run_underlying,ay,fieldPlace]
  refine⟨_,aPk,hl,⟨_,rfl⟩,fun k hk=>?_⟩
  grind
def aB4 {o:Nat}{vs:Array aRu}(ha:(isAgg t).run P w= .ok g w)(hs:(sizeOf t).run P w= .ok n w)
 (r:kP E cs vs.toList) (hl:kr g n (cs.drop o)=some x):∃v,(part t vs o).run P w=.ok v w/\pm E x v:=by
 unfold kr at hl;cases g with
 |true=>
  simp only at hl;split at hl
  ·cases hl;refine⟨.agg (vs.extract o (o+n)),by simp [part,ha,hs],_,rfl,?_⟩;have:=(r.drop o).take n
   simp_all
  ·cases hl
 |false=>
  cases hd:cs.drop o with
  |nil=>rw[hd]at hl;cases hl
  |cons c cs'=>
   rw[hd]at hl;injection hl with hl
   subst hl
   have h0:cs[o]? =some c:=by
    have:=congrArg (fun l:List AV=>l[0]?) hd;simpa using this
   obtain⟨v,hv,rv⟩:=r.get h0
   simp_all [part]
def akn {e:aRy}{sz bytes:Nat}{r:List AV}{n:Int}(ht:l8 C.P t=some (e,sz,bytes))(hn:0<=n)
 (hr:rows[n.toNat]? =some r) (rx:pm (C.env U J.heap w) (.kF tt sz rows) v):∃v',(aL t v (.int k n)).run C.P w=.ok v' w/\pm (C.env U J.heap w) (.pp r) v':=by
 obtain⟨hu,i,hi,rfl,rfl⟩:=Mn ht;obtain⟨base,cap,rfl,h2,h3,h4,h5,h6⟩:=rx;have sJ:n.toNat<rows.length:=(aj.1 hr).1;have sv:rows≠[]:=by intro h;subst h;simp at sJ
 have hsz:(sizeOf e).run C.P w=.ok i.size w:=by simp [sizeOf,typeInfo,hi]
 cases base with
 |none=>have:=h4 rfl;omega
 |some b=>
  have hb:b=⟨b.block,b.off,none⟩:=by have:=h5 b rfl sv;cases b;simp_all
  obtain⟨_,hm⟩:=ol.get (h6 b rfl) hr;refine⟨.pointer (some ⟨b.block,b.off+n.toNat*i.size,none⟩),?_,b.block,_,rfl,hm⟩;have aLN:0<=n/\n<(rows.length:Int):=⟨hn,by omega⟩;simp only[aL,asIntOf,ai,aq,ae,run_underlying hu,aLN,and_self,jM,hsz];rw[hb,Ae]
def auJ(S:nF C U J a w){e:aRy}{sz bytes m:Nat}{r:List AV}{n:Int}(ht:l8 C.P t=some (e,sz,bytes))(hn:0<=n)
 (hl:J.heap[l]? =some (.lR true sz rows)) (hm:rows.length=m) (hr:rows[n.toNat]? =some r) (rx:pm (C.env U J.heap w) (.lR l m) v):
 ∃v',(aL t v (.int k n)).run C.P w=.ok v' w/\pm (C.env U J.heap w) (.pp r) v':=by
 have hv:=Qm S hl hm rx;subst hv;exact akn (tt:=false) ht hn hr (agJ S hl)
theorem apY(b:Addr)(h:b.spot=none)(k:Nat):b.add k=⟨b.block,b.off+k,none⟩:=by
 have hb:b=⟨b.block,b.off,none⟩:=by cases b;simp_all
 rw[hb,Ae]
def CX{n:Int}{y:Nat}{c:BoundsCode}(h:0<=n/\n<=y):(aC (.int k n) y c).run P w=.ok n.toNat w:=by
 simp [aC,asIntOf,h]
def La(S:nF C U J a w){d:Nat}{x:Option aRt}{n:Int}(h:Cm J d x=some n):(x=none/\n=d)\/∃y k,x=some y/\a.eval y=.int k n:=by
 unfold Cm at h;cases x with
 |none=>grind
 |some y=>
  right;simp only at h;have r:=S.ev y;split at h
  ·rename_i k m hm;cases h;rw[hm]at r;exact⟨y,k,rfl,r⟩
  ·cases h
def aeT(S:nF C U J a w){s:Bool}{len:Nat}{lo hi mx:Option aRt}{l h:Int}(hl:Cm J 0 lo=some l)(hh:Cm J len hi=some h)(hm:Cm J len mx=some m)
 (hb:0<=l/\l<=h/\h<=m/\m<=len) (hc:len<=cap) (hmx:mx≠none->hi≠none):
 (aE s len cap (lo.map a.eval) (hi.map a.eval) (mx.map a.eval)).run C.P w=.ok (l.toNat,h.toNat,if mx=none then cap else m.toNat) w:=by
 have e0:(0:Int)<=h:=by omega
 rcases La S hm with⟨rfl,rfl⟩|⟨ym,km,rfl,em⟩
 ·rcases La S hh with⟨rfl,rfl⟩|⟨yh,kh,rfl,eh⟩
  ·rcases La S hl with⟨rfl,rfl⟩|⟨yl,kl,rfl,el⟩
   ·simp [aE]
   ·have e3:∀c,(aC (.int kl l) len c).run C.P w=.ok l.toNat w:=fun c=>CX (by omega)
    simp [aE,el,e3]
  ·have e1:∀c,(aC (.int kh h) cap c).run C.P w=.ok h.toNat w:=fun c=>CX (by omega)
   rcases La S hl with⟨rfl,rfl⟩|⟨yl,kl,rfl,el⟩
   ·simp [aE,eh,e1]
   ·have e3:∀c,(aC (.int kl l) h.toNat c).run C.P w=.ok l.toNat w:=fun c=>CX (by omega)
    simp_all [aE]
 ·rcases La S hh with⟨rfl,rfl⟩|⟨yh,kh,rfl,eh⟩
  ·grind
  ·have e1:∀c,(aC (.int kh h) m.toNat c).run C.P w=.ok h.toNat w:=fun c=>CX (by omega)
   have e2:∀c,(aC (.int km m) cap c).run C.P w=.ok m.toNat w:=fun c=>CX (by omega)
   rcases La S hl with⟨rfl,rfl⟩|⟨yl,kl,rfl,el⟩
   ·simp_all [aE]
   ·have e3:∀c,(aC (.int kl l) h.toNat c).run C.P w=.ok l.toNat w:=fun c=>CX (by omega)
    simp_all [aE]
theorem awa(S:nF C U J a w){e:aRy}{sz Ud bytes:Nat}{lo hi mx:Option aRt}{l h:Int}(ht:l8 C.P t=some (e,sz,bytes))
 (hl:Cm J 0 lo=some l) (hh:Cm J rows.length hi=some h) (hm:Cm J rows.length mx=some m) (hsz:Ud=sz\/rows.length=0) (hb:0<=l/\l<=h/\h<=m/\m<=rows.length)
 (hmx:(mx.isSome&&hi.isNone)=false) (rx:pm (C.env U J.heap w) (.kF tt Ud rows) v):
 ∃v',(aV t v (lo.map a.eval) (hi.map a.eval) (mx.map a.eval)).run C.P w=.ok v' w/\
  pm (C.env U J.heap w) (.kF (ajv mx tt h rows.length m) sz ((rows.take h.toNat).drop l.toNat)) v':=by
 obtain⟨hu,i,hi',rfl,rfl⟩:=Mn ht;obtain⟨base,cap,rfl,h2,h3,h4,h5,h6⟩:=rx;have aa2:(sizeOf e).run C.P w=.ok i.size w:=by simp [sizeOf,typeInfo,hi']
 have hbs:=aeT S (s:=true) (cap:=cap) hl hh hm hb h2 (by
  intro h1 h2
  simp_all)
 have hlen:((rows.take h.toNat).drop l.toNat).length=h.toNat-l.toNat:=by
  grind
 obtain⟨m',hm',hm1,hm2⟩:∃m',(if mx=none then cap else m.toNat)=m'/\(mx=none->m'=cap)/\(mx≠none->m'=m.toNat):=by
  grind
 have hm3:h.toNat<=m':=by
  grind
 rw[hm']at hbs;clear hm'
 have uB:(aV t (.slice base rows.length cap) (lo.map a.eval) (hi.map a.eval) (mx.map a.eval)).run C.P w=
  .ok (.slice (if m'=l.toNat then base else base.map (·.add (l.toNat*i.size))) (h.toNat-l.toNat) (m'-l.toNat)) w:=by
  simp_all [aV,run_underlying,Instr.slice]
 refine⟨_,uB,_,_,by rw[hlen],?_,?_,?_,?_,?_⟩
 ·rw[hlen];omega
 ·intro htt;rw[hlen];cases mx with
  |none=>
   grind [ajv]
  |some y=>
   grind [ajv]
 ·intro awb;cases base with
  |none=>
   grind
  |some b=>
   grind
 ·intro b sK sv;cases base with
  |none=>split at sK<;>simp at sK
  |some b0=>
   have OK:rows≠[]:=by intro h0;subst h0;simp at sv
   grind [apY]
 ·intro b sK;by_cases OK:rows=[]
  ·subst OK;simp [ol]
  ·have aPl:Ud=i.size:=by
    grind
   subst aPl;cases base with
   |none=>split at sK<;>simp at sK
   |some b0=>
    have hsp:=h5 b0 rfl OK;have rr:=h6 b0 rfl;split at sK
    ·rename_i heq;have hlh:h.toNat<=l.toNat:=by omega
     have:(rows.take h.toNat).drop l.toNat=[]:=List.drop_eq_nil_of_le (by rw[bw];omega);rw[this];trivial
    grind [apY,ol.drop,ol.take]
theorem aFa(S:nF C U J a w){lo hi:Option aRt}{l h:Int}(ht:pg C.P t=true)(hl:Cm J 0 lo=some l)(hh:Cm J s.size hi=some h)(hb:0<=l/\l<=h/\h<=s.size):
 (aV t (.string s) (lo.map a.eval) (hi.map a.eval) none).run C.P w=.ok (.string (s.extract l.toNat h.toNat)) w:=by
 have hu:C.P.underlying t=some .string:=by
  grind [pg]
 have hbs:=aeT S (s:=false) (mx:=none) (cap:=s.size) (m:=s.size) hl hh rfl (by omega) (aA _) (by intro h;exact absurd rfl h);simp only[Option.map_none]at hbs;simp only[aV,ai,run_underlying hu,ae,Instr.slice,bT,aI,if_false,hbs,aq]
end sound
section
variable {a:Act}
def axf(_S:nF C U J a w)(hl:J.heap[l]? =some (.Jw s))(hn:s.size=n)(r:pm (C.env U J.heap w) (.lR l n) v):v=U l:=by
 obtain⟨_,_,h⟩:=r
 grind [qC.env,mR]
def aoL {base e:Nat}(h:w.ownsRowF base e 1 v n xs):∃b cap,v=.slice b n cap:=by
 rcases h.2 with⟨rfl,rfl⟩|⟨g,cap,cur,fz,rfl,_⟩
 ·exact⟨_,_,rfl⟩
 ·exact⟨_,_,rfl⟩
def aB5(w:aRv)(t u ty e:aRy)(i:TypeInfo)(ht:P.underlying t=some (.slice e))(hu:P.underlying u=some .string)(hi:P.info? e=some i)(hz:i.zero=some (.int .u8 0))
 (aa2:i.size=1) (hby:i.bytes=1) (v:aRu) (n:Nat) (xs:List aRu) (agN:w.ownsRowF 0 e 1 v n xs) (s:ByteArray) (h63:n+s.size<=maxLen) (aGW:n+s.size<=140737488355328):
 ∃v' w',(am #[t,u] ty #[v,.string s]).run P w=.ok v' w'/\w'.ownsRowF 0 e 1 v' (n+s.size) (xs++aM s)/\w.grownBy w' v.ownBlock/\(s.size=0->v'=v)/\
  (∀k,v'.ownBlock=some k->v.ownBlock=some k\/w.heap.size<=k)/\tyk w w':=by
 obtain⟨v1,w1,h1,h2,h3,h4⟩:=bp (P:=P) w 0 t u ty e i ht hu hi hz aa2 hby v n xs agN s h63 aGW (Nat.zero_le _);refine⟨v1,w1,h1,h2,h3,?_⟩;rcases agN.2 with⟨rfl,rfl⟩|⟨g,cap,cur,fz,rfl,hbg,hg,hfz,hnc,hcm,hcs,awc⟩
 ·refine⟨fun h0=>h4.2 ⟨rfl,h0⟩,fun k hk=>.inr ?_,arV (fun b hb=>h3.block b hb (by simp [Value.ownBlock]))⟩;obtain⟨v2,w2,k1,k2,_⟩:=bp (P:=P) w w.heap.size t u ty e i ht hu hi hz aa2 hby (.slice none 0 0) 0 xs ⟨agN.1,.inl ⟨rfl,rfl⟩⟩ s h63 aGW (aA _);rw[h1]at k1;injection k1 with e1 e2
  subst e1 e2;exact(k2.lt k hk).1
 ·have aQy:cur.size=cap:=by simpa using hcs
  by_cases Bm:n+s.size<=cap
  ·have hr:=Lib.run_append_room_stringF (P:=P) w t u ty e i ht hu hi aa2 g n cap cur fz hg (by simpa using hfz) s Bm (by omega);rw[h1]at hr;injection hr with e1 e2
   subst e1 e2;exact⟨fun h0=>by rw[h0,bt],fun k hk=>.inl hk,arK _ _ _⟩
  ·have holds:∀j u,xs[j]? =some u->w.cell? ((⟨g,0,none⟩:Addr).add j)=some u:=agN.cells (g:=g) rfl;have hxl:xs.length=n:=by simpa using agN.1
   simp only[maxLen]at h63;have hr:=Lib.run_append_grow_string (P:=P) (ty:=ty) w t u e i (.int .u8 0) ht hu hi hz ⟨g,0,none⟩ n cap xs (by rw[aa2];simpa using hxl) holds s (by omega) (by omega) (by rw[hby];exact growslice_fits (by omega) (by omega));rw[h1]at hr;injection hr with e1 e2
   subst e1 e2;refine⟨fun h0=>absurd Bm (by omega),fun k hk=>.inr ?_,amy _ rfl⟩;simp only[Value.ownBlock,ah]at hk;omega
def nF.aEj(S:nF C U J a w){s':ByteArray}(hl:J.heap[l]? =some (.Jw s))(hys:s.size<s'.size\/(h'=U l/\s'.size=s.size))
 (agN:w'.ownsRowF 0 Mk 1 h' s'.size (aM s')) (hg:w.grownBy w' (U l).ownBlock) (Fv:∀k,h'.ownBlock=some k->(U l).ownBlock=some k\/w.heap.size<=k) (hty:tyk w w'):
 nF C (fun k=>if k=l then h' else U k) {J with heap:=J.heap.set l (.Jw s')} a w':=by
 have sJ:l<J.heap.length:=(aj.1 hl).1
 let U':Nat->aRu:=fun k=>if k=l then h' else U k
 have hφl:U' l=h':=by simp [U']
 have hφk:∀k,k≠l->U' k=U k:=fun k hk=>by simp [U',hk]
 have n9:∀(k:Nat)(x:j5),(J.heap.set l (.Jw s'))[k]? =some x->(k=l/\x=.Jw s')\/(k≠l/\J.heap[k]? =some x):=by
  grind
 have aNu:w.ownsRowF 0 Mk 1 (U l) s.size (aM s):=S.om l _ hl;obtain⟨b0,c0,hsl⟩:=aoL aNu;have aPh:∀a,U l≠ .pointer a:=by intro a;rw[hsl];simp
 have aNp:hdl (U l)=none:=by rw[hsl];rfl
 have Jy:∀b,b<w.heap.size-> ¬ (U l).ownBlock=some b->w'.heap[b]? =w.heap[b]? :=fun b hb hn=>hg.block b hb (fun e=>hn e.symm)
 have OC:∀b o,GJ U' (J.heap.set l (.Jw s')) b o->GJ U J.heap b o\/w.heap.size<=b:=by
  rintro b o ⟨k,x,hx,hm⟩;rcases n9 k x hx with⟨rfl,rfl⟩|⟨sv,hx⟩
  ·rw[hφl]at hm;exact(Fv b hm).imp (fun h=>⟨k,_,hl,h⟩) id
  ·rw[hφk k sv]at hm;exact .inl ⟨k,x,hx,hm⟩
 have le:(C.env U J.heap w).Le J.heap.length (C.env U' (J.heap.set l (.Jw s')) w'):=by
  refine⟨by simp [qC.env],fun k hk=>?_,fun b o u hm hc=>?_,hty⟩
  ·grind [qC.env,mR]
  ·have hb:=F6 hc;simp only[qC.env]at hb hm hc ⊢;refine⟨fun h=>?_,?_⟩
   ·grind
   ·rw[<-hc];simp only[World.cell?];rw[Jy b hb (fun h=>hm (.inl ⟨l,_,hl,h⟩))]
 have B1:tv C U' (J.heap.set l (.Jw s')) w' J.df a.defers:=by
  refine S.defers.step le (fun b hb hno=>Jy b hb (hno l _ hl)) (fun k x b hx hb=>?_);rcases n9 k x hx with⟨rfl,rfl⟩|⟨sv,hx⟩
  ·rw[hφl]at hb;exact(Fv b hb).imp (fun h=>⟨k,_,hl,h⟩) id
  ·rw[hφk k sv]at hb;exact .inl ⟨k,x,hx,hb⟩
 refine {j9:=kP.mono le _ _ (kP.nb _ _ S.j9) S.j9,defers:=B1,om:=?_,apart:=?_,uh:=?_,size:=bu S.size hg.size,old:=?_,n8:=?_,Cn:=?_,wZ:=?_,rest:=⟨by rw[hg.output];exact S.rest.1,by rw[hg.os];exact S.rest.2⟩,low:=⟨S.low.1,by simpa using S.low.2⟩,mA:=?_}
 ·intro k x hx;rcases n9 k x hx with⟨rfl,rfl⟩|⟨sv,hx⟩
  ·show oP _ (.Jw s') (U' k);rw[hφl];exact agN
  ·have r0:=S.om k x hx;show oP _ x (U' k);rw[hφk k sv];refine oP.mono r0 le (fun b hb=>Jy b (r0.qP hb) (fun h=>?_));exact sv (S.apart k l x _ b hx hl hb h)
 ·intro k k' x x' b hx BA hb sK;have hb:x.block (U' k) b:=hb;have sK:x'.block (U' k') b:=sK;rcases n9 k x hx with⟨rfl,rfl⟩|⟨sv,Zp⟩<;>rcases n9 k' x' BA with⟨rfl,rfl⟩|⟨auG,aQK⟩
  ·rfl
  ·rw[hφl]at hb;rw[hφk k' auG]at sK;rcases Fv b hb with h|h
   ·exact S.apart k k' _ x' b hl aQK h sK
   ·have:=(S.om k' x' aQK).qP sK;simp only[qC.env]at this;omega
  ·rw[hφl]at sK;rw[hφk k sv]at hb;rcases Fv b sK with h|h
   ·exact S.apart k k' x _ b Zp hl hb h
   ·have:=(S.om k x Zp).qP hb;simp only[qC.env]at this;omega
  ·rw[hφk k sv]at hb;rw[hφk k' auG]at sK;exact S.apart k k' x x' b Zp aQK hb sK
 ·intro k x b o hx hb;have hb:x.block (U' k) b:=hb;rcases n9 k x hx with⟨rfl,rfl⟩|⟨sv,Zp⟩
  ·rw[hφl]at hb;rcases Fv b hb with h|h
   ·exact S.uh k _ b o hl h
   ·intro hA;have:=C.hA _ _ hA;have:=S.size;omega
  ·rw[hφk k sv]at hb;exact S.uh k x b o Zp hb
 ·intro b o hb hm;have:=Jy b (aa hb S.size) (fun h=>hm (S.Cn l _ b o hl h hb));rw[<-S.old b o hb hm];simp only[World.cell?,this]
 ·intro b hb hm;rw[Jy b (aa hb S.size) (fun h=>hm 0 (S.Cn l _ b 0 hl h hb))];exact S.n8 b hb hm
 ·intro k x b o hx hm hb;have hm:x.Bk (U' k) b o:=hm;rcases n9 k x hx with⟨rfl,rfl⟩|⟨sv,Zp⟩
  ·rw[hφl]at hm;rcases Fv b hm with h|h
   ·exact S.Cn k _ b o hl h hb
   ·have:=S.size;omega
  ·rw[hφk k sv]at hm;exact S.Cn k x b o Zp hm hb
 ·intro x hx hm0;rw[<-S.wZ x hx hm0];have:=Jy x.block (aa hx S.size) (fun h=>hm0 0 (S.Cn l _ _ 0 hl h hx));simp only[World.frozen?,this]
 ·intro k hk;have:=S.mA k hk
  grind [mR]
def nF.aNv(S:nF C U J a w):nF C (fun k=>if k=J.heap.length then .slice none 0 0 else U k) {J with heap:=J.heap++[.Jw au]} a w/\
 (C.env U J.heap w).Le J.heap.length (C.env (fun k=>if k=J.heap.length then .slice none 0 0 else U k) (J.heap++[.Jw au]) w):=by
 let U':Nat->aRu:=fun k=>if k=J.heap.length then .slice none 0 0 else U k
 have hφ:∀l,l<J.heap.length->U' l=U l:=fun l hl=>by grind
 have hn:U' J.heap.length=.slice none 0 0:=by simp [U']
 have n9:∀(l:Nat)(x:j5),(J.heap++[.Jw au])[l]? =some x->(l<J.heap.length/\J.heap[l]? =some x)\/(l=J.heap.length/\x=.Jw au):=by
  grind
 have hno:∀b,¬ (j5.Jw au).block (.slice none 0 0) b:=by
  intro b h;cases h
 have OC:∀b o,GJ U' (J.heap++[.Jw au]) b o->GJ U J.heap b o:=by
  rintro b o ⟨l,x,hx,hm⟩;rcases n9 l x hx with⟨hl,hx⟩|⟨rfl,rfl⟩
  ·rw[hφ l hl]at hm;exact⟨l,x,hx,hm⟩
  ·rw[hn]at hm;exact absurd (j5.ot hm) (hno b)
 have le:(C.env U J.heap w).Le J.heap.length (C.env U' (J.heap++[.Jw au]) w):=by
  refine qC.CU (by simp) (fun l hl=>⟨hφ l hl,by rw[az hl]⟩) (fun b i u hm hc=>⟨fun h=>hm (h.imp (OC b i) id),hc⟩)
 have I4:∀(l:Nat)(x:j5)(b:Nat),(J.heap++[.Jw au])[l]? =some x->x.block (U' l) b->l<J.heap.length/\J.heap[l]? =some x/\x.block (U l) b:=by
  intro l x b hx hb;rcases n9 l x hx with⟨hl,hx⟩|⟨rfl,rfl⟩
  ·rw[hφ l hl]at hb;exact⟨hl,hx,hb⟩
  ·rw[hn]at hb;exact absurd hb (hno b)
 have B1:tv C U' (J.heap++[.Jw au]) w J.df a.defers:=by
  refine S.defers.step le (fun b hb _=>rfl) (fun l x b hx hb=>?_);obtain⟨_,h2,h3⟩:=I4 l x b hx hb;exact .inl ⟨l,x,h2,h3⟩
 refine⟨?_,le⟩;refine {j9:=kP.mono le _ _ (kP.nb _ _ S.j9) S.j9,defers:=B1,om:=?_,apart:=?_,uh:=?_,size:=S.size,old:=S.old,n8:=S.n8,Cn:=?_,wZ:=S.wZ,rest:=S.rest,low:=⟨S.low.1,by have:=S.low.2;simp;omega⟩,mA:=?_}
 ·intro l x hx;show oP _ x (U' l);rcases n9 l x hx with⟨hl,hx⟩|⟨rfl,rfl⟩
  ·rw[hφ l hl];exact oP.mono (S.om l x hx) le (fun _ _=>rfl)
  ·rw[hn];exact World.ownsRowF_nil w 0 Mk 1
 ·intro l l' x x' b hx BA hb sK;obtain⟨_,h2,h3⟩:=I4 l x b hx hb;obtain⟨_,h2',h3'⟩:=I4 l' x' b BA sK;exact S.apart l l' x x' b h2 h2' h3 h3'
 ·intro l x b o hx hb;obtain⟨_,h2,h3⟩:=I4 l x b hx hb;exact S.uh l x b o h2 h3
 ·intro l x b o hx hm hb;obtain⟨h1,h2,_⟩:=I4 l x b hx (j5.ot hm);have hm:x.Bk (U' l) b o:=hm;rw[hφ l h1]at hm;exact S.Cn l x b o h2 hm hb
 ·intro l hl;have sJ:l<J.heap.length:=by have:=S.low;omega
  have:=S.mA l hl
  grind
theorem aqy(s u:ByteArray):aM (s++u)=aM s++aM u:=by
 simp [aM]
def auK(S:nF C U J a w){u e:aRy}{sz bytes:Nat}(ht:l8 C.P t=some (e,sz,bytes))(hc:axa C.P=true/\pg C.P u=true)
 (h:ajw J e x s=some ef) (hp:ef.pre) (rx:pm (C.env U J.heap w) x vx):
 ∃v w' U',(am #[t,u] ty #[vx,.string s]).run C.P w=.ok v w'/\nF C U' (J.app dst ef) (a.put dst v) w':=by
 obtain⟨hut,i,hi,rfl,rfl⟩:=Mn ht;unfold ajw at h;split at h
 ·rename_i l n;split at h
  ·rename_i s0 hl;split at h
   ·rename_i hcn;obtain⟨hn,he⟩:=hcn;subst he;cases h;have hv:=axf S hl hn rx;subst hv;have hb:=hc.1;unfold axa at hb;rw[hi]at hb;simp only[aU,jL]at hb;obtain⟨⟨hz,hs1⟩,hb1⟩:=hb
    have aNw:i.zero=some (.int .u8 0):=by
     revert hz;split
     ·intro _;assumption
     ·intro h;cases h
    have hus:C.P.underlying u=some .string:=by have:=hc.2;grind [pg]
    have hp:(s0.size+s.size)*1<=2 ^ 44:=hp;have hp':s0.size+s.size<=17592186044416:=by omega
    obtain⟨v',w',h1,h2,h3,h4,h5,h6⟩:=aB5 (P:=C.P) w t u ty Mk i hut hus hi aNw hs1 hb1 (U l) s0.size _ (S.om l _ hl) s (by simp only[maxLen];omega) (by omega);have hsz:(s0++s).size=s0.size+s.size:=by simp
    have sJ:l<J.heap.length:=(aj.1 hl).1
    have S2:=S.aEj (s':=s0++s) (w':=w') (h':=v') hl (by
     rw[hsz];rcases Nat.eq_zero_or_pos s.size with h0|h0
     ·exact .inr ⟨h4 h0,by omega⟩
     ·exact .inl (by omega)) (by rw[hsz,aqy];exact h2) h3 h5 h6
    refine⟨v',w',(fun k=>if k=l then v' else U k),h1,?_⟩
    have:=S2.put dst (x:=.lR l (s0.size+s.size)) (v:=v') ⟨by simpa [qC.env] using sJ,by
     obtain⟨b,c,e⟩:=aoL h2;exact⟨_,_,_,e⟩,fun k hk=>by
     grind [qC.env,mR]⟩
    rw[agL];exact this
   ·cases h
  ·cases h
 ·cases h
end
section sound
variable {a:Act}
def azi {oy:aRt}{r:AV}{vy:aRu}(h:av0 op x y=some r)(rx:pm E x vx)(ry:pm E y vy):
 ∃v,(do eqGuard op t ox oy vx vy;binOp op t vx vy:Sem aRu).run C.P w=.ok v w/\pm E r v:=by
 unfold av0 at h;split at h
 ·rename_i k m k' n;simp only[pm]at rx ry;subst rx ry;split at h
  ·cases h
  ·rename_i hk;have PL:k=k':=by simpa using hk
   subst PL
   have hg:(eqGuard op t ox oy (.int k m) (.int k n)).run C.P w=.ok () w:=by
    unfold eqGuard;split<;>rfl
   cases op with
   |quo=>
    simp only at h;split at h
    ·cases h
    ·rename_i hz;cases h;exact⟨_,by simp [hg,binOp,Op.intDiv,hz],rfl⟩
   |rem=>
    simp only at h;split at h
    ·cases h
    ·rename_i hz;cases h;exact⟨_,by simp [hg,binOp,Op.intDiv,hz],rfl⟩
   |and=>cases h;exact⟨_,by simp only[ai,hg,ae,binOp];rw[if_neg hk];rfl,rfl⟩
   |or=>cases h;exact⟨_,by simp only[ai,hg,ae,binOp];rw[if_neg hk];rfl,rfl⟩
   |xor=>cases h;exact⟨_,by simp only[ai,hg,ae,binOp];rw[if_neg hk];rfl,rfl⟩
   |andNot=>cases h;exact⟨_,by simp only[ai,hg,ae,binOp];rw[if_neg hk];rfl,rfl⟩
   |_=>simp at h<;>subst h<;>refine⟨_,?_,rfl⟩<;>simp [hg,binOp,Op.intArith,Op.intCmp]
 ·rename_i s u;simp only[pm]at rx ry;subst rx ry
  have hg:(eqGuard op t ox oy (.string s) (.string u)).run C.P w=.ok () w:=by
   unfold eqGuard;split<;>rfl
  cases op with
  |add=>
   simp only at h;split at h
   ·rename_i hz;cases h
    have hz': ¬ ((s.size+u.size:Nat):Int)>IntKind.i64.max:=by
     have:IntKind.i64.max=9223372036854775807:=by decide
     rw[this];omega
    exact⟨_,by simp_all [binOp,Op.stringOp],rfl⟩
   ·cases h
  |_=>simp at h<;>subst h<;>refine⟨_,?_,rfl⟩<;>simp [hg,binOp,Op.stringOp]
 ·cases h
def awd(h:tbl P t=true):P.underlying t=some .bool:=by
 grind [tbl]
def awe {oy:aRt}{p q:Bool}:(eqGuard op t ox oy (.bool p) (.bool q)).run P w=.ok () w:=by
 unfold eqGuard;split<;>rfl
def aLO{p q:Bool}(h:tbl P t=true):(binOp .eql t (.bool p) (.bool q)).run P w=.ok (.bool (p==q)) w:=by
 simp_all [run_equal_bool,awd,binOp]
def aLP{p q:Bool}(h:tbl P t=true):(binOp .neq t (.bool p) (.bool q)).run P w=.ok (.bool (!(p==q))) w:=by
 simp_all [run_equal_bool,awd,binOp]
def aFb(S:nF C U J a w){o:Obj}(ho:∀c t lo hi,o=.cells c t (lo,hi)->lo=0/\hi=0)
 (hr:r=.ok (.value v) (World.more w o)) (rep:pm (C.env U J.heap (World.more w o)) x v):Ad C J a w dst r {val:=x,rd,pre:=p}:=by
 refine⟨.value v,v,_,U,hr,.inl rfl,?_⟩;rw[Mo];exact(S.more o ho).put dst rep
def awf(S:nF C U J a w)(hr:r=.ok (.value (.pointer (some ⟨w.heap.size,0,none⟩))) (World.more w (.cells c t)))
 (rep:kP (C.env U J.heap w) cs c.toList) (h1:∀u∈c.toList,u.oneCell'=true):Ad C J a w dst r {val:=.ptr J.heap.length 0,rd,nw:=[.cells cs],pre:=p}:=by
 obtain⟨S',le⟩:=S.name c t rep h1;refine⟨_,_,_,(fun l=>if l=J.heap.length then .pointer (some ⟨w.heap.size,0,none⟩)else U l),hr,.inl rfl,?_⟩;rw[aoK];exact S'.put dst ⟨by simp [qC.env],w.heap.size,by simp [qC.env],rfl⟩
theorem aJc(J:jS)(dst:Option Tmp)(x:AV)(o p:j5):J.app dst {val:=x,nw:=[o,p]}=jS.put {J with heap:=(J.heap++[o])++[p]} dst x:=by
 cases dst<;>simp [jS.app,ni,jS.put]
def ar4(S:nF C U J a w)(hr:r= .ok (.value (.pointer (some ⟨w.heap.size,0,none⟩))) (World.more w (.cells c t)))
 (aLQ:kP (C.env U J.heap w) cs c.toList) (h1:∀u∈c.toList,u.oneCell'=true):Ad C J a w dst r (Mm t J.heap.length cs):=by
 unfold Mm;cases hb:amx t with
 |false=>exact awf S hr aLQ h1
 |true=>
  rw[jE];split
  ·rename_i rs;obtain⟨v0,q,hc,e0,v1,vs,rfl,e1,e2⟩:=aLQ;simp only[pm]at e0 e1;obtain⟨S1,le1⟩:=S.aNv
   obtain⟨S',le⟩:=S1.aLp (cs:=.sn t (J.heap.length+1)::.lR J.heap.length 0::rs) c t (fun le=>by
    rw[hc];refine⟨v0,v1::vs,rfl,⟨by simp [qC.env],w.heap.size,by simp [qC.env],.inl e0,c,(0,0),Jz w _⟩,v1,vs,rfl,⟨by simp [qC.env],⟨none,0,0,e1⟩,fun k hk=>?_⟩,?_⟩
    ·have hk:k=0:=by
      simp [qC.env,mR]at hk;rw[<-hk]
     exact⟨by omega,fun _=>by rw[e1];simp [qC.env]⟩
    ·have r1:=kP.mono le1 _ _ (kP.nb _ _ e2) e2;exact kP.mono le _ _ (kP.nb _ _ r1) r1) h1
   refine⟨_,_,_,(fun l=>if l=(J.heap++[j5.Jw au]).length then .pointer (some ⟨w.heap.size,0,none⟩)else if l=J.heap.length then .slice none 0 0 else U l),hr,.inl rfl,?_⟩;rw[aJc];refine S'.put dst ⟨by simp [qC.env],w.heap.size,by simp [qC.env],rfl⟩
  ·exact awf S hr aLQ h1
def ajz(h:pg P t=true):P.underlying t=some .string:=by
 grind [pg]
def axg(h:arY P t=some k):P.underlying t=some (.int k):=by
 grind [arY]
def ar5(h:(l8 P t).isSome=true):∃e,P.underlying t=some (.slice e):=by
 obtain⟨⟨e,sz,b⟩,hx⟩:=Option.isSome_iff_exists.1 h;exact⟨e,(Mn hx).1⟩
def aFc(S:nF C U J a w)(h:av3 C.P J t x=some ef)(rx:pm (C.env U J.heap w) x v):
 ∃y rd,ef={val:=y,rd}/\∃u,(bg #[t] ty #[v]).run C.P w=.ok u w/\pm (C.env U J.heap w) y u:=by
 unfold av3 at h;split at h
 ·split at h
  ·rename_i ht;cases h;simp only[pm]at rx;subst rx;exact⟨_,_,rfl,_,by simp [bg,run_underlying (ajz ht)];rfl,rfl⟩
  ·cases h
 ·split at h
  ·rename_i ht;obtain⟨e,hu⟩:=ar5 ht;cases h;obtain⟨b,cap,rfl,_⟩:=rx;exact⟨_,_,rfl,_,by simp [bg,run_underlying hu];rfl,rfl⟩
  ·cases h
 ·split at h
  ·rename_i ht;obtain⟨e,hu⟩:=ar5 ht;split at h
   ·rename_i hl;split at h
    ·rename_i hn;cases h;have hv:=Qm S hl hn rx;subst hv;obtain⟨b,cap,hh,_⟩:=S.om _ _ hl;refine⟨_,_,rfl,.int .i64 _,?_,rfl⟩;rw[hh,<-hn];simp [bg,run_underlying hu];rfl
    ·cases h
   ·rename_i hl;split at h
    ·rename_i hn;cases h;have hv:=axf S hl hn rx;subst hv;obtain⟨b,cap,hh⟩:=aoL (S.om _ _ hl);refine⟨_,_,rfl,.int .i64 _,?_,rfl⟩;rw[hh,<-hn];simp [bg,run_underlying hu];rfl
    ·cases h
   ·cases h
  ·cases h
 ·cases h
theorem aqz(S:nF C U J a w){e:aRy}{sz bytes:Nat}{n:Int}(ht:l8 C.P t=some (e,sz,bytes))(hz:mD C.P e=some z)
 (hc:z.length=sz/\0<sz/\0<=n) (Bm:room n.toNat bytes/\n<2 ^ 62):
 Ad C J a w dst ((do pure (.value (<-bh t (.int .i64 n) (.int .i64 n))):Sem Next).run C.P w)
  {val:=.lR J.heap.length n.toNat,rd,nw:=[.lR false sz (an n.toNat z)],pre:=p}:=by
 obtain⟨hu,i,hi,rfl,rfl⟩:=Mn ht;obtain⟨zv,hzr,aGM,aNo⟩:=aoH (w:=w) hz;have hzl:zv.cells.size=i.size:=by have:=(aGM (C.env U J.heap w)).length;simp at this;omega
 have aLq:IntKind.i64.wrap n=n:=by
  grind [IntKind.wrap,IntKind.bits]
 have hti:(typeInfo e).run C.P w=.ok i w:=by simp [typeInfo,hi]
 have hsz:(sizeOf e).run C.P w=.ok i.size w:=by simp [sizeOf,typeInfo,hi]
 have hb:(i.bytes:Int)*n<=2 ^ 44:=by
  grind [room]
 have tD:kP (C.env U J.heap w) (an n.toNat z).flatten ((bn (n.toNat*i.size)).map (fun j=>(if n.toNat*i.size=0 then(#[]:Array aRu)else zv.cells)[j % (if n.toNat*i.size=0 then(#[]:Array aRu)else zv.cells).size]!)).toList:=by
  grind [amE,Ec]
 have zr:∀u∈((bn (n.toNat*i.size)).map (fun j=>(if n.toNat*i.size=0 then(#[]:Array aRu)else zv.cells)[j % (if n.toNat*i.size=0 then(#[]:Array aRu)else zv.cells).size]!)).toList,u.oneCell'=true:=by
  grind [amE,List.mem_flatten]
 generalize aoM:(bn (n.toNat*i.size)).map (fun j=>(if n.toNat*i.size=0 then(#[]:Array aRu)else zv.cells)[j % (if n.toNat*i.size=0 then(#[]:Array aRu)else zv.cells).size]!)=c at tD zr
 have hzs:∀r∈an n.toNat z,r.length=i.size:=by
  grind
 have aPm:c.size=n.toNat*i.size:=by
  grind
 have awc:(c.toList.drop 0).take (n.toNat*i.size)=c.toList:=by
  grind [bj]
 have S':=S.adf (ub:=false) (sz:=i.size) (rows:=an n.toNat z) (w':=World.more w (.cells c e)) (h':=.slice (some ⟨w.heap.size,0,none⟩) n.toNat n.toNat) (by simp) (fun b hb=>yZ w _ hb)
  (xa w _ (by grind)) ⟨rfl,rfl⟩ (by
    rintro b ⟨rfl,_⟩;exact aA _) (by
    intro E' le hw;refine⟨some ⟨w.heap.size,0,none⟩,n.toNat,by rw[bJ],by grind,by simp,hzs,?_⟩;intro a0 ha _;simp only[ah]at ha;subst ha;refine⟨rfl,c,e,by rw[hw];exact Jz w _,by rw[aPm];simp,?_,?_⟩
    ·rw[bJ,awc];exact kP.mono le _ _ (kP.nb _ _ tD) tD
    grind)
 have S2:=S'.put dst (x:=.lR J.heap.length n.toNat) (v:=.slice (some ⟨w.heap.size,0,none⟩) n.toNat n.toNat) ⟨by simp [qC.env],⟨_,_,_,rfl⟩,fun k hk=>by
  grind [qC.env,mR]⟩
 have uB:((do pure (.value (<-bh t (.int .i64 n) (.int .i64 n))):Sem Next).run C.P w)=.ok (.value (.slice (some ⟨w.heap.size,0,none⟩) n.toNat n.toNat)) (World.more w (.cells c e)):=by
  have h1: ¬ (((n<0\/(i.bytes:Int)*n>2 ^ 48)\/n<0)\/n>n):=by omega
  by_cases h0:n.toNat*i.size=0
  ·simp only[h0,jM]at aoM;simp only[bh,ai,run_underlying hu,ae,asInt,asIntOf,aq,hti,aLq,jK,Bool.or_eq_true,h1,if_false,run_askRoom,hsz,h0,jM,newRow,run_newObj];rw[aoM];rfl
  ·simp only[h0,if_false]at aoM;simp only[bh,ai,run_underlying hu,ae,asInt,asIntOf,aq,hti,aLq,jK,Bool.or_eq_true,h1,if_false,run_askRoom,hsz,h0,hzr,newRow,run_newObj];rw[aoM];rfl
 rw[<-aoK J dst _ rd _ p]at S2;exact⟨_,_,_,_,uB,.inl rfl,S2⟩
theorem amG(S:nF C U J a w){e:aRy}{len sz bytes:Nat}{ub:Bool}(ht:l8 C.P t=some (e,sz,bytes))
 (hz:mD C.P e=some z) (hl:z.length=sz/\len*sz<=16777216) (hf:ac8 sz (an len z) (parts.toList.map fun p=>(p.1,J.ev p.2))=some rows):
 Ad C J a w dst ((do pure (.value (<-aN t len (parts.map fun(i,x)=>(i,a.eval x)))):Sem Next).run C.P w)
  {val:=.lR J.heap.length rows.length,nw:=[.lR ub sz rows]}:=by
 obtain⟨us,uB,hr,zr,hlen,h3,aGL⟩:=agH S ht hz hl hf;have hsz:us.size=len*sz:=by simpa using aGL
 have awc:(us.toList.drop 0).take (rows.length*sz)=us.toList:=by
  grind
 have S':=S.adf (ub:=ub) (sz:=sz) (rows:=rows) (w':=World.more w (.cells us e)) (h':=.slice (some ⟨w.heap.size,0,none⟩) len len) (by simp) (fun b hb=>yZ w _ hb)
  (xa w _ (by grind)) ⟨rfl,rfl⟩ (by
    rintro b ⟨rfl,_⟩;exact aA _) (by
    intro E' le hw;refine⟨some ⟨w.heap.size,0,none⟩,len,by rw[hlen],by omega,by simp,h3,?_⟩;intro a0 ha _;simp only[ah]at ha;subst ha;refine⟨rfl,us,e,by rw[hw];exact Jz w _,by rw[hsz];simp,?_,?_⟩
    ·rw[awc];exact kP.mono le _ _ (kP.nb _ _ hr) hr
    ·rw[awc];exact zr)
 have S2:=S'.put dst (x:=.lR J.heap.length rows.length) (v:=.slice (some ⟨w.heap.size,0,none⟩) len len) ⟨by simp [qC.env],⟨_,_,_,rfl⟩,fun k hk=>by
  grind [qC.env,mR]⟩
 have aNx:((do pure (.value (<-aN t len (parts.map fun(i,x)=>(i,a.eval x)))):Sem Next).run C.P w)=.ok (.value (.slice (some ⟨w.heap.size,0,none⟩) len len)) (World.more w (.cells us e)):=by
  simp_all
 rw[<-aoK J dst _ [] _ True]at S2;exact⟨_,_,_,_,aNx,.inl rfl,S2⟩
def Ad.of_eq {r':Result Next}{e:vF}(h:r=r')(d:Ad C J a w dst r' e):Ad C J a w dst r e:=h ▸ d
def aJd{f:W->O}{l:List W}{x:O}(h:l.map f=[x]):∃y,l=[y]/\f y=x:=by
 simp_all
def axh{f:W->O}{l:List W}{x x':O}(h:l.map f=[x,x']):∃y y',l=[y,y']/\f y=x/\f y'=x':=by
 cases l with
 |nil=>simp at h
 |cons y l=>cases l with
  |nil=>simp at h
  |cons z l=>cases l with
   |nil=>grind
   |cons _ _=>simp at h
def auL(S:nF C U J a w){b:Builtin}{args:Array aRt}{ts:Array aRy}{e:vF}(ho:o.op= .call {callee:= .builtin b,args,argTypes:=ts})
 (h:PM C.P J b args.toList ts.toList (args.toList.map J.ev)=some e) (hp:e.pre):Ad C J a w o.dst ((execOp a.eval o).run C.P w) e:=by
 obtain⟨ts,rfl⟩:∃l:List aRy,ts=l.toArray:=⟨ts.toList,by simp⟩;obtain⟨args,rfl⟩:∃l:List aRt,args=l.toArray:=⟨args.toList,by simp⟩;simp only at h
 have uB:(execOp a.eval o).run C.P w=(builtin b ts.toArray o.type (args.toArray.map fun|.const _=>true|_=>false) (args.toArray.map a.eval)).run C.P w:=by
  grind [execOp,resolve,invoke]
 refine Ad.of_eq uB ?_;unfold PM at h;split at h
 ·rename_i t x hx;obtain⟨ox,rfl,rfl⟩:=aJd hx;obtain⟨y,rd,rfl,hv⟩:=aFc (ty:=o.type) S h (S.ev ox)
  grind [lJ,builtin]
 ·rename_i t u x y hx;obtain⟨ox,oy,rfl,rfl,rfl⟩:=axh hx;split at h
  ·rename_i et sz bytes ht hu;split at h
   ·rename_i z hz;split at h
    ·rename_i hc;by_cases hy:∃s0,J.ev oy=.str s0
     ·obtain⟨s0,hu'⟩:=hy;rw[hu']at h;simp only[VE]at h;split at h
      ·have hv:=S.ev oy;rw[hu']at hv;have hv:a.eval oy=.string s0:=hv;obtain⟨v,w',U',hr,hS⟩:=auK (u:=u) (dst:=o.dst) (ty:=o.type) S ht (by assumption) h hp (S.ev ox);refine⟨.value v,v,w',U',?_,.inl rfl,hS⟩;simp [builtin,hr,hv]
      ·cases h
     rw[apR hy]at h;obtain⟨v,w',U',hr,hS⟩:=axe (dst:=o.dst) (ty:=o.type) S ht hu hz hc h hp (S.ev ox) (S.ev oy);refine⟨.value v,v,w',U',?_,.inl rfl,hS⟩;simp [builtin,hr]
    ·cases h
   ·cases h
  ·cases h
 ·rename_i t u k m k' n hx;obtain⟨ox,oy,rfl,Zp,aQK⟩:=axh hx;have r1:=S.ev ox;have r2:=S.ev oy;rw[Zp]at r1;rw[aQK]at r2;simp only[pm]at r1 r2;cases h;refine Ad.of_eq ?_ (lJ (rd:=[]) (p:=True) (m:=pure (.int k (if n>m then n else m))) S ⟨_,rfl,rfl⟩);simp [builtin,Builtin.max_,r1,r2,Builtin.max2]
 ·rename_i t u k m k' n hx;obtain⟨ox,oy,rfl,Zp,aQK⟩:=axh hx;have r1:=S.ev ox;have r2:=S.ev oy;rw[Zp]at r1;rw[aQK]at r2;simp only[pm]at r1 r2;cases h;refine Ad.of_eq ?_ (lJ (rd:=[]) (p:=True) (m:=pure (.int k (if n<m then n else m))) S ⟨_,rfl,rfl⟩);simp [builtin,Builtin.min_,r1,r2,Builtin.min2]
 ·cases h
theorem QN(S:nF C U J a w):∀xs:List aRt,kP (C.env U J.heap w) (xs.map J.ev) (xs.map a.eval)
 |[]=>rfl
 |x::xs=>⟨_,_,rfl,S.ev x,QN S xs⟩
end sound
open Go.MapKept
section
variable {a:Act}
def nF.aJe(S:nF C U J a w):
 nF C (fun l=>if l=J.heap.length then .map (some w.heap.size)else U l) {J with heap:=J.heap++[.map []]} a (World.more w (.map #[] 0)):=by
 let U':Nat->aRu:=fun l=>if l=J.heap.length then .map (some w.heap.size)else U l
 let w':=World.more w (.map #[] 0)
 have hφ:∀l,l<J.heap.length->U' l=U l:=fun l hl=>by grind
 have hφn:U' J.heap.length=.map (some w.heap.size):=by simp [U']
 have hsz:w'.heap.size=w.heap.size+1:=Vy _ _;have hold:∀b,b<w.heap.size->w'.heap[b]? =w.heap[b]? :=fun b hb=>yZ _ _ hb
 have hL:w'.heap[w.heap.size]? =some (.map #[] 0):=Jz _ _
 have n9:∀(l:Nat)(x:j5),(J.heap++[.map []])[l]? =some x->(l<J.heap.length/\J.heap[l]? =some x)\/(l=J.heap.length/\x=.map []):=by
  grind
 have ud:∀b o,b<w.heap.size->w'.cell? ⟨b,o,none⟩=w.cell? ⟨b,o,none⟩:=by
  grind [World.cell?]
 have GH:∀b,(j5.map []).block (U' J.heap.length) b->w.heap.size<=b:=by
  intro b hb;rw[hφn]at hb;have hb:b=w.heap.size:=hb;omega
 have OC:∀b o,GJ U' (J.heap++[.map []]) b o->w.heap.size<=b\/GJ U J.heap b o:=by
  rintro b o ⟨l,x,hx,hm⟩;rcases n9 l x hx with⟨hl,hx⟩|⟨rfl,rfl⟩
  ·rw[hφ l hl]at hm;exact .inr ⟨l,x,hx,hm⟩
  grind [j5.ot]
 have le:(C.env U J.heap w).Le J.heap.length (C.env U' (J.heap++[.map []]) w'):=by
  refine qC.CU (by simp) (fun l hl=>⟨hφ l hl,by rw[az hl]⟩) (fun b i u hm hc=>?_)
  grind [F6]
 have B1:tv C U' (J.heap++[.map []]) w' J.df a.defers:=by
  refine S.defers.step le (fun b hb _=>hold b hb) (fun l x b hx hb=>?_)
  grind
 refine {j9:=kP.mono le _ _ (kP.nb _ _ S.j9) S.j9,defers:=B1,om:=?_,apart:=?_,uh:=?_,size:=by show _<=w'.heap.size;have:=S.size;omega,old:=?_,n8:=?_,Cn:=?_,wZ:=?_,rest:=S.rest,low:=⟨S.low.1,by have:=S.low.2;simp;omega⟩,mA:=?_}
 ·intro l x hx;show oP _ x (U' l);rcases n9 l x hx with⟨hl,hx⟩|⟨rfl,rfl⟩
  ·have r0:=S.om l x hx;rw[hφ l hl];exact oP.mono r0 le (fun b hb=>hold b (r0.qP hb))
  ·rw[hφn];exact⟨w.heap.size,#[],0,rfl,hL,rfl⟩
 ·intro l l' x x' b hx BA hb sK;have hb:x.block (U' l) b:=hb;have sK:x'.block (U' l') b:=sK;rcases n9 l x hx with⟨hl,hx⟩|⟨rfl,rfl⟩<;>rcases n9 l' x' BA with⟨hl',BA⟩|⟨rfl,rfl⟩
  ·rw[hφ l hl]at hb;rw[hφ l' hl']at sK;exact S.apart l l' x x' b hx BA hb sK
  ·rw[hφ l hl]at hb;have h1:=(S.om l x hx).qP hb
   grind [qC.env]
  ·rw[hφ l' hl']at sK;have h1:=(S.om l' x' BA).qP sK
   grind [qC.env]
  ·rfl
 ·intro l x b o hx hb;have hb:x.block (U' l) b:=hb;rcases n9 l x hx with⟨hl,hx⟩|⟨rfl,rfl⟩
  ·rw[hφ l hl]at hb;exact S.uh l x b o hx hb
  ·intro hA;have h1:=C.hA _ _ hA;have h2:=GH b hb;have:=S.size;omega
 ·intro b i hb hm;rw[ud b i (aa hb S.size)];exact S.old b i hb hm
 ·intro b hb hm;rw[hold b (aa hb S.size)];exact S.n8 b hb hm
 ·intro l x b o hx hm hb;have hm:x.Bk (U' l) b o:=hm;rcases n9 l x hx with⟨hl,hx⟩|⟨rfl,rfl⟩
  ·rw[hφ l hl]at hm;exact S.Cn l x b o hx hm hb
  ·have h2:=GH b (j5.ot hm);have:=S.size;omega
 ·intro x hx hm0;exact(xa w (.map #[] 0) (by intro c t lo hi h;cases h) x).trans (S.wZ x hx hm0)
 ·intro l hl;have sJ:l<J.heap.length:=by have:=S.low;omega
  have:=S.mA l hl
  grind
def nF.aGX(S:nF C U J a w)(s:ByteArray):
 nF C (fun l=>if l=J.heap.length then .pointer (some ⟨w.heap.size,0,none⟩)else U l) {J with heap:=J.heap++[.iter s 0]} a (World.more w (.stringIter s 0)):=by
 let U':Nat->aRu:=fun l=>if l=J.heap.length then .pointer (some ⟨w.heap.size,0,none⟩)else U l
 let w':=World.more w (.stringIter s 0)
 have hφ:∀l,l<J.heap.length->U' l=U l:=fun l hl=>by grind
 have hφn:U' J.heap.length=.pointer (some ⟨w.heap.size,0,none⟩):=by simp [U']
 have hsz:w'.heap.size=w.heap.size+1:=Vy _ _;have hold:∀b,b<w.heap.size->w'.heap[b]? =w.heap[b]? :=fun b hb=>yZ _ _ hb
 have hL:w'.heap[w.heap.size]? =some (.stringIter s 0):=Jz _ _
 have n9:∀(l:Nat)(x:j5),(J.heap++[.iter s 0])[l]? =some x->(l<J.heap.length/\J.heap[l]? =some x)\/(l=J.heap.length/\x=.iter s 0):=by
  grind
 have ud:∀b o,b<w.heap.size->w'.cell? ⟨b,o,none⟩=w.cell? ⟨b,o,none⟩:=by
  grind [World.cell?]
 have GH:∀b,(j5.iter s 0).block (U' J.heap.length) b->w.heap.size<=b:=by
  intro b hb;rw[hφn]at hb;have hb:b=w.heap.size:=hb;omega
 have OC:∀b o,GJ U' (J.heap++[.iter s 0]) b o->w.heap.size<=b\/GJ U J.heap b o:=by
  rintro b o ⟨l,x,hx,hm⟩;rcases n9 l x hx with⟨hl,hx⟩|⟨rfl,rfl⟩
  ·rw[hφ l hl]at hm;exact .inr ⟨l,x,hx,hm⟩
  grind [j5.ot]
 have le:(C.env U J.heap w).Le J.heap.length (C.env U' (J.heap++[.iter s 0]) w'):=by
  refine qC.CU (by simp) (fun l hl=>⟨hφ l hl,by rw[az hl]⟩) (fun b i u hm hc=>?_)
  grind [F6]
 have B1:tv C U' (J.heap++[.iter s 0]) w' J.df a.defers:=by
  refine S.defers.step le (fun b hb _=>hold b hb) (fun l x b hx hb=>?_)
  grind
 refine {j9:=kP.mono le _ _ (kP.nb _ _ S.j9) S.j9,defers:=B1,om:=?_,apart:=?_,uh:=?_,size:=by show _<=w'.heap.size;have:=S.size;omega,old:=?_,n8:=?_,Cn:=?_,wZ:=?_,rest:=S.rest,low:=⟨S.low.1,by have:=S.low.2;simp;omega⟩,mA:=?_}
 ·intro l x hx;show oP _ x (U' l);rcases n9 l x hx with⟨hl,hx⟩|⟨rfl,rfl⟩
  ·have r0:=S.om l x hx;rw[hφ l hl];exact oP.mono r0 le (fun b hb=>hold b (r0.qP hb))
  ·rw[hφn];exact⟨w.heap.size,rfl,hL⟩
 ·intro l l' x x' b hx BA hb sK;have hb:x.block (U' l) b:=hb;have sK:x'.block (U' l') b:=sK;rcases n9 l x hx with⟨hl,hx⟩|⟨rfl,rfl⟩<;>rcases n9 l' x' BA with⟨hl',BA⟩|⟨rfl,rfl⟩
  ·rw[hφ l hl]at hb;rw[hφ l' hl']at sK;exact S.apart l l' x x' b hx BA hb sK
  ·rw[hφ l hl]at hb;have h1:=(S.om l x hx).qP hb
   grind [qC.env]
  ·rw[hφ l' hl']at sK;have h1:=(S.om l' x' BA).qP sK
   grind [qC.env]
  ·rfl
 ·intro l x b o hx hb;have hb:x.block (U' l) b:=hb;rcases n9 l x hx with⟨hl,hx⟩|⟨rfl,rfl⟩
  ·rw[hφ l hl]at hb;exact S.uh l x b o hx hb
  ·intro hA;have h1:=C.hA _ _ hA;have h2:=GH b hb;have:=S.size;omega
 ·intro b i hb hm;rw[ud b i (aa hb S.size)];exact S.old b i hb hm
 ·intro b hb hm;rw[hold b (aa hb S.size)];exact S.n8 b hb hm
 ·intro l x b o hx hm hb;have hm:x.Bk (U' l) b o:=hm;rcases n9 l x hx with⟨hl,hx⟩|⟨rfl,rfl⟩
  ·rw[hφ l hl]at hm;exact S.Cn l x b o hx hm hb
  ·have h2:=GH b (j5.ot hm);have:=S.size;omega
 ·intro x hx hm0;exact(xa w (.stringIter s 0) (by intro c t lo hi h;cases h) x).trans (S.wZ x hx hm0)
 ·intro l hl;have sJ:l<J.heap.length:=by have:=S.low;omega
  have:=S.mA l hl
  grind
def nF.axi(S:nF C U J a w){r:Nat}{es':List (AV×AV)}{xs xs':Array MapEntry}{cl cl':Nat}(hl:J.heap[l]? =some (.map es))(hφ:U l=.map (some r))
 (hw:w.heap[r]? =some (.map xs cl)) (hr:rJ (C.env U J.heap w) es' xs'.toList):nF C U {J with heap:=J.heap.set l (.map es')} a (w.putObj r (.map xs' cl')):=by
 have sJ:l<J.heap.length:=(aj.1 hl).1;have aGY:=(aK.1 hw).1
 have n9:∀(j:Nat)(x:j5),(J.heap.set l (.map es'))[j]? =some x->(j=l/\x=.map es')\/(j≠l/\J.heap[j]? =some x):=by
  grind
 have hbb:(j5.map es).block (U l) r:=by rw[hφ];rfl
 have hmb:∀o,(j5.map es).Bk (U l) r o:=by intro o;rw[hφ];rfl
 have Ed:∀b,b≠r->(w.putObj r (.map xs' cl')).heap[b]? =w.heap[b]? :=fun b hb=>World.putObj_heap_other hb
 have ud:∀b o,(w.putObj r (.map xs' cl')).cell? ⟨b,o,none⟩=w.cell? ⟨b,o,none⟩:=by
  grind [World.cell?,World.putObj_heap_same]
 have I4:∀b,(j5.map es').block (U l) b->(j5.map es).block (U l) b:=by intro b hb;rw[hφ]at hb ⊢;exact hb
 have azj:∀b o,(j5.map es').Bk (U l) b o->(j5.map es).Bk (U l) b o:=by intro b o hb;rw[hφ]at hb ⊢;exact hb
 have OC:∀b o,GJ U (J.heap.set l (.map es')) b o->GJ U J.heap b o:=by
  rintro b o ⟨j,x,hx,hm⟩;rcases n9 j x hx with⟨rfl,rfl⟩|⟨_,hx⟩
  ·exact⟨j,_,hl,azj b o hm⟩
  ·exact⟨j,x,hx,hm⟩
 have hlen:∀j:Nat,mR (J.heap.set l (.map es'))[j]? =mR J.heap[j]? :=by
  intro j;by_cases e:j=l
  ·subst e;rw[aR sJ,hl];rfl
  grind
 have hty:tyk w (w.putObj r (.map xs' cl')):=aw8 hw (by intro c t fz h;cases h) Ed
 have le:(C.env U J.heap w).Le J.heap.length (C.env U (J.heap.set l (.map es')) (w.putObj r (.map xs' cl'))):=
  qC.CU (by simp) (fun j _=>⟨rfl,hlen j⟩) (fun b o u hm hc=>⟨fun h=>hm (h.imp (OC b o) id),by rw[ud];exact hc⟩)
 have B1:tv C U (J.heap.set l (.map es')) (w.putObj r (.map xs' cl')) J.df a.defers:=by
  refine S.defers.step le (fun b _ hno=>Ed b (fun e=>by subst e;exact hno l _ hl hbb)) (fun j x b hx hb=>?_)
  grind
 refine {j9:=kP.mono le _ _ (kP.nb _ _ S.j9) S.j9,defers:=B1,om:=?_,apart:=?_,uh:=?_,size:=by rw[World.putObj_size];exact S.size,old:=fun b o hb hm=>by rw[ud];exact S.old b o hb hm,n8:=?_,Cn:=?_,wZ:=?_,rest:=S.rest,low:=⟨S.low.1,by simpa using S.low.2⟩,mA:=?_}
 ·intro j x hx;rcases n9 j x hx with⟨rfl,rfl⟩|⟨sv,hx⟩
  ·exact⟨r,xs',cl',hφ,World.putObj_heap_same aGY,rJ.mono le (rJ.nb hr) hr⟩
  ·exact oP.mono (S.om j x hx) le (fun b hb=>Ed b (fun e=>by subst e;exact sv (S.apart j l x _ b hx hl hb hbb)))
 ·intro j j' x x' b hx BA hb sK;rcases n9 j x hx with⟨rfl,rfl⟩|⟨sv,Zp⟩<;>rcases n9 j' x' BA with⟨e2,rfl⟩|⟨auG,aQK⟩
  ·exact e2.symm
  ·exact S.apart j j' _ x' b hl aQK (I4 b hb) sK
  ·rw[e2]at sK ⊢;exact S.apart j l x _ b Zp hl hb (I4 b sK)
  ·exact S.apart j j' x x' b Zp aQK hb sK
 ·intro j x b o hx hb;rcases n9 j x hx with⟨rfl,rfl⟩|⟨_,hx⟩
  ·exact S.uh j _ b o hl (I4 b hb)
  ·exact S.uh j x b o hx hb
 ·intro b hb hm;rw[Ed b (fun e=>by subst e;exact hm 0 (S.Cn l _ b 0 hl (hmb 0) hb))];exact S.n8 b hb hm
 ·intro j x b o hx hm hb;rcases n9 j x hx with⟨rfl,rfl⟩|⟨_,hx⟩
  ·exact S.Cn j _ b o hl (azj b o hm) hb
  ·exact S.Cn j x b o hx hm hb
 ·intro x hx hm0;rw[<-S.wZ x hx hm0]
  grind [World.frozen?,World.putObj_heap_same]
 ·intro j hj;have:=S.mA j hj;rw[hlen j];exact this
def nF.aJf(S:nF C U J a w){r:Nat}{s':ByteArray}{p p':Nat}(hl:J.heap[l]? =some (.iter s p))(hφ:U l=.pointer (some ⟨r,0,none⟩))
 (hw:w.heap[r]? =some (.stringIter s p)):nF C U {J with heap:=J.heap.set l (.iter s' p')} a (w.putObj r (.stringIter s' p')):=by
 have sJ:l<J.heap.length:=(aj.1 hl).1;have aGY:=(aK.1 hw).1
 have n9:∀(j:Nat)(x:j5),(J.heap.set l (.iter s' p'))[j]? =some x->(j=l/\x=.iter s' p')\/(j≠l/\J.heap[j]? =some x):=by
  grind
 have hbb:(j5.iter s p).block (U l) r:=by rw[hφ];rfl
 have hmb:∀o,(j5.iter s p).Bk (U l) r o:=by intro o;rw[hφ];rfl
 have Ed:∀b,b≠r->(w.putObj r (.stringIter s' p')).heap[b]? =w.heap[b]? :=fun b hb=>World.putObj_heap_other hb
 have ud:∀b o,(w.putObj r (.stringIter s' p')).cell? ⟨b,o,none⟩=w.cell? ⟨b,o,none⟩:=by
  grind [World.cell?,World.putObj_heap_same]
 have I4:∀b,(j5.iter s' p').block (U l) b->(j5.iter s p).block (U l) b:=by intro b hb;rw[hφ]at hb ⊢;exact hb
 have azj:∀b o,(j5.iter s' p').Bk (U l) b o->(j5.iter s p).Bk (U l) b o:=by intro b o hb;rw[hφ]at hb ⊢;exact hb
 have OC:∀b o,GJ U (J.heap.set l (.iter s' p')) b o->GJ U J.heap b o:=by
  rintro b o ⟨j,x,hx,hm⟩;rcases n9 j x hx with⟨rfl,rfl⟩|⟨_,hx⟩
  ·exact⟨j,_,hl,azj b o hm⟩
  ·exact⟨j,x,hx,hm⟩
 have hlen:∀j:Nat,mR (J.heap.set l (.iter s' p'))[j]? =mR J.heap[j]? :=by
  intro j;by_cases e:j=l
  ·subst e;rw[aR sJ,hl];rfl
  grind
 have hty:tyk w (w.putObj r (.stringIter s' p')):=aw8 hw (by intro c t fz h;cases h) Ed
 have le:(C.env U J.heap w).Le J.heap.length (C.env U (J.heap.set l (.iter s' p')) (w.putObj r (.stringIter s' p'))):=
  qC.CU (by simp) (fun j _=>⟨rfl,hlen j⟩) (fun b o u hm hc=>⟨fun h=>hm (h.imp (OC b o) id),by rw[ud];exact hc⟩)
 have B1:tv C U (J.heap.set l (.iter s' p')) (w.putObj r (.stringIter s' p')) J.df a.defers:=by
  refine S.defers.step le (fun b _ hno=>Ed b (fun e=>by subst e;exact hno l _ hl hbb)) (fun j x b hx hb=>?_)
  grind
 refine {j9:=kP.mono le _ _ (kP.nb _ _ S.j9) S.j9,defers:=B1,om:=?_,apart:=?_,uh:=?_,size:=by rw[World.putObj_size];exact S.size,old:=fun b o hb hm=>by rw[ud];exact S.old b o hb hm,n8:=?_,Cn:=?_,wZ:=?_,rest:=S.rest,low:=⟨S.low.1,by simpa using S.low.2⟩,mA:=?_}
 ·intro j x hx;rcases n9 j x hx with⟨rfl,rfl⟩|⟨sv,hx⟩
  ·exact⟨r,hφ,World.putObj_heap_same aGY⟩
  ·exact oP.mono (S.om j x hx) le (fun b hb=>Ed b (fun e=>by subst e;exact sv (S.apart j l x _ b hx hl hb hbb)))
 ·intro j j' x x' b hx BA hb sK;rcases n9 j x hx with⟨rfl,rfl⟩|⟨sv,Zp⟩<;>rcases n9 j' x' BA with⟨e2,rfl⟩|⟨auG,aQK⟩
  ·exact e2.symm
  ·exact S.apart j j' _ x' b hl aQK (I4 b hb) sK
  ·rw[e2]at sK ⊢;exact S.apart j l x _ b Zp hl hb (I4 b sK)
  ·exact S.apart j j' x x' b Zp aQK hb sK
 ·intro j x b o hx hb;rcases n9 j x hx with⟨rfl,rfl⟩|⟨_,hx⟩
  ·exact S.uh j _ b o hl (I4 b hb)
  ·exact S.uh j x b o hx hb
 ·intro b hb hm;rw[Ed b (fun e=>by subst e;exact hm 0 (S.Cn l _ b 0 hl (hmb 0) hb))];exact S.n8 b hb hm
 ·intro j x b o hx hm hb;rcases n9 j x hx with⟨rfl,rfl⟩|⟨_,hx⟩
  ·exact S.Cn j _ b o hl (azj b o hm) hb
  ·exact S.Cn j x b o hx hm hb
 ·intro x hx hm0;rw[<-S.wZ x hx hm0]
  grind [World.frozen?,World.putObj_heap_same]
 ·intro j hj;have:=S.mA j hj;rw[hlen j];exact this
def aB6(S:nF C U J a w){e:vF}(h:ajy l J.heap[l]? =some e)(hv:pm (C.env U J.heap w) (.ptr l 0) v):
 ∃u w',(bW v true ty).run C.P w=.ok u w'/\pm (C.env U (ni J.heap e.up) w') e.val u/\nF C U {J with heap:=ni J.heap e.up} a w'/\e.nw=[]:=by
 unfold ajy at h;split at h
 ·rename_i s p hl;obtain⟨b,hφ,hb⟩:=S.om l _ hl;have hb:w.heap[b]? =some (.stringIter s p):=hb;obtain⟨sJ,b',hφ',rfl⟩:=hv;have hφ':U l=.pointer (some ⟨b',0,none⟩):=hφ';have hbb:b'=b:=by grind
  subst hbb;split at h
  ·rename_i hp;cases h;have hb2:=(aK.1 hb).1;refine⟨.tuple #[.bool true,goInt p,.int .i32 (Utf8.decode s p).1],w.putObj b' (.stringIter s (p+(Utf8.decode s p).2)),?_,?_,S.aJf hl hφ hb,rfl⟩
   ·simp [bW,getObj,setObj,Sem.run,hb,hp,World.putObj,ar]
   ·exact⟨_,rfl,_,_,rfl,rfl,_,_,rfl,rfl,_,_,rfl,rfl,rfl⟩
  ·rename_i hp;cases h;refine⟨.tuple #[.bool false],w,?_,⟨_,rfl,_,_,rfl,rfl,rfl⟩,by simpa [ni] using S,rfl⟩;simp [bW,getObj,Sem.run,hb,hp,ar]
 ·cases h
def axj{z:AV}(h:tz1 P t=some z):∃v,(zeroValue t).run P w=.ok v w/\∀E,pm E z v:=by
 unfold tz1 at h;cases hi:P.info? t with
 |none=>simp [hi]at h
 |some i=>
  simp only[hi]at h;split at h
  ·rename_i b hz;cases h;exact⟨.bool b,by simp [zeroValue,typeInfo,hi,hz],fun E=>rfl⟩
  ·rename_i k n hz;cases h;exact⟨.int k n,by simp [zeroValue,typeInfo,hi,hz],fun E=>rfl⟩
  ·rename_i s hz;cases h;exact⟨.string s,by simp [zeroValue,typeInfo,hi,hz],fun E=>rfl⟩
  ·rename_i vs hz;cases h;exact⟨.agg vs,by simp [zeroValue,typeInfo,hi,hz],fun E=>⟨vs,rfl,ade E _⟩⟩
  ·cases h
def ar6{z:AV}(h:aeQ P t=some z):∃k e,P.underlying t=some (.map k e)/\P.underlying k=some .string/\tz1 P e=some z:=by
 grind [aeQ]
def arL{E:CS}{s:ByteArray}{v:AV}{u:aRu}(hv:pm E v u): ∀(es:List (AV×AV))(xs:List MapEntry)(i:Nat),Sj es=true->rJ E es xs->
 (∃j x e,zn s es=some x/\ax .string (.string s) xs i=some (some (i+j,e.val))/\xs[j]? =some e/\e.key=.string s/\pm E x e.val/\rJ E (PO s v es) (xs.modify j fun e=>{e with key:=.string s,val:=u}))\/
 (zn s es=none/\ax .string (.string s) xs i=some none/\∀b,rJ E (PO s v es) (xs++[{key:=.string s,val:=u,born:=b}]))
 |[],_,i,_,rfl=>.inr ⟨rfl,rfl,fun b=>⟨_,[],rfl,rfl,hv,rfl⟩⟩
 |(k,x)::es,xs,i,hs,⟨e,r,hx,r1,r2,r3⟩=>by
  subst hx;cases k with
  |str b=>
   have hs':Sj es=true:=hs;have hk:e.key=.string b:=r1;cases hb:s==b with
   |true=>
    have hsb:s=b:=(bytes_beq s b).1 hb;subst hsb;refine .inl ⟨0,x,e,?_,?_,rfl,hk,r2,?_⟩
    ·simp only[zn,hb,jE]
    ·grind [ax,aW]
    ·simp only[PO,hb,jE];exact⟨_,r,rfl,rfl,hv,r3⟩
   |false=>
    rcases arL hv es r (i+1) hs' r3 with⟨j,x',e',h1,h2,h3,h4,h5,h6⟩|⟨h1,h2,h3⟩
    ·refine .inl ⟨j+1,x',e',?_,?_,by simpa using h3,h4,h5,?_⟩
     ·grind [zn]
     ·grind [ax,aW]
     ·simp only[PO,hb,jF,bK];exact⟨e,_,rfl,r1,r2,h6⟩
    ·refine .inr ⟨?_,?_,fun q=>?_⟩
     ·grind [zn]
     ·grind [ax,aW]
     ·simp only[PO,hb,jF,List.cons_append];exact⟨e,_,rfl,r1,r2,h3 q⟩
  |_=>cases hs
def axk(S:nF C U J a w){z:AV}(ht:aeQ C.P t=some z)(hl:J.heap[l]? =some (.map es))(hs:Sj es=true)
 (hv:pm (C.env U J.heap w) (.map l) v):∃u,(aJ t v (.string s) false).run C.P w=.ok u w/\pm (C.env U J.heap w) ((zn s es).getD z) u:=by
 obtain⟨kt,et,hu,hk,hz⟩:=ar6 ht;obtain⟨zv,hzr,hzE⟩:=axj (w:=w) hz;obtain⟨r,xs,cl,hφ,hb,tD⟩:=S.om l _ hl;have hb:w.heap[r]? =some (.map xs cl):=hb;obtain⟨_,rfl,_⟩:=hv;have hφ':(C.env U J.heap w).U l=.map (some r):=hφ;rw[hφ'];have hck:=run_checkKey (P:=C.P) (w:=w) hk (d:=.string) (k:=.string s) trivial xs.isEmpty 9999;rcases arL (s:=s) (v:=.any) (u:=undef) (E:=C.env U J.heap w) trivial es xs.toList 0 hs tD with⟨j,x,e,h1,h2,_,_,h5,_⟩|⟨h1,h2,_⟩
 ·refine⟨e.val,?_,by rw[h1];exact h5⟩;simp [aJ,run_underlying hu,ak hb,hck,run_findKey hk h2,ar]
 ·refine⟨zv,?_,by rw[h1];exact hzE _⟩;simp [aJ,run_underlying hu,ak hb,hck,run_findKey hk h2,hzr,ar]
def ar7(S:nF C U J a w){z:AV}(ht:aeQ C.P t=some z)(hl:J.heap[l]? =some (.map es))(hs:Sj es=true)
 (hv:pm (C.env U J.heap w) (.map l) v):∃u,∃_:Unit,(aJ t v (.string s) true).run C.P w=.ok u w/\pm (C.env U J.heap w) (av5 z l (zn s es)).val u:=by
 obtain⟨kt,et,hu,hk,hz⟩:=ar6 ht;obtain⟨zv,hzr,hzE⟩:=axj (w:=w) hz;obtain⟨r,xs,cl,hφ,hb,tD⟩:=S.om l _ hl;have hb:w.heap[r]? =some (.map xs cl):=hb;obtain⟨_,rfl,_⟩:=hv;have hφ':(C.env U J.heap w).U l=.map (some r):=hφ;rw[hφ'];have hck:=run_checkKey (P:=C.P) (w:=w) hk (d:=.string) (k:=.string s) trivial xs.isEmpty 9999;rcases arL (s:=s) (v:=.any) (u:=undef) (E:=C.env U J.heap w) trivial es xs.toList 0 hs tD with⟨j,x,e,h1,h2,_,_,h5,_⟩|⟨h1,h2,_⟩
 ·refine⟨.tuple #[e.val,.bool true],(),?_,by rw[h1];exact⟨_,rfl,_,_,rfl,h5,_,_,rfl,rfl,rfl⟩⟩;simp [aJ,run_underlying hu,ak hb,hck,run_findKey hk h2,ar]
 ·refine⟨.tuple #[zv,.bool false],(),?_,by rw[h1];exact⟨_,rfl,_,_,rfl,hzE _,_,_,rfl,rfl,rfl⟩⟩;simp [aJ,run_underlying hu,ak hb,hck,run_findKey hk h2,hzr,ar]
def aeU(S:nF C U J a w){z:AV}(ht:aeQ C.P t=some z)(hl:J.heap[l]? =some (.map es))(hs:Sj es=true)
 (hv:pm (C.env U J.heap w) (.map l) v) (hy:pm (C.env U J.heap w) y u):∃w',(aQ t v (.string s) u).run C.P w=.ok () w'/\nF C U {J with heap:=J.heap.set l (.map (PO s y es))} a w':=by
 obtain⟨kt,et,hu,hk,hz⟩:=ar6 ht;obtain⟨r,xs,cl,hφ,hb,tD⟩:=S.om l _ hl;have hb:w.heap[r]? =some (.map xs cl):=hb;obtain⟨_,rfl,_⟩:=hv;have hφ':(C.env U J.heap w).U l=.map (some r):=hφ;rw[hφ'];have hck:=run_checkKey (P:=C.P) (w:=w) hk (d:=.string) (k:=.string s) trivial false 9999;rcases arL (s:=s) (v:=y) (u:=u) (E:=C.env U J.heap w) hy es xs.toList 0 hs tD with⟨j,x,e,h1,h2,h3,h4,_,h6⟩|⟨h1,h2,h3⟩
 ·have hj:xs[j]? =some e:=by simpa using h3
  have h2':ax .string (.string s) xs.toList 0=some (some (j,e.val)):=by simpa using h2
  refine⟨w.putObj r (.map (xs.modify j fun e=>{e with key:=.string s,val:=u}) cl),?_,S.axi hl hφ hb ?_⟩
  ·simp [aQ,run_underlying hu,ak hb,hck,run_findKey hk h2',hj,h4,run_keyThatStays (d:=.string) (k:=.string s) trivial,run_setObj_map _ hb,ar,World.putObj]
  grind
 ·refine⟨w.putObj r (.map (xs.push {key:=.string s,val:=u,born:=cl}) (cl+1)),?_,S.axi hl hφ hb ?_⟩
  ·simp [aQ,run_underlying hu,ak hb,hck,run_findKey hk h2,run_setObj_map _ hb,ar,World.putObj]
  grind
def azk(h:apS P t=true):∃k e,P.underlying t=some (.map k e)/\P.underlying k=some (.int .i64)/\tz1 P e=some (.int .i64 0):=by
 unfold apS at h;split at h
 ·rename_i k e hu;split at h
  ·rename_i h1 h2;exact⟨k,e,hu,h1,h2⟩
  ·cases h
 ·cases h
def ar8{E:CS}{n m:Int}: ∀(ms:List (Int×Int))(xs:List MapEntry)(i:Nat),rJ E (auE ms) xs->
 (∃j x e,aeR n ms=some x/\ax (.int .i64) (.int .i64 n) xs i=some (some (i+j,e.val))/\xs[j]? =some e/\e.key=.int .i64 n/\e.val=.int .i64 x/\rJ E (auE (axb n m ms)) (xs.modify j fun e=>{e with key:=.int .i64 n,val:=.int .i64 m}))\/
 (aeR n ms=none/\ax (.int .i64) (.int .i64 n) xs i=some none/\∀b,rJ E (auE (axb n m ms)) (xs++[{key:=.int .i64 n,val:=.int .i64 m,born:=b}]))
 |[],_,i,rfl=>.inr ⟨rfl,rfl,fun b=>⟨_,[],rfl,rfl,rfl,rfl⟩⟩
 |(k,x)::ms,xs,i,⟨e,r,hx,r1,r2,r3⟩=>by
  subst hx;have hk:e.key=.int .i64 k:=r1;have hv:e.val=.int .i64 x:=r2;cases hb:n==k with
  |true=>
   have hsb:n=k:=jL.1 hb;subst hsb;refine .inl ⟨0,x,e,?_,?_,rfl,hk,hv,?_⟩
   ·simp only[aeR,hb,jE]
   ·grind [ax,aW]
   ·simp only[axb,hb,jE];exact⟨_,r,rfl,rfl,rfl,r3⟩
  |false=>
   rcases ar8 (n:=n) (m:=m) ms r (i+1) r3 with⟨j,x',e',h1,h2,h3,h4,h5,h6⟩|⟨h1,h2,h3⟩
   ·refine .inl ⟨j+1,x',e',?_,?_,by simpa using h3,h4,h5,?_⟩
    ·simp only[aeR,hb,jF,h1]
    ·grind [ax,aW]
    ·simp only[axb,hb,jF,bK];exact⟨e,_,rfl,r1,r2,h6⟩
   ·refine .inr ⟨?_,?_,fun q=>?_⟩
    ·simp only[aeR,hb,jF,h1]
    ·grind [ax,aW]
    ·simp only[axb,hb,jF,List.cons_append];exact⟨e,_,rfl,r1,r2,h3 q⟩
theorem ajA:∀{es:List (AV×AV)}{ms:List (Int×Int)},agG es=some ms->es=auE ms
 |[],ms,h=>by simp only[agG,ah]at h;subst h;rfl
 |(k,v)::es,ms,h=>by
  unfold agG at h;split at h
  ·rename_i h0;cases h0
  ·rename_i x y zs h0;cases h0;simp only[aH]at h;obtain⟨ys,hy,rfl⟩:=h;rw[ajA hy];rfl
  ·cases h
def aqA(S:nF C U J a w){n:Int}(ht:apS C.P t=true)(hl:J.heap[l]? =some (.map (auE ms)))
 (hv:pm (C.env U J.heap w) (.map l) v):∃u,(aJ t v (.int .i64 n) true).run C.P w=.ok u w/\pm (C.env U J.heap w) (.I3 [.int .i64 ((aeR n ms).getD 0),.bool (aeR n ms).isSome]) u:=by
 obtain⟨kt,et,hu,hk,hz⟩:=azk ht;obtain⟨zv,hzr,hzE⟩:=axj (w:=w) hz;obtain⟨r,xs,cl,hφ,hb,tD⟩:=S.om l _ hl;have hb:w.heap[r]? =some (.map xs cl):=hb;obtain⟨_,rfl,_⟩:=hv;have hφ':(C.env U J.heap w).U l=.map (some r):=hφ;rw[hφ'];have hck:=run_checkKey (P:=C.P) (w:=w) hk (d:=.int .i64) (k:=.int .i64 n) (by simp [IsKey]) xs.isEmpty 9999;rcases ar8 (n:=n) (m:=0) (E:=C.env U J.heap w) ms xs.toList 0 tD with⟨j,x,e,h1,h2,_,_,h5,_⟩|⟨h1,h2,_⟩
 ·refine⟨.tuple #[e.val,.bool true],?_,by rw[h1,h5];exact⟨_,rfl,_,_,rfl,rfl,_,_,rfl,rfl,rfl⟩⟩;simp [aJ,run_underlying hu,ak hb,hck,run_findKey hk h2,ar]
 ·refine⟨.tuple #[zv,.bool false],?_,by rw[h1];exact⟨_,rfl,_,_,rfl,hzE _,_,_,rfl,rfl,rfl⟩⟩;simp [aJ,run_underlying hu,ak hb,hck,run_findKey hk h2,hzr,ar]
def aa3(S:nF C U J a w){n:Int}(ht:apS C.P t=true)(hl:J.heap[l]? =some (.map (auE ms)))
 (hv:pm (C.env U J.heap w) (.map l) v):∃w',(aQ t v (.int .i64 n) (.int .i64 m)).run C.P w=.ok () w'/\nF C U {J with heap:=J.heap.set l (.map (auE (axb n m ms)))} a w':=by
 obtain⟨kt,et,hu,hk,hz⟩:=azk ht;obtain⟨r,xs,cl,hφ,hb,tD⟩:=S.om l _ hl;have hb:w.heap[r]? =some (.map xs cl):=hb;obtain⟨_,rfl,_⟩:=hv;have hφ':(C.env U J.heap w).U l=.map (some r):=hφ;rw[hφ'];have hck:=run_checkKey (P:=C.P) (w:=w) hk (d:=.int .i64) (k:=.int .i64 n) (by simp [IsKey]) false 9999;rcases ar8 (n:=n) (m:=m) (E:=C.env U J.heap w) ms xs.toList 0 tD with⟨j,x,e,h1,h2,h3,h4,_,h6⟩|⟨h1,h2,h3⟩
 ·have hj:xs[j]? =some e:=by simpa using h3
  have h2':ax (.int .i64) (.int .i64 n) xs.toList 0=some (some (j,e.val)):=by simpa using h2
  refine⟨w.putObj r (.map (xs.modify j fun e=>{e with key:=.int .i64 n,val:=.int .i64 m}) cl),?_,S.axi hl hφ hb ?_⟩
  ·simp [aQ,run_underlying hu,ak hb,hck,run_findKey hk h2',hj,h4,run_keyThatStays (d:=.int .i64) (k:=.int .i64 n) (by simp [IsKey]),run_setObj_map _ hb,ar,World.putObj]
  grind
 ·refine⟨w.putObj r (.map (xs.push {key:=.int .i64 n,val:=.int .i64 m,born:=cl}) (cl+1)),?_,S.axi hl hφ hb ?_⟩
  ·simp [aQ,run_underlying hu,ak hb,hck,run_findKey hk h2,run_setObj_map _ hb,ar,World.putObj]
  grind
end
def aFd:∀{ms:List Int}{i:Nat}{m:Int},amC cs=some ms->ms[i]? =some m->cs[i]? =some (.int .i64 m):=by
 induction cs with
 |nil=>intro ms i m h hm;simp only[amC,ah]at h;subst h;simp at hm
 |cons c cs ih=>
  intro ms i m h hm;unfold amC at h;split at h
  ·rename_i h0;cases h0
  ·rename_i n xs h0;cases h0;simp only[aH]at h;obtain⟨ys,hy,rfl⟩:=h;cases i with
   |zero=>simp only[aF,ah]at hm ⊢;subst hm;rfl
   |succ i=>simp only[aZ]at hm ⊢;exact ih hy hm
  ·cases h
def aFe{len:Nat}{ms:List Int}{n:Int}(ht:apT C.P t=some len)(hi:amC cs=some ms)(h0:0<=n)(hl:n<len)(hm:ms[n.toNat]? =some m)
 (hx:pm E (.agg cs) v) (hu:pm E (.int k n) u):(bD t v u).run C.P w=.ok (.int .i64 m) w:=by
 obtain⟨vs,rfl,rl⟩:=hx;simp only[pm]at hu;subst hu;obtain⟨x,Zp,aQK⟩:=rl.get (aFd hi hm);simp only[pm]at aQK;subst aQK;unfold apT at ht;split at ht
 ·rename_i n' e hue;split at ht
  ·rename_i hie;simp only[ah]at ht;subst ht;have hg:vs[n.toNat]? =some (.int .i64 m):=by simpa using Zp
   obtain⟨r1,r2⟩:=K9 (C:=C) (w:=w) hie;simp [bD,asIntOf,run_underlying hue,h0,hl,part,r1,r2,hg]
  ·cases ht
 ·cases ht
def aB7(hE:E.w=w){s d e:aRy}{bytes:Nat}{n:Int}(ht:l8 C.P s=some (e,1,bytes))(he:arY C.P e=some .u8)(hd:pg C.P d=true){z:Nat}(hx:pm E (.kF tt z [[.int .u8 n]]) v):
 (convert s d v).run C.P w=.ok (.string ⟨[UInt8.ofNat n.toNat].toArray⟩) w:=by
 obtain⟨hu,i,hi,h1,rfl⟩:=Mn ht;obtain⟨base,cap,rfl,h2,h3,h4,h5,h6⟩:=hx;cases base with
 |none=>have:=h4 rfl;simp only[aG,bB]at h2;omega
 |some a=>
  have hsp:=h5 a rfl (by simp);obtain⟨hz,⟨⟨_,u,hu1,_,hu2⟩,_⟩,_⟩:=h6 a rfl;simp only[aG,bB]at hz;subst hz;simp only[pm]at hu2;subst hu2;have ha:a=⟨a.block,a.off,none⟩:=by cases a;simp_all
  have hl:=run_loadCells_list (P:=C.P) w a [.int .u8 n] (fun j v hj=>by
   match j,hj with
   |0,hj=>simp only[aF,ah]at hj;subst hj;rw[ha,Ae,bt,<-hE];exact hu1
   |j+1,hj=>simp at hj)
  simp only[aG,bB]at hl ⊢;have hd':=ajz hd;have he':=axg he;simp [convert,run_underlying hu,run_underlying hd',run_underlying he',Conv.bytesToString,hl];rfl
section sound
variable {a:Act}
def azl(S:nF C U J a w)(ht:mN C.P t=some (g,n))(hl:J.heap[l]? =some (.cells cs))(hx:kr g n (cs.drop off)=some x)
 (r:pm (C.env U J.heap w) (.ptr l off) v):∃u,(aO t v).run C.P w=.ok u w/\pm (C.env U J.heap w) x u:=by
 obtain⟨_,b,hφ,rfl⟩:=r;obtain⟨b2,c,t2,hφ2,hh,rl,_⟩:=S.om l _ hl;have e:b2=b:=by grind [qC.env]
 subst e;have hi:=K9 (C:=C) (w:=w) ht;obtain⟨u,hu,ru⟩:=adb (P:=C.P) (t:=t) (ar1 hh rl off) hi.1 hi.2 hx
 grind [aO,ay,qC.env]
def ajB(S:nF C U J a w): ∀{cs ds:List AV}{ns:List Nat}{vs:List aRu},vwL J.heap cs=some (ds,ns)->kP (C.env U J.heap w) cs vs->kP (C.env U J.heap w) ds vs
 |[],_,_,_,h,r=>by grind [vwL]
 |c::cs,ds,ns,vs,h,⟨u,us,hv,r1,r2⟩=>by
  unfold vwL at h;split at h
  ·cases ‹_::_=[]›
  ·rename_i l n cs' heq;simp only[aX]at heq;obtain⟨rfl,rfl⟩:=heq;split at h
   ·rename_i ub sz rows hl;split at h
    ·rename_i hn;split at h
     ·rename_i es ms he;simp only[ah,a8]at h;obtain⟨rfl,_⟩:=h;cases ub with
      |false=>exact⟨u,us,hv,r1,ajB S he r2⟩
      |true=>
       have hu:=Qm S hl hn r1;subst hu;exact⟨_,us,hv,agJ S hl,ajB S he r2⟩
     ·cases h
    ·cases h
   ·cases h
  ·rename_i c' cs' _ heq;simp only[aX]at heq;obtain⟨rfl,rfl⟩:=heq;split at h
   ·rename_i es ms he;simp only[ah,a8]at h;obtain⟨rfl,_⟩:=h;exact⟨u,us,hv,r1,ajB S he r2⟩
   ·cases h
def aFf(S:nF C U J a w){v:AV}{e:vF}(h:ldV J.heap l v=some e)(r:pm (C.env U J.heap w) v u):e.up=[]/\e.nw=[]/\e.pre=True/\pm (C.env U J.heap w) e.val u:=by
 unfold ldV at h;split at h
 ·split at h
  ·rename_i ds ns he;cases h;obtain⟨vs,hv,rl⟩:=r;exact⟨rfl,rfl,rfl,vs,hv,ajB S he rl⟩
  ·cases h
 grind
theorem aJg(ht:mN C.P t=some (g,n))(hx:kr g n cs=some x)
 (r:pm (C.env U J.heap w) (.pp cs) v):∃u,(aO t v).run C.P w=.ok u w/\pm (C.env U J.heap w) x u:=by
 obtain⟨b,off,rfl,rm⟩:=r;have hi:=K9 (C:=C) (w:=w) ht;obtain⟨u,hu,ru⟩:=adb (P:=C.P) (t:=t) (Sk rm) hi.1 hi.2 hx
 grind [aO,ay,qC.env]
def amH{m:Sem W}{f:W->Sem O}{x:W}{r:Result O}(h1:m.run P w=.ok x w)(h2:(f x).run P w=r):(m>>=f).run P w=r:=by
 rw[ai,h1];exact h2
def QO {t':aRy}{x y:aRt}(ht:aBY P t=true):
 ((∀op,(eqGuard op t x y (.iface t' u) .nilIface).run P w=.ok () w)/\∀op,(eqGuard op t x y .nilIface .nilIface).run P w=.ok () w)/\
 ((binOp .eql t (.iface t' u) .nilIface).run P w=.ok (.bool false) w/\(binOp .neq t (.iface t' u) .nilIface).run P w=.ok (.bool true) w)/\
 (binOp .eql t .nilIface .nilIface).run P w=.ok (.bool true) w/\(binOp .neq t .nilIface .nilIface).run P w=.ok (.bool false) w:=by
 unfold aBY at ht;split at ht
 ·rename_i ms hu;obtain⟨d,hd⟩:∃d,Op.maxDepth=d+1:=⟨_,rfl⟩
  have e1:(Op.equal t (.iface t' u) .nilIface).run P w=.ok false w:=by
   simp_all [Op.equal,Op.equalIn,run_underlying]
  have e2:(Op.equal t .nilIface .nilIface).run P w=.ok true w:=by
   unfold Op.equal;simp_all [Op.equalIn,run_underlying]
  have key:(Op.eqGuardIn Op.maxDepth t .nilIface .nilIface).run P w=.ok false w:=by
   simp_all [Op.eqGuardIn,run_underlying]
  have g1:∀op,(eqGuard op t x y (.iface t' u) .nilIface).run P w=.ok () w:=by
   simp_all [eqGuard]
  have hg:∀op,(eqGuard op t x y .nilIface .nilIface).run P w=.ok () w:=by
   simp_all [eqGuard]
  exact⟨⟨g1,hg⟩,⟨amH e1 rfl,amH e1 rfl⟩,amH e2 rfl,amH e2 rfl⟩
 ·cases ht
def aJh {y:aRt}{e:vF}{a:Act}(h:alr P op t x y=some e)(r:pm E x v):
 ∃b,a.eval y=.slice none 0 0/\(do eqGuard op t ox y v (.slice none 0 0);binOp op t v (.slice none 0 0):Sem aRu).run P w=.ok (.bool b) w/\e={val:=.bool b}:=by
 have key:∀(base:Option Addr)(n c:Nat),(l8 P t).isSome=true->(do eqGuard .eql t ox y (.slice base n c) (.slice none 0 0);binOp .eql t (.slice base n c) (.slice none 0 0):Sem aRu).run P w=.ok (.bool base.isNone) w:=by
  intro base n c ht
  obtain⟨e',he'⟩:∃e',P.underlying t=some (.slice e'):=by
   grind [l8]
  exact amH rfl (Lib.run_eql_slice_nil w t e' base n c 0 0 he')
 unfold alr at h;split at h
 ·rename_i base n c;split at h
  ·rename_i ht;cases h;have r:v=_:=r;subst r;exact⟨_,rfl,key base n c ht,rfl⟩
  ·cases h
 ·split at h
  ·rename_i ht;cases h;obtain⟨base,cap,rfl,h2,_,h4,_⟩:=r;refine⟨_,rfl,key base _ cap ht.2,?_⟩;cases base with
   |none=>
    simp_all
   |some a=>rfl
  ·cases h
 ·cases h
theorem oV.take:∀{cs:List AV}{off:Nat}(k:Nat),oV E b off cs->oV E b off (cs.take k)
 |[],_,_,_=>by simp [oV]
 |_::_,_,0,_=>by simp [oV]
 |_::_,_,k+1,⟨h,r⟩=>by
  rw[List.take_succ_cons];exact⟨h,oV.take k r⟩
def ar9{E:CS}{b sz:Nat}:∀{n:Nat}{cs ds:List AV}{off:Nat},VF sz n cs=some ds->oV E b off cs->oV E b (off+n*sz) ds
 |0,cs,ds,off,h,r=>by
  grind [VF,oV.take]
 |n+1,cs,ds,off,h,r=>by
  have:=ar9 (n:=n) h (r.drop sz)
  grind
def Yb (S:nF C U J a w) {e:vF} (h:lG C.P J o.op=some e) (hp:e.pre):Ad C J a w o.dst ((execOp a.eval o).run C.P w) e:=by
 cases ho:o.op with
 |move x=>
  rw[ho]at h;cases h;refine Ad.of_eq ?_ (lJ (rd:=[]) (p:=True) (m:=pure (a.eval x)) S ⟨_,rfl,S.ev x⟩);simp [execOp,ho]
 |assign x=>
  rw[ho]at h;cases h;refine Ad.of_eq ?_ (lJ (rd:=[]) (p:=True) (m:=pure (a.eval x)) S ⟨_,rfl,S.ev x⟩);simp [execOp,ho]
 |pick c x y=>
  rw[ho]at h;have hc:=S.ev c;simp only[lG]at h;split at h
  ·rename_i b hb;rw[hb]at hc;simp only[pm]at hc;cases h;refine Ad.of_eq ?_ (lJ (rd:=[]) (p:=True) (m:=pure (bif b then a.eval x else a.eval y)) S ⟨_,rfl,?_⟩)
   ·grind [execOp,asBool]
   ·cases b
    ·exact S.ev y
    ·exact S.ev x
  ·cases h
 |alloc t=>
  rw[ho]at h;simp only[lG]at h;split at h
  ·rename_i z hz;cases h;obtain⟨v,hv,hr,zr⟩:=aBZ (w:=w) hz;refine ar4 (c:=v.cells) S ?_ (aGK _ _ hr) zr;simp only[execOp,ho,Instr.alloc,ai,hv,ae,newVar,newRow,run_newObj,aq];rfl
  ·cases h
 |box t x=>
  rw[ho]at h;simp only[lG]at h;split at h
  ·rename_i cs hc;cases h;refine ar4 (c:=(a.eval x).cells) (t:=t) S ?_ (JA hc (S.ev x)).1 (JA hc (S.ev x)).2;simp only[execOp,ho,Instr.box,ai,ae,newVar,newRow,run_newObj,aq];rfl
  ·cases h
 |build t parts=>
  rw[ho]at h;simp only[lG]at h
  grind [lJ,azf,execOp]
 |buildSlice t len parts=>
  rw[ho]at h;simp only[lG]at h;split at h
  ·rename_i et sz by' ht;split at h
   ·rename_i z hz;split at h
    ·rename_i hc;split at h
     ·rename_i rows hr;cases aJi:aI4 t (av4 (parts.toList.map (·.2)))with
      |true=>
       grind [amG,execOp]
      |false=>
      rw[aJi]at h;cases h;obtain⟨v,c,uB,tD⟩:=aoI S ht hz hc hr;refine aFb S (o:=.cells c et) (by grind) (v:=v) ?_ tD;simp [execOp,ho,uB]
     ·cases h
    ·cases h
   ·cases h
  ·cases h
 |load t x=>
  rw[ho]at h;have hx:=S.ev x;simp only[lG]at h;split at h
  ·rename_i g n l off ht hp';rw[hp']at hx;split at h
   ·rename_i cs hl;split at h
    ·rename_i v hv;obtain⟨u,hu,ru⟩:=azl S ht hl hv hx;obtain⟨h1,h2,h3,h4⟩:=aFf S h ru;obtain⟨val,rd,up,nw,pre⟩:=e;simp only at h1 h2 h3 h4;subst h1 h2 h3;refine Ad.of_eq ?_ (lJ (rd:=rd) (p:=True) S ⟨u,hu,h4⟩);simp [execOp,ho]
    ·cases h
   ·cases h
  ·grind [lJ,aJg,execOp]
  ·grind [lJ,aGV,execOp]
  ·rename_i n rv ht hp';rw[hp']at hx;simp only[pm]at hx;unfold arZ at h;split at h
   case h_2=>cases h
   rename_i b o';split at h
   ·rename_i k hk;rw[bA]at h;obtain⟨m,hm,h⟩:=h;cases h;obtain⟨hd,hkv⟩:=aI6 hk hm;obtain⟨v,hc,hv,_⟩:=S.know.cell b o' hd;have:=hkv v hv;subst this;have hi:=K9 (C:=C) (w:=w) ht;refine Ad.of_eq ?_ (lJ (rd:=[]) (p:=True) (m:=aO t (a.eval x)) S ⟨.int k m,?_,rfl⟩)
    ·simp [execOp,ho]
    ·rw[hx]
     have hM:azd (C.env U J.heap w) b o' [.int k m]:=⟨[.int k m],⟨_,_,rfl,rfl,rfl⟩,fun j u hj=>by
      cases j with
      |zero=>simp at hj;subst hj;exact hc
      |succ j=>simp at hj⟩
     obtain⟨u,hu,ru⟩:=adb (P:=C.P) (t:=t) hM hi.1 hi.2 (x:=.int k m) rfl;have ru:u=.int k m:=ru
     grind [aO,ay,qC.env]
   ·cases h
  ·cases h
 |store t x y=>
  rw[ho]at h;have hx:=S.ev x;simp only[lG]at h;split at h
  ·rename_i g n l off ys ht hp' hc;rw[hp']at hx;split at h
   ·rename_i cs hl;split at h
    ·rename_i azm;cases h;obtain⟨hr,h1⟩:=JA hc (S.ev y);obtain⟨w',uB,hS⟩:=aze S ht hl hr h1 azm.1 azm.2 hx;refine⟨.skip,undef,w',U,?_,.inr ⟨rfl,rfl⟩,?_⟩
     ·simp [execOp,ho,uB]
     ·rw[agL];exact hS.put _ trivial
    ·cases h
   ·cases h
  ·rename_i g n l i m o' sz ys ht hp' hc;rw[hp']at hx;split at h
   ·rename_i Ud rows hl;split at h
    ·rename_i hcc;obtain⟨rfl,hm⟩:=hcc;split at h
     ·rename_i r hr';split at h
      ·rename_i azm;cases h;obtain⟨hr,h1⟩:=JA hc (S.ev y);obtain⟨w',uB,hS⟩:=aE9 S ht hl hm hr' hr h1 azm.1 azm.2 hx;refine⟨.skip,undef,w',U,?_,.inr ⟨rfl,rfl⟩,?_⟩
       ·simp [execOp,ho,uB]
       ·rw[agL];exact hS.put _ trivial
      ·cases h
     ·cases h
    ·cases h
   ·cases h
  ·cases h
 |nilCheck x=>
  rw[ho]at h;have hx:=S.ev x;simp only[lG]at h;split at h
  ·rename_i l off hp';rw[hp']at hx;cases h;obtain⟨hl,b,hb,hv⟩:=hx;refine Ad.of_eq ?_ (lJ (rd:=[]) (p:=True) (m:=pure (a.eval x)) S ⟨_,rfl,hl,b,hb,hv⟩);simp [execOp,ho,hv]
  ·rename_i cs hp';rw[hp']at hx;cases h;obtain⟨b,off,hv,hm⟩:=hx;refine Ad.of_eq ?_ (lJ (rd:=[]) (p:=True) (m:=pure (a.eval x)) S ⟨_,rfl,b,off,hv,hm⟩);simp [execOp,ho,hv]
  ·rename_i f fs cs hp';rw[hp']at hx;cases h;obtain⟨f',c',hv,r1,r2⟩:=hx;refine Ad.of_eq ?_ (lJ (rd:=[]) (p:=True) (m:=pure (a.eval x)) S ⟨_,rfl,f',c',hv,r1,r2⟩);simp [execOp,ho,hv]
  ·cases h
 |binOp op t x y ty=>
  rw[ho]at h;simp only[lG]at h;split at h
  ·rename_i v hv;cases h;refine Ad.of_eq ?_ (lJ (rd:=[]) (p:=True) S (azi (t:=t) (ox:=x) (oy:=y) (w:=w) hv (S.ev x) (S.ev y)));simp [execOp,ho]
  ·have hx:=S.ev x;have hy:=S.ev y;unfold av2 at h;split at h
   ·rename_i e' he;have hq:=aJh (a:=a) (w:=w) (ox:=x) he hx;cases h;obtain⟨b,hb,hv,he2⟩:=hq;subst he2;refine Ad.of_eq ?_ (lJ (rd:=[]) (p:=True) (m:=(do eqGuard op t x y (a.eval x) (a.eval y);binOp op t (a.eval x) (a.eval y):Sem aRu)) S ⟨.bool b,?_,rfl⟩)
    all_goals grind [execOp]
   rename_i hnE;clear hnE;unfold aoF at h;split at h
   ·rename_i cs ds h1 h2 _;cases h;rw[h1]at hx;rw[h2]at hy;obtain⟨vs,hvs,r1⟩:=hx;obtain⟨us,hus,r2⟩:=hy;refine Ad.of_eq ?_ (lJ (rd:=[]) (p:=av1 C.P t cs ds) S ⟨.bool (eqB cs ds),(hp _ vs us w x y r1 r2).1,rfl⟩);simp [execOp,ho,hvs,hus]
   ·rename_i cs ds h1 h2 _;cases h;rw[h1]at hx;rw[h2]at hy;obtain⟨vs,hvs,r1⟩:=hx;obtain⟨us,hus,r2⟩:=hy;refine Ad.of_eq ?_ (lJ (rd:=[]) (p:=av1 C.P t cs ds) S ⟨.bool (!eqB cs ds),(hp _ vs us w x y r1 r2).2,rfl⟩);simp [execOp,ho,hvs,hus]
   ·rename_i p q h1 h2 _;split at h
    ·rename_i ht;cases h;rw[h1]at hx;rw[h2]at hy;simp only[pm]at hx hy;refine Ad.of_eq ?_ (lJ (rd:=[]) (p:=True) (m:=pure (.bool (p==q))) S ⟨_,rfl,rfl⟩)
     simp_all [execOp,awe,aLO]
    ·cases h
   ·rename_i p q h1 h2 _;split at h
    ·rename_i ht;cases h;rw[h1]at hx;rw[h2]at hy;simp only[pm]at hx hy;refine Ad.of_eq ?_ (lJ (rd:=[]) (p:=True) (m:=pure (.bool (!(p==q)))) S ⟨_,rfl,rfl⟩)
     simp_all [execOp,awe,aLP]
    ·cases h
   all_goals first
    |(cases h;done)
    |skip
   ·rename_i t' z h1 h2 _;split at h
    ·rename_i ht;cases h;rw[h1]at hx;rw[h2]at hy;obtain⟨u,hx,_⟩:=hx;have hy:a.eval y=.nilIface:=hy;refine Ad.of_eq ?_ (lJ (rd:=[]) (p:=True) (m:=pure (.bool false)) S ⟨_,rfl,rfl⟩);simp [execOp,ho,hx,hy,(QO (w:=w) (t':=t') (u:=u) (x:=x) (y:=y) ht).1.1,(QO (w:=w) (t':=t') (u:=u) (x:=x) (y:=y) ht).2.1.1]
    ·cases h
   ·rename_i t' z h1 h2 _;split at h
    ·rename_i ht;cases h;rw[h1]at hx;rw[h2]at hy;obtain⟨u,hx,_⟩:=hx;have hy:a.eval y=.nilIface:=hy;refine Ad.of_eq ?_ (lJ (rd:=[]) (p:=True) (m:=pure (.bool true)) S ⟨_,rfl,rfl⟩);simp [execOp,ho,hx,hy,(QO (w:=w) (t':=t') (u:=u) (x:=x) (y:=y) ht).1.1,(QO (w:=w) (t':=t') (u:=u) (x:=x) (y:=y) ht).2.1.2]
    ·cases h
   ·rename_i h1 h2 _;split at h
    ·rename_i ht;cases h;rw[h1]at hx;rw[h2]at hy;have hx:a.eval x=.nilIface:=hx;have hy:a.eval y=.nilIface:=hy;refine Ad.of_eq ?_ (lJ (rd:=[]) (p:=True) (m:=pure (.bool true)) S ⟨_,rfl,rfl⟩);simp [execOp,ho,hx,hy,(QO (w:=w) (t':=t) (u:=undef) (x:=x) (y:=y) ht).1.2,(QO (w:=w) (t':=t) (u:=undef) (x:=x) (y:=y) ht).2.2.1]
    ·cases h
   ·rename_i h1 h2 _;split at h
    ·rename_i ht;cases h;rw[h1]at hx;rw[h2]at hy;have hx:a.eval x=.nilIface:=hx;have hy:a.eval y=.nilIface:=hy;refine Ad.of_eq ?_ (lJ (rd:=[]) (p:=True) (m:=pure (.bool false)) S ⟨_,rfl,rfl⟩);simp [execOp,ho,hx,hy,(QO (w:=w) (t':=t) (u:=undef) (x:=x) (y:=y) ht).1.2,(QO (w:=w) (t':=t) (u:=undef) (x:=x) (y:=y) ht).2.2.2]
    ·cases h
 |unOp op t x=>
  rw[ho]at h;have hx:=S.ev x;simp only[lG]at h;split at h
  ·rename_i b hb;rw[hb]at hx;simp only[pm]at hx;cases h;refine Ad.of_eq ?_ (lJ (rd:=[]) (p:=True) (m:=pure (.bool !b)) S ⟨_,rfl,rfl⟩);simp [execOp,ho,hx,Op.unary]
  ·rename_i k n hb;rw[hb]at hx;simp only[pm]at hx;cases h;refine Ad.of_eq ?_ (lJ (rd:=[]) (p:=True) (m:=pure (.int k (k.wrap (0-n)))) S ⟨_,rfl,rfl⟩);simp [execOp,ho,hx,Op.unary,Op.intArith]
  ·rename_i k n hb;rw[hb]at hx;simp only[pm]at hx;cases h;refine Ad.of_eq ?_ (lJ (rd:=[]) (p:=True) (m:=Op.intBits .xor k (if k.signed then-1 else k.max) n) S ⟨_,rfl,rfl⟩);simp [execOp,ho,hx,Op.unary]
  ·cases h
 |convert s d x=>
  rw[ho]at h;have hx:=S.ev x;simp only[lG]at h;split at h
  ·rename_i v hv;rw[hv]at hx;simp only[pm]at hx;split at h
   ·rename_i hc;simp only[aU]at hc;cases h;refine Ad.of_eq ?_ (lJ (rd:=[]) (p:=True) (m:=pure (.string v)) S ⟨_,rfl,rfl⟩)
    simp_all [execOp,convert,run_underlying,ajz]
   ·cases h
  ·rename_i k n hv;rw[hv]at hx;simp only[pm]at hx;split at h
   ·rename_i k1 k2 h1 h2;cases h;refine Ad.of_eq ?_ (lJ (rd:=[]) (p:=True) (m:=pure (.int k2 (k2.wrap n))) S ⟨_,rfl,rfl⟩)
    simp_all [execOp,convert,run_underlying,axg,Conv.intToInt]
   ·rename_i k1 h1 h2;split at h
    ·rename_i hs;cases h;refine Ad.of_eq ?_ (lJ (rd:=[]) (p:=True) (m:=pure (.string (Utf8.encode n))) S ⟨_,rfl,rfl⟩)
     simp_all [execOp,convert,run_underlying,axg,ajz,Conv.intToString]
    ·cases h
   ·cases h
  ·rename_i tt z k n hv;rw[hv]at hx;split at h
   ·rename_i e sz bytes ht;split at h
    ·rename_i hc;obtain⟨rfl,rfl,he,hd⟩:=hc;cases h;refine Ad.of_eq ?_ (lJ (rd:=[]) (p:=True) (m:=convert s d (a.eval x)) S ⟨_,aB7 rfl ht he hd hx,rfl⟩);simp [execOp,ho]
    ·cases h
   ·cases h
  ·cases h
 |makeInterface t x=>
  rw[ho]at h;simp only[lG]at h;split at h
  ·rename_i hc;cases h;refine Ad.of_eq ?_ (lJ (rd:=[]) (p:=True) (m:=pure (.iface t (a.eval x))) S ⟨_,rfl,_,rfl,S.ev x⟩);unfold nn at hc;cases hu:C.P.underlying t with
   |none=>simp [hu]at hc
   |some d=>
    simp only[hu]at hc;cases d<;>simp_all [execOp,Instr.makeInterface,run_underlying hu]
  ·cases h
 |makeFunc fn f c=>
  rw[ho]at h;cases h;refine Ad.of_eq ?_ (lJ (rd:=[]) (p:=True) (m:=Instr.makeFunc fn (f.map a.eval) (c.map a.eval)) S ⟨_,rfl,_,_,rfl,?_,?_⟩)
  all_goals simp_all [execOp,QN]
 |makeSlice t x y=>
  rw[ho]at h;have hx:=S.ev x;have hy:=S.ev y;simp only[lG]at h
  grind [pm,aqz,execOp]
 |slice t x lo hi mx=>
  rw[ho]at h;have hx:=S.ev x;simp only[lG]at h
  have hex:(execOp a.eval o).run C.P w=(do pure (.value (<-aV t (a.eval x) (lo.map a.eval) (hi.map a.eval) (mx.map a.eval))):Sem Next).run C.P w:=by
   simp [execOp,ho]
  refine Ad.of_eq hex ?_;split at h
  ·rename_i et sz by' ht;split at h
   ·cases h
   ·rename_i hmx;have aPn:(mx.isSome&&hi.isNone)=false:=(Bool.not_eq_true _).mp hmx;unfold amA at h;split at h
    ·grind [lJ,awa]
    ·rename_i k n hv;rw[hv]at hx;split at h
     ·rename_i Ud rows hl;split at h
      ·rename_i l hh m h1 h2 h3;split at h
       ·rename_i hc;obtain⟨rfl,hn,hc⟩:=hc;cases h;have hvv:=Qm S hl hn hx;have:=awa (tt:=false) S ht h1 h2 h3 (.inl rfl) hc aPn (agJ S hl)
        grind [lJ]
       ·cases h
      ·cases h
     ·cases h
    ·cases h
  ·split at h
   ·rename_i s ht hv;rw[hv]at hx;simp only[pm]at hx;split at h
    ·rename_i l hh h1 h2;split at h
     ·rename_i hc;cases h;exact lJ S ⟨_,by grind [aFa],rfl⟩
     ·cases h
    ·cases h
   ·cases h
 |fieldAddr t x i=>
  rw[ho]at h;have hx:=S.ev x;simp only[lG]at h
  grind [execOp,lJ,aqx]
 |field t x i=>
  rw[ho]at h;have hx:=S.ev x;simp only[lG]at h;split at h
  ·rename_i f u cs hf hv;rw[hv]at hx;split at h
   ·rename_i g n ht;split at h
    ·rename_i v hl;cases h;obtain⟨vs,hvs,rl⟩:=hx;obtain⟨fs,fd,j,hu,hfi,hj,_,rfl,rfl⟩:=aEi hf;have hi:=K9 (C:=C) (w:=w) ht;refine Ad.of_eq ?_ (lJ (rd:=[]) (p:=True) S (aB4 hi.1 hi.2 rl hl))
     simp_all [execOp,Instr.field,run_underlying,asAgg]
    ·cases h
   ·cases h
  ·cases h
 |indexAddr t x i=>
  rw[ho]at h;have hx:=S.ev x;have hi:=S.ev i;simp only[lG]at h
  have hex:(execOp a.eval o).run C.P w=(do pure (.value (<-aL t (a.eval x) (a.eval i))):Sem Next).run C.P w:=by
   simp [execOp,ho]
  refine Ad.of_eq hex ?_;split at h
  ·rename_i et sz by' ht;split at h
   ·rename_i tt Ud rows k n hv hn;rw[hv]at hx;rw[hn]at hi;simp only[pm]at hi;split at h
    ·rename_i hc;obtain⟨rfl,hc⟩:=hc;split at h
     ·rename_i r hr;cases h;have:=akn (k:=k) ht hc hr hx
      grind [lJ]
     ·cases h
    ·cases h
   ·rename_i l m k n hv hn;rw[hv]at hx;rw[hn]at hi;simp only[pm]at hi;split at h
    ·rename_i Ud rows hl;split at h
     ·rename_i hc;obtain⟨rfl,hc,hm⟩:=hc;split at h
      ·rename_i r hr;cases h;have:=auJ (k:=k) S ht hc hl hm hr hx
       grind [lJ]
      ·cases h
     ·cases h
    ·rename_i Ud rows hl;split at h
     ·rename_i hc;obtain⟨rfl,hc,hm,sJ⟩:=hc;cases h;obtain⟨hu,ti,hti,rfl,rfl⟩:=Mn ht;have hv':=Qm S hl hm hx;obtain⟨base,cap,hh,h2,h3,h4,h5⟩:=S.om l _ hl;have hsz:(sizeOf et).run C.P w=.ok ti.size w:=by simp [sizeOf,typeInfo,hti]
      cases base with
      |none=>have:=h3 rfl;omega
      |some b=>
       obtain⟨hsp,_⟩:=h5 b rfl (by omega);have hb:b=⟨b.block,b.off,none⟩:=by cases b;simp_all
       refine lJ S ⟨.pointer (some ⟨b.block,b.off+n.toNat*ti.size,none⟩),?_,hx.1,⟨_,rfl⟩,?_⟩
       ·rw[hi,hv',hh];have aLN:0<=n/\n<(rows.length:Int):=⟨hc,by omega⟩;simp only[aL,asIntOf,ai,aq,ae,run_underlying hu,aLN,and_self,jM,hsz];rw[hb,Ae]
       ·intro k' PL;simp only[qC.env,hl,mR,ah]at PL;refine⟨by omega,fun _=>⟨b.block,b.off,rows.length,cap,?_,rfl⟩⟩
        grind [qC.env]
     ·cases h
    ·cases h
   ·cases h
  ·split at h
   ·rename_i len sz ht;split at h
    ·rename_i l off k n hv hn;rw[hv]at hx;rw[hn]at hi;simp only[pm]at hi;split at h
     ·rename_i hc;cases h;unfold auD at ht;split at ht
      ·rename_i n' e hu;split at ht
       ·rename_i ti hti;simp only[ah,a8]at ht;obtain⟨rfl,rfl⟩:=ht;obtain⟨hl,b,hb,hv'⟩:=hx;have hsz:(sizeOf e).run C.P w=.ok ti.size w:=by simp [sizeOf,typeInfo,hti]
        refine lJ S ⟨.pointer (some ⟨b,off+n.toNat*ti.size,none⟩),?_,hl,b,hb,rfl⟩;rw[hi,hv'];simp only[aL,asIntOf,ai,aq,ae,run_underlying hu,ay,hc,and_self,jM,hsz];rw[Ae]
       ·cases ht
      ·cases ht
     ·cases h
    ·rename_i cs k n hv hn;rw[hv]at hx;rw[hn]at hi;simp only[pm]at hi;split at h
     ·rename_i hc;rw[bA]at h;obtain⟨ds,hd,he⟩:=h;obtain rfl:=bV he;unfold auD at ht;split at ht
      ·rename_i n' e hu;split at ht
       ·rename_i ti hti;simp only[ah,a8]at ht;obtain⟨rfl,rfl⟩:=ht;obtain⟨b,off,hv',rm⟩:=hx;have hsz:(sizeOf e).run C.P w=.ok ti.size w:=by simp [sizeOf,typeInfo,hti]
        refine lJ S ⟨.pointer (some ⟨b,off+n.toNat*ti.size,none⟩),?_,b,_,rfl,ar9 hd rm⟩;rw[hi,hv'];simp only[aL,asIntOf,ai,aq,ae,run_underlying hu,ay,hc,and_self,jM,hsz];rw[Ae]
       ·cases ht
      ·cases ht
     ·cases h
    ·rename_i b off k n hv hn;rw[hv]at hx;rw[hn]at hi;simp only[pm]at hi hx;split at h
     ·rename_i hc;cases h;unfold auD at ht;split at ht
      ·rename_i n' e hu;split at ht
       ·rename_i ti hti;simp only[ah,a8]at ht;obtain⟨rfl,rfl⟩:=ht;have hsz:(sizeOf e).run C.P w=.ok ti.size w:=by simp [sizeOf,typeInfo,hti]
        refine lJ S ⟨.pointer (some ⟨b,off+n.toNat*ti.size,none⟩),?_,rfl⟩;rw[hi,hx];simp only[aL,asIntOf,ai,aq,ae,run_underlying hu,ay,hc,and_self,jM,hsz];rw[Ae]
       ·cases ht
      ·cases ht
     ·cases h
    ·cases h
   ·cases h
 |index t x i=>
  rw[ho]at h;have hx:=S.ev x;have hi:=S.ev i;simp only[lG]at h;split at h
  ·rename_i s k n ht hv hn;rw[hv]at hx;rw[hn]at hi;simp only[pm]at hi hx;split at h
   ·rename_i hc;split at h
    ·rename_i b hb;cases h;refine Ad.of_eq ?_ (lJ (rd:=[]) (p:=True) (m:=pure (.int .u8 b.toNat)) S ⟨_,rfl,rfl⟩)
     simp_all [execOp,bD,asIntOf,run_underlying,ajz]
    ·cases h
   ·cases h
  ·rename_i cs k n ht hv hn;rw[hv]at hx;rw[hn]at hi;split at h
   ·rename_i len ms h1 h2;split at h
    ·rename_i hc;split at h
     ·rename_i m hm;cases h;refine Ad.of_eq ?_ (lJ (rd:=[]) (p:=True) (m:=bD t (a.eval x) (a.eval i)) S ⟨_,aFe h1 h2 hc.1 hc.2 hm hx hi,rfl⟩);simp [execOp,ho]
     ·cases h
    ·cases h
   ·cases h
  ·cases h
 |extract x i=>
  rw[ho]at h;have hx:=S.ev x;simp only[lG]at h;split at h
  ·rename_i vs hv;rw[hv]at hx;split at h
   ·rename_i v hi;cases h;obtain⟨us,hu,rl⟩:=hx;obtain⟨u,hu',ru⟩:=rl.get hi;refine Ad.of_eq ?_ (lJ (rd:=[]) (p:=True) (m:=pure u) S ⟨_,rfl,ru⟩)
    grind [execOp,Instr.extract]
   ·cases h
  ·cases h
 |call c=>
  obtain⟨cl,args,ts⟩:=c;cases cl with
  |builtin b=>
   rw[ho]at h;exact auL S ho h hp
  |value f=>rw[ho]at h;cases h
  |invoke r m=>rw[ho]at h;cases h
 |makeMap t r=>
  rw[ho]at h;cases r with
  |some r=>cases h
  |none=>
   cases h;have S':=S.aJe;refine⟨.value (.map (some w.heap.size)),.map (some w.heap.size),World.more w (.map #[] 0),(fun l=>if l=J.heap.length then .map (some w.heap.size)else U l),?_,.inl rfl,?_⟩
   ·simp_all [execOp,Instr.makeMap,World.more]
   ·rw[aoK];refine S'.put _ ⟨by simp [qC.env],by simp [qC.env],w.heap.size,by simp [qC.env,hdl]⟩
 |typeAssert x u t ok=>
  rw[ho]at h;cases ok with
  |false=>cases h
  |true=>
   have hx:=S.ev x;simp only[lG]at h;unfold axc at h;split at h
   ·rename_i t' z BA;split at h
    ·rename_i hc;obtain⟨rfl,hc⟩:=hc;cases h;rw[BA]at hx;obtain⟨q,hq,hr⟩:=hx;refine Ad.of_eq ?_ (lJ (rd:=[]) (p:=True) (m:=pure (.tuple #[q,.bool true])) S ⟨_,rfl,_,rfl,_,_,rfl,hr,_,_,rfl,rfl,rfl⟩);unfold nn at hc;cases hu:C.P.underlying t' with
     |none=>simp [hu]at hc
     |some d=>
      simp only[hu]at hc;cases d<;>simp_all [execOp,Instr.typeAssert,run_underlying hu]
    ·cases h
   ·cases h
 |lookup t x k ok=>
  rw[ho]at h;cases ok with
  |true=>
   have hx:=S.ev x;have hk:=S.ev k;simp only[lG]at h;split at h
   ·rename_i z l s ht BA PL;rw[BA]at hx;rw[PL]at hk;have hk:a.eval k=.string s:=hk;unfold aoG at h;split at h
    ·rename_i es hl;split at h
     ·rename_i hs;cases h;obtain⟨u,b,uB,tD⟩:=ar7 (s:=s) S ht hl hs hx;have hv:av5 z l (zn s es)={val:=(av5 z l (zn s es)).val,rd:=[l]}:=by cases zn s es<;>rfl
      grind [lJ,execOp]
     ·cases h
    ·cases h
   ·rename_i l n ht BA PL;rw[BA]at hx;rw[PL]at hk;have hk:a.eval k=.int .i64 n:=hk;split at h
    ·rename_i hti;unfold amB at h;split at h
     ·rename_i es hl;simp only[aH]at h;obtain⟨ms,hm,rfl⟩:=h;rw[ajA hm]at hl;obtain⟨u,uB,tD⟩:=aqA (n:=n) S hti hl hx
      grind [lJ,execOp]
     ·cases h
    ·cases h
   ·cases h
  |false=>
   have hx:=S.ev x;have hk:=S.ev k;simp only[lG]at h;split at h
   ·rename_i z l s ht BA PL;rw[BA]at hx;rw[PL]at hk;have hk:a.eval k=.string s:=hk;unfold ajx at h;split at h
    ·rename_i es hl;split at h
     ·rename_i hs;cases h;obtain⟨u,uB,tD⟩:=axk (s:=s) S ht hl hs hx
      grind [lJ,execOp]
     ·cases h
    ·cases h
   ·cases h
 |range t x=>
  rw[ho]at h;have hx:=S.ev x;simp only[lG]at h;split at h
  ·rename_i s ht hv;rw[hv]at hx;simp only[pm]at hx;cases h;have S':=S.aGX s;refine⟨.value (.pointer (some ⟨w.heap.size,0,none⟩)),.pointer (some ⟨w.heap.size,0,none⟩),World.more w (.stringIter s 0),(fun l=>if l=J.heap.length then .pointer (some ⟨w.heap.size,0,none⟩)else U l),?_,.inl rfl,?_⟩
   ·simp [execOp,ho,hx,Instr.range,run_underlying (ajz ht),newObj,Sem.run,World.more,ar]
   ·rw[aoK];refine S'.put _ ⟨by simp [qC.env],w.heap.size,by simp [qC.env],rfl⟩
  ·cases h
 |next x st=>
  rw[ho]at h;cases st with
  |false=>cases h
  |true=>
   have hx:=S.ev x;simp only[lG]at h;split at h
   ·rename_i l hv;rw[hv]at hx;obtain⟨u,w',uB,tD,hS,hn⟩:=aB6 (ty:=o.type) S h hx;refine⟨.value u,u,w',U,?_,.inl rfl,?_⟩
    ·simp [execOp,ho,uB]
    ·have:=hS.put o.dst tD;cases hd:o.dst<;>simpa [jS.app,jS.put,hn,hd] using this
   ·cases h
 |mapUpdate t x k y=>
  rw[ho]at h;have hx:=S.ev x;have hk:=S.ev k;simp only[lG]at h;split at h
  ·rename_i z l s ht BA PL;rw[BA]at hx;rw[PL]at hk;have hk:a.eval k=.string s:=hk;unfold CV at h;split at h
   ·rename_i es hl;split at h
    ·rename_i hs;cases h;obtain⟨w',uB,hS⟩:=aeU (s:=s) S ht hl hs hx (S.ev y);refine⟨.skip,undef,w',U,?_,.inr ⟨rfl,rfl⟩,?_⟩
     ·simp [execOp,ho,hk,uB]
     ·rw[agL];exact hS.put _ trivial
    ·cases h
   ·cases h
  ·rename_i l n ht BA PL;rw[BA]at hx;rw[PL]at hk;have hk:a.eval k=.int .i64 n:=hk;have hy:=S.ev y;split at h
   ·rename_i m hy';rw[hy']at hy;have hy:a.eval y=.int .i64 m:=hy;split at h
    ·rename_i hti;unfold ada at h;split at h
     ·rename_i es hl;simp only[aH]at h;obtain⟨ms,hm,rfl⟩:=h;rw[ajA hm]at hl;obtain⟨w',uB,hS⟩:=aa3 (n:=n) (m:=m) S hti hl hx;refine⟨.skip,undef,w',U,?_,.inr ⟨rfl,rfl⟩,?_⟩
      ·simp [execOp,ho,hk,hy,uB]
      ·rw[agL];exact hS.put _ trivial
     ·cases h
    ·cases h
   ·cases h
  ·cases h
 |insert t x k y=>
  rw[ho]at h;have hx:=S.ev x;have hk:=S.ev k;simp only[lG]at h;split at h
  ·rename_i z l s ht BA PL;rw[BA]at hx;rw[PL]at hk;have hk:a.eval k=.string s:=hk;unfold CV at h;split at h
   ·rename_i es hl;split at h
    ·rename_i hs;cases h;obtain⟨w',uB,hS⟩:=aeU (s:=s) S ht hl hs hx (S.ev y);refine⟨.skip,undef,w',U,?_,.inr ⟨rfl,rfl⟩,?_⟩
     ·simp [execOp,ho,hk,uB]
     ·rw[agL];exact hS.put _ trivial
    ·cases h
   ·cases h
  ·rename_i l n ht BA PL;rw[BA]at hx;rw[PL]at hk;have hk:a.eval k=.int .i64 n:=hk;have hy:=S.ev y;split at h
   ·rename_i m hy';rw[hy']at hy;have hy:a.eval y=.int .i64 m:=hy;split at h
    ·rename_i hti;unfold ada at h;split at h
     ·rename_i es hl;simp only[aH]at h;obtain⟨ms,hm,rfl⟩:=h;rw[ajA hm]at hl;obtain⟨w',uB,hS⟩:=aa3 (n:=n) (m:=m) S hti hl hx;refine⟨.skip,undef,w',U,?_,.inr ⟨rfl,rfl⟩,?_⟩
      ·simp [execOp,ho,hk,hy,uB]
      ·rw[agL];exact hS.put _ trivial
     ·cases h
    ·cases h
   ·cases h
  ·cases h
 |_=>rw[ho]at h;cases h
end sound
inductive oo where
 |normal
 |exit (id:Nat)
 |goto (l:Nat)
 |ret
 |panic (x:AV)
inductive vu where
 |ret (r:AV)
 |panic (x:AV)
def vu.rep(E:CS):vu->Ending->Prop
 |.ret r,.returned v=>pm E r v
 |.panic x,.panicked chain=>∃v,chain=[{v,recovered:=false}]/\pm E x v
 |_,_=>False
def xE(P:aRx)(f:aRw):Bool:=
 match P.funcs[f]? with
 |some fn=>fn.body.isSome&&fn.name != "runtime.NumGoroutine"
 |none=>false
def BB(P:aRx)(f:aRw)(args:List AV)(J:jS)(K:vu->List j5->Prop):Prop:=
 xE P f=true/\∀(C:qC)(U:Nat->aRu)(a:Act)(w:aRv),C.P=P->nF C U J a w->∀vs:Array aRu,kP (C.env U J.heap w) args vs.toList->
  Calls P f vs w fun e w'=>∃o U' H',K o H'/\nF C U' {J with heap:=H'} a w'/\o.rep (C.env U' H' w') e
def Lb(J J':jS):Prop:=∀(C:qC)(U:Nat->aRu)(a:Act)(w:aRv),nF C U J a w->∃U',nF C U' J' a w
theorem Lb.refl(J:jS):Lb J J:=fun _ U _ _ S=>⟨U,S⟩
def Lb.trans {J' σ'':jS}(h:Lb J J')(h':Lb J' σ''):Lb J σ'':=fun C U a w S=>
 let ⟨U',S'⟩:=h C U a w S
 h' C U' a w S'
def nT(J:jS):Op->Option (aRw×List AV)
 | .call {callee:= .value f,args,..}=>match J.ev f with
   |.func (.func fid) first cap=>some (fid,first++args.toList.map J.ev++cap)
   |_=>none
 |_=>none
def Ig(J:jS):Op->Option (Nat×List AV)
 | .call {callee:= .value f,args,..}=>match J.ev f with
   |.map l=>some (l,args.toList.map J.ev)
   |_=>none
 |_=>none
def Ih(J:jS):Op->Option (aRw×List AV)
 | .defer {callee:= .value f,args,..}=>match J.ev f with
   |.func (.func fid) first cap=>some (fid,first++args.toList.map J.ev++cap)
   |_=>none
 |_=>none
def aa4(J:jS):Op->Option AV
 | .panic x=>match J.ev x with
   |.iface t y=>some (.iface t y)
   |_=>none
 |_=>none
def jS.dfr(J:jS)(p:aRw×List AV)(dst:Option Tmp):jS:={J with df:=p::J.df}.put dst (.sV undef)
def GK(ro:Option Nat):Fence:={Fence.wide with round:=ro}
def Lc{args:Array aRu}:CallsIn (GK ro) n P f args w R↔Calls P f args w R:=by
 rw[<-callsIn_wide (n:=n)];exact Iff.rfl
def azn{tmps:Array aRu}{aRs body:Code}:RoundIn (GK ro) n P l f tmps aRs body w R↔RoundIn Fence.wide n P l f tmps aRs body w R:=Iff.rfl
def VG(P:aRx)(h:aRu)(w:aRv)(vs:Array aRu)(R:Ending->aRv->Prop):Prop:=
 ∀ (D:Nat) (rec:Loop),h= .func (.yield (D+1)) #[] #[]->w.heap[D+1]? =some (.loop rec)->
   RoundIn Fence.wide 0 P (D+1) rec.fn ((rec.params.zip vs).foldl (fun tmps (t,a)=>tmps.setIfInBounds t a) rec.tmps) rec.assign rec.body w R
def PP(P:aRx)(l:Nat)(args:List AV)(J:jS)(K:vu->List j5->Prop):Prop:=
 (∃k j9 st uA,J.heap[l]? =some (.loop k j9 st uA)/\args.length=k.ps.size)/\∀(C:qC)(U:Nat->aRu)(a:Act)(w:aRv),C.P=P->nF C U J a w->∀vs:Array aRu,kP (C.env U J.heap w) args vs.toList->
   VG P (U l) w vs fun e w'=>∃o U' H',K o H'/\nF C U' {J with heap:=H'} a w'/\o.rep (C.env U' H' w') e
def qG(kE:Array Oper)(o:Oper)(J:jS):Option Bool:=
 match o.guard with
 |none=>some true
 |some (j,want)=>match (kE[j]?).bind (·.dst)with
  |some d=>match J.j9[d]? with
   |some (.bool b)=>some (b==want)
   |some (.sV (.tuple _))=>some false
   |_=>none
  |none=>none
def Zq (P:aRx) (kE:Array Oper):List Oper->(oo->jS->Prop)->jS->Prop
 |[],Q,J=>Q .normal J
 |o::rest,Q,J=>match qG kE o J with
  |none=>False
  |some b=>(b=true->match nT J o.op with
    |some (f,args)=>BB P f args J fun o' H'=>match o' with
     |.ret r=>Zq P kE rest Q (jS.put {J with heap:=H'} o.dst r)
     |.panic x=>Q (.panic x) {J with heap:=H'}
    |none=>match Ig J o.op with
     |some (l,args)=>PP P l args J fun o' H'=>match o' with
      |.ret r=>Zq P kE rest Q (jS.put {J with heap:=H'} o.dst r)
      |.panic _=>False
     |none=>match lG P J o.op with
      |some e=>e.pre/\Zq P kE rest Q (J.app o.dst e)
      |none=>match Ih J o.op with
       |some p=>Zq P kE rest Q (J.dfr p o.dst)
       |none=>match aa4 J o.op with
        |some x=>Q (.panic x) J
        |none=>False)/\
   (b=false->Zq P kE rest Q (J.put o.dst (.sV undef)))
def QC(C:qC)(Q:oo->jS->Prop):Exit->Act->aRv->Prop
 |.normal,a,w=>∃U J,nF C U J a w/\Q .normal J
 |.exit id,a,w=>∃U J,nF C U J a w/\Q (.exit id) J
 |.goto l,a,w=>∃U J,nF C U J a w/\Q (.goto l) J
 |.ret,a,w=>∃U J,nF C U J a w/\Q .ret J
 |.panic chain,a,w=>∃U J x v,nF C U J a w/\Q (.panic x) J/\chain=[{v,recovered:=false}]/\pm (C.env U J.heap w) x v
 |.outgrown,_,_=>False
section sound
variable {a:Act}
theorem z6(S:nF C U J a w){kE:Array Oper}{b:Bool}(h:qG kE o J=some b):Region.wanted o (yielded kE a.tmps)=b:=by
 unfold qG at h;unfold Region.wanted;split at h
 ·rename_i hg;rw[hg];simpa using h
 ·rename_i j want hg;rw[hg];split at h
  ·rename_i d hd
   have hy:yielded kE a.tmps j=match a.tmps[d]? with|some (.bool b)=>some b|_=>none:=by
    unfold yielded;rw[hd];rfl
   split at h
   ·rename_i b' hs;obtain⟨v,hv,r⟩:=S.j9.get hs
    simp_all [pm]
   ·rename_i vs hs;obtain⟨v,hv,r⟩:=S.j9.get hs
    grind [pm]
   ·cases h
  ·cases h
def Mp(S:nF C U J a w)(h:nT J o.op=some (f,args))(hf:xE C.P f=true):
 ∃vs:Array aRu,(execOp a.eval o).run C.P w=.ok (.enter f vs) w/\kP (C.env U J.heap w) args vs.toList:=by
 unfold nT at h;split at h
 ·rename_i x xs ts ho;split at h
  ·rename_i fid first cap hv
   cases h;have hx:=S.ev x;rw[hv]at hx;obtain⟨f',c',hx,r1,r2⟩:=hx;refine⟨f'++xs.map a.eval++c',?_,?_⟩
   ·unfold xE at hf;split at hf
    ·rename_i fn hfn;simp only[aU,bne_iff_ne,ne_eq]at hf;have awb:fn.body≠none:=by intro hb;simp [hb]at hf
     simp [execOp,ho,resolve,hx,Deferred.ofValue,invoke,callFunc,hfn,hf.2,awb]
    ·cases hf
   ·simp only[bS,bz];exact(r1.append (QN S xs.toList)).append r2
  ·cases h
 ·cases h
theorem QP{o:Op}{q:aRw×List AV}(h:nT J o=some q):∀c,o≠ .defer c:=by
 rintro c rfl;simp [nT]at h
theorem aB8{o:Op}{q:Nat×List AV}(h:Ig J o=some q):∀c,o≠ .defer c:=by
 rintro c rfl;simp [Ig]at h
theorem azo{o:Op}{e:vF}(h:lG P J o=some e):∀c,o≠ .defer c:=by
 rintro c rfl;simp [lG]at h
def azp(S:nF C U J a w){rec:Loop}(h:Ig J o.op=some (l,args))(hφ:U l=.func (.yield (D+1)) #[] #[])(hw:w.heap[D+1]? =some (.loop rec))(hn:args.length=rec.params.size):
 ∃vs:Array aRu,(execOp a.eval o).run C.P w=.ok (.round (D+1) rec.fn ((rec.params.zip vs).foldl (fun tmps (t,a)=>tmps.setIfInBounds t a) rec.tmps) rec.assign rec.body) w/\kP (C.env U J.heap w) args vs.toList:=by
 unfold Ig at h;split at h
 ·rename_i x xs ts ho;split at h
  ·rename_i l' hv;cases h;have hx:=S.ev x;rw[hv]at hx;obtain⟨_,hx,_⟩:=hx;have BA:a.eval x=.func (.yield (D+1)) #[] #[]:=hx.trans hφ;refine⟨xs.map a.eval,?_,?_⟩
   all_goals grind [run_yield,execOp,resolve,Deferred.ofValue,invoke,bz,QN]
  ·cases h
 ·cases h
theorem aGZ{o:Op}{q:AV}(h:aa4 J o=some q):∀c,o≠ .defer c:=by
 rintro c rfl;simp [aa4]at h
def aEk:Op->Bool
 |.defer _=>true
 |_=>false
def azq(S:nF C U J a w){p:aRw×List AV}(h:Ih J o.op=some p):
 ∃d:Deferred,(execOp a.eval o).run C.P w=.ok (.defer d) w/\amz d=false/\∃cap,d.target=.fn (.func p.1) cap/\kP (C.env U J.heap w) p.2 (d.args++cap).toList:=by
 unfold Ih at h;split at h
 ·rename_i x xs ts ho;split at h
  ·rename_i fid first cap hv
   cases h;have hx:=S.ev x;rw[hv]at hx;obtain⟨f',c',hx,r1,r2⟩:=hx;refine⟨{target:=.fn (.func fid) c',args:=f'++xs.map a.eval},?_,rfl,c',rfl,?_⟩
   ·simp [execOp,ho,resolve,hx,Deferred.ofValue]
   ·simp only[bS,bz];exact(r1.append (QN S xs.toList)).append r2
  ·cases h
 ·cases h
def aFg(S:nF C U J a w)(h:aa4 J o.op=some x):∃v,(execOp a.eval o).run C.P w=.halt (.panic v) w/\pm (C.env U J.heap w) x v:=by
 unfold aa4 at h;split at h
 ·rename_i y ho;split at h
  ·rename_i t z hv;cases h;have hx:=S.ev y;rw[hv]at hx;obtain⟨u,hu,r⟩:=hx;refine⟨.iface t u,?_,u,rfl,r⟩;simp [execOp,ho,hu,Instr.panic]
  ·cases h
 ·cases h
def nF.dfr(S:nF C U J a w){p:aRw×List AV}{d:Deferred}{cap:Array aRu}(hm:amz d=false)(hd:d.target=.fn (.func p.1) cap)(hr:kP (C.env U J.heap w) p.2 (d.args++cap).toList):
 nF C U (J.dfr p dst) ({a with defers:=d::a.defers}.put dst undef) w:=by
 have S1:nF C U {J with df:=p::J.df} {a with defers:=d::a.defers} w:=by
  refine {S with j9:=S.j9,defers:=⟨?_,?_,?_⟩}
  ·simp only[List.filter_cons,hm,aI,if_false];exact S.defers.1
  ·intro d' hd' hm';rcases a7.1 hd' with rfl|hd'
   ·rw[hm]at hm';cases hm'
   ·exact S.defers.2.1 d' hd' hm'
  ·simp only[List.filter_cons,hm,bH,jM];exact⟨d,_,cap,rfl,hd,hr,S.defers.2.2⟩
 exact S1.put dst rfl
def amI {ro:Option Nat} {P:aRx} (hP:C.P=P) {kE:Array Oper} {Q:oo->jS->Prop}: ∀ (rest:List Oper) (k:Nat),(ro=none\/rest.all (fun o=> !aEk o.op)=true)->kE.toList.drop k=rest-> ∀ (U:Nat->aRu) (J:jS) (a:Act) (w:aRv),
 Zq P kE rest Q J->nF C U J a w->wpOpsIn (GK ro) 0 P kE (QC C Q) (List.range' k rest.length) a w
 |[],k,_,_,U,J,a,w,h,S=>⟨U,J,S,h⟩
 |o::rest,k,hro,hk,U,J,a,w,h,S=>by
  have ho:kE[k]? =some o:=by
   have:=congrArg (fun l:List Oper=>l[0]?) hk;simpa using this
  have yd:kE.toList.drop (k+1)=rest:=by
   grind [bE]
  have ih:=amI (ro:=ro) hP (Q:=Q) rest (k+1) (hro.imp id fun h=>by grind) yd;simp only[aG,List.range'_succ,wpOpsIn,ho];simp only[Zq]at h;split at h
  ·exact h.elim
  ·rename_i b hb;rw[z6 S hb];cases b with
   |false=>
    simp only[aI,if_false];exact⟨fun _ _=>trivial,ih U _ _ w (h.2 rfl) (S.put o.dst rfl)⟩
   |true=>
    simp only[jM];have h:=h.1 rfl;split at h
    ·rename_i f args hc;obtain⟨he,xK⟩:=h;subst hP;obtain⟨vs,uB,hr⟩:=Mp S hc he;refine⟨fun _ _=>trivial,?_⟩;rw[Oper.semAt_eq _ _ _ (QP hc),uB,Oper.uponIn_enter];refine⟨fun h=>by simp [GK,Fence.wide]at h,Lc.2 ?_⟩;refine(xK C U a w rfl S vs hr).mono fun e w' ⟨o',U',H',hK,S',tD⟩=>?_
     cases o' with
     |ret r=>
      cases e with
      |returned v=>exact ih U' _ _ w' hK (S'.put o.dst tD)
      |panicked chain=>exact tD.elim
      |outgrown=>exact tD.elim
     |panic x=>
      cases e with
      |returned v=>exact tD.elim
      |panicked chain=>
       obtain⟨v,hc,hr⟩:=tD;exact⟨U',_,x,v,S',hK,hc,hr⟩
      |outgrown=>exact tD.elim
    ·split at h
     ·rename_i l args hy;obtain⟨⟨k,j9,st,uA,hl,hn⟩,xK⟩:=h;subst hP;obtain⟨D,rec,hφ,hw1,hw2,afT,rl⟩:=S.om l _ hl;obtain⟨vs,uB,hr⟩:=azp S hy hφ hw1 (by rw[afT.1];exact hn);refine⟨fun _ _=>trivial,?_⟩;rw[Oper.semAt_eq _ _ _ (aB8 hy),uB,Oper.uponIn_round];refine⟨fun h=>by simp [GK,Fence.wide]at h,azn.2 ?_⟩;refine(xK C U a w rfl S vs hr D rec hφ hw1).mono fun e w' ⟨o',U',H',hK,S',tD⟩=>?_
      cases o' with
      |ret r=>
       cases e with
       |returned v=>exact ih U' _ _ w' hK (S'.put o.dst tD)
       |panicked chain=>exact tD.elim
       |outgrown=>exact tD.elim
      |panic x=>exact hK.elim
     ·split at h
      ·rename_i e he;obtain⟨n,v,w',U',hr,hn,S'⟩:=Yb S (hP ▸ he) h.1;refine⟨fun _ _=>trivial,?_⟩
       grind [Oper.semAt_eq,azo,Oper.uponIn_value,Oper.uponIn_skip]
      ·split at h
       ·rename_i p hd;obtain⟨d,uB,hm,cap,aPo,hr⟩:=azq S hd
        have aPp:ro=none:=by
         rcases hro with hro|hro
         ·exact hro
         ·rw[List.all_cons,aU]at hro;unfold Ih at hd;split at hd
          ·rename_i ho';rw[ho']at hro;cases hro.1
          ·cases hd
        subst aPp;refine⟨fun _ _=>trivial,?_⟩;have aPq:Oper.semAt (GK none).round a.eval o=execOp a.eval o:=Oper.semAt_none _ _;rw[aPq,<-hP,uB,Oper.uponIn_defer,hP];exact ih U _ _ w h (S.dfr hm aPo hr)
       ·split at h
        ·rename_i x hx;obtain⟨v,uB,hr⟩:=aFg S hx;refine⟨fun _ _=>trivial,?_⟩;rw[<-hP,Oper.semAt_eq _ _ _ (aGZ hx),uB,Oper.uponIn_panic];exact⟨U,J,x,v,S,h,rfl,hr⟩
        ·exact h.elim
end sound
end Go.Abs
