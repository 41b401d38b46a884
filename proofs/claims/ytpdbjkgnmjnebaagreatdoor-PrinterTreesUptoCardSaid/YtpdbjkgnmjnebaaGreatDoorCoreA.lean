/- A part of the proof: abstract states and the rules for them. -/
import Derived.KernelRfl
import Derived.Calls
import Derived.Orders
import Derived.Laws.Sem
import Derived.Lib.FrozenHead
import Derived.Laws.CopyRow
import Derived.Laws.Cells
import Derived.Laws.Small
import Derived.RangeFuncRecord
import Derived.MapKept
import Derived.Lib.SliceRun
import Derived.Scope
import Derived.Deep.LoopGhost
import Derived.OrdersIn
set_option linter.all false
open Go renaming Operand→aTp,Value→aTq,World→aTr,FuncId→aTs,Program→aTt,TypeId→aTu
open Nat renaming lt_of_lt_of_le→aa,mul_le_mul_right→ar,le_refl→ax,add_mul→ay,add_zero→bo,le_trans→bp,add_assoc→bJ,one_mul→bP
open Go.Result renaming andThen_ok→ae,andThen→aA
open List renaming eq_nil_of_length_eq_zero→af,getElem?_eq_some_iff→aj,replicate→am,getElem?_append_left→av,flatten_cons→aB,getElem?_cons_zero→aD,length_cons→aE,getElem?_set_self→aM,append_assoc→aN,drop_drop→aO,drop_take→aU,getElem?_cons_succ→aV,mem_cons→aW,take_left'→aY,drop_left'→aZ,mem_append→a8,drop_append_of_le_length→be,flatten_append→bg,all_eq_true→bn,length_take→bq,length_nil→bu,drop_of_length_le→bw,tail_drop→bA,take_take→bB,getElem?_toArray→bC,length_replicate→bF,mem_cons_of_mem→bG,mem_of_getElem?→bH,map_cons→bI,take_add→bL,replicate_succ→bN
open Go.Sem renaming run_bind→ah,run_pure→ap
open Option.some renaming injEq→ai,inj→bQ
open Go.Builtin renaming append_→ak,firstCells→an,nextslicecap→a7,len_→bb,zeroCells→bl,growBy→bE,lenOf→bK
open ByteArray renaming empty→aq
open Go.Instr renaming sureAddr→au,sliceBound→az,sliceBounds→aC,indexAt→aH,buildSlice→aJ,loadAt→aK,fieldAt→aL,sliceAt→aQ,findNow→aR,lookup→aT,makeSlice→bc,storeAt→bi,mapUpdate→bt,index→bz,sameNow→bM,next→bR
open Go.MapKept renaming run_getObj_map→aw
open Bool renaming false_eq_true→aF,and_eq_true→aP,not_false→bD
open Array renaming getElem?_eq_some_iff→aG,length_toList→bf,range→bh,toList_map→br,toList_append→bO
open Go.Lib renaming strCells→aI,run_append_own_stringF→bj
open List.cons renaming injEq→aS
open Prod.mk renaming injEq→aX
namespace Go.Abs
variable {parts:Array (Nat×aTp)}{c us:Array aTq}{op:BinOp}{g im tt:Bool}{s:ByteArray}{R:Ending->aTr->Prop}{f:aTs}{k:IntKind}{ds:List Deferred}{rd:List Nat}{xs:List aTq}{D b cap l n off:Nat}{U U':Nat->aTq}{o:Oper}{ox:aTp}{base:Option Addr}{ro:Option Nat}{dst:Option Tmp}{P:aTt}{p:Prop}{r:Result Next}{W O:Type}{d:TypeDesc}{t ty:aTu}{i:TypeInfo}{h h' u v vx:aTq}{w w':aTr}
theorem jF {W:Sort _} (a b:W):cond true a b=a:=rfl
theorem jG {W:Sort _} (a b:W):cond false a b=b:=rfl
theorem jH [Decidable p] (h:p):decide p=true:=decide_eq_true h
theorem jI [Decidable p] (h:¬p):decide p=false:=decide_eq_false h
def jJ [Decidable p] (h:decide p=true):p:=of_decide_eq_true h
def jK [Decidable p] (h:decide p=false):¬p:=of_decide_eq_false h
def jL [Decidable p]:(decide p=true)=p:=decide_eq_true_eq
theorem jM {W:Type _} [BEq W] [LawfulBEq W] {a b:W}:(a==b)=true↔a=b:=beq_iff_eq
def jN {W:Sort _} {_:Decidable True} (t e:W):(if True then t else e)=t:=if_true t e
theorem jO {W:Sort _} {a b:W} (h:a=b:=by kernel_rfl):a=b:=h
def auD(o:Nat):Int:=if o=32\/(9<=o/\o<=13)then 1 else 0
def aIT(o:Nat):Option Int:=if o<256 then some (auD o)else none
def aLe(b o:Nat):Prop:=(b=0/\o=0)\/(b=1/\o<256)
def aLf(b o:Nat)(v:aTq):Prop:=(b=0->∃m,v=.int .i64 m)/\(b=1->v=.int .u8 (auD o))
def aNO(t k:Nat):Bool:=bif t==34 then(bif k==5 then false else true)else bif t==35 then(bif k==5 then false else true)else bif t==110 then(bif k==98 then false else bif k==24 then false else bif k==11 then false else bif k==34 then false else bif k==25 then false else true)else true
def aLg(t k:Nat):Bool:=bif t==110 then(bif k==24 then true else bif k==11 then true else bif k==34 then true else bif k==25 then true else false)else bif t==35 then(bif k==46 then true else bif k==9 then true else false)else bif t==23 then(bif k==100 then true else false)else false
def aLh(b:Nat):Option IntKind:=if b=1 then some .u8 else none
def aGw(b o:Nat):Option Int:=if b=1 then aIT o else none
def aoO(t:Nat):Bool:=t==141
def MM:Nat:=5
def aLi {o:Nat}{n:Int}(h:aLh b=some k)(h2:aGw b o=some n):aLe b o/\∀v,aLf b o v->v=.int k n:=by
 unfold aLh at h;split at h
 ·rename_i hb;cases h;unfold aGw at h2;rw[if_pos hb]at h2;unfold aIT at h2;split at h2
  ·rename_i ho;cases h2;exact⟨.inr ⟨hb,ho⟩,fun v hv=>hv.2 hb⟩
  ·cases h2
 ·cases h
def aPp(b:Nat):Prop:=b=3
def aIU:Array aTq:=((List.range 20).map fun i=>Value.int .u64 ((10 ^ i:Nat):Int)).toArray
structure aBB(w:aTr)(M:Nat->Nat->Prop):Prop where
 cell:∀b o,aLe b o->∃v,w.cell? ⟨b,o,none⟩=some v/\aLf b o v/\ ¬ M b o
 row:∀b,aPp b->(∀o,¬ M b o)/\∃t fz,w.heap[b]? =some (.cells aIU t fz)
inductive AV where
 |any
 |bool (b:Bool)
 |int (k:IntKind) (n:Int)
 |str (s:ByteArray)
 |sX (v:aTq)
 |agg (cs:List AV)
 |asN (cs:List AV)
 |kJ (tight:Bool) (sz:Nat) (rows:List (List AV))
 |lV (l n:Nat)
 |own (l off len cap sz:Nat)
 |ptr (l off:Nat)
 |map (l:Nat)
 |pp (cs:List AV)
 |func (fn:Fn) (first captured:List AV)
 |iface (t:aTu) (x:AV)
 |sn (t:aTu) (l:Nat)
variable {x y:AV}{es:List (AV×AV)}{df:List (aTs×List AV)}{rows ys:List (List AV)}{args cs z:List AV}
instance:Inhabited AV:=⟨.any⟩
structure D4 where
 w:aTr
 mu:Nat->Nat->Prop
 U:Nat->aTq
 ln:Nat->Option Nat
 n:Nat
variable {E E':D4}
def hdl:aTq->Option Nat
 |.map r=>r
 |.func (.yield r) _ _=>some r
 |_=>none
mutual
def pz(E:D4):AV->aTq->Prop
 |.any,_=>True
 |.bool b,v=>v=.bool b
 |.int k n,v=>v=.int k n
 |.str s,v=>v=.string s
 |.sX u,v=>v=u
 |.agg cs,v=>∃vs:Array aTq,v=.agg vs/\kQ E cs vs.toList
 |.asN cs,v=>∃vs:Array aTq,v=.tuple vs/\kQ E cs vs.toList
 |.kJ t sz rows,v=>∃base cap,v=.slice base rows.length cap/\rows.length<=cap/\(t=true->cap=rows.length)/\(base=none->cap=0)/\
     (∀a,base=some a->(rows≠[]->a.spot=none))/\(∀a,base=some a->oo E sz a.block a.off rows)
 |.lV l n,v=>l<E.n/\(∃b m c,v=.slice b m c)/\∀k,E.ln l=some k->n<=k/\(n=k->v=E.U l)
 |.own l i n o sz,v=>l<E.n/\(∃a,v=.pointer (some a))/\∀k,E.ln l=some k->n<=k/\(n=k->∃b off m c,E.U l=.slice (some ⟨b,off,none⟩) m c/\v=.pointer (some ⟨b,off+i*sz+o,none⟩))
 |.ptr l off,v=>l<E.n/\∃b,E.U l=.pointer (some ⟨b,0,none⟩)/\v=.pointer (some ⟨b,off,none⟩)
 |.map l,v=>l<E.n/\v=E.U l/\∃r,hdl (E.U l)=some r
 |.pp cs,v=>∃b off,v=.pointer (some ⟨b,off,none⟩)/\oU E b off cs
 |.func fn f c,v=>∃f' c':Array aTq,v=.func fn f' c'/\kQ E f f'.toList/\kQ E c c'.toList
 |.iface t x,v=>∃u,v=.iface t u/\pz E x u
 |.sn t l,v=>l<E.n/\∃b,E.U l=.pointer (some ⟨b,0,none⟩)/\(v=.pointer none\/v=.pointer (some ⟨b,0,none⟩))/\∃c fz,E.w.heap[b]? =some (.cells c t fz)
def kQ(E:D4):List AV->List aTq->Prop
 |[],vs=>vs=[]
 |c::cs,vs=>∃u us,vs=u::us/\pz E c u/\kQ E cs us
def oU(E:D4)(b off:Nat):List AV->Prop
 |[]=>True
 |c::cs=>(¬ E.mu b off/\∃u,E.w.cell? ⟨b,off,none⟩=some u/\u.oneCell'=true/\pz E c u)/\oU E b (off+1) cs
def oo(E:D4)(sz b off:Nat):List (List AV)->Prop
 |[]=>True
 |r::rs=>r.length=sz/\oU E b off r/\oo E sz b (off+sz) rs
end
def tyk(w w':aTr):Prop:=∀(b:Nat)(c:Array aTq)(t:aTu)(fz:Nat×Nat),w.heap[b]? =some (Obj.cells c t fz)->∃(c':Array aTq)(fz':Nat×Nat),w'.heap[b]? =some (Obj.cells c' t fz')
def CQ(w:aTr):tyk w w:=fun _ c _ fz h=>⟨c,fz,h⟩
def tyk.trans {w'':aTr}(h:tyk w w')(k:tyk w' w''):tyk w w'':=fun b c t fz hc=>by
 obtain⟨c',fz',h'⟩:=h b c t fz hc;exact k b c' t fz' h'
def auE(h:∀b,b<w.heap.size->w'.heap[b]? =w.heap[b]?):tyk w w':=fun b c t fz hc=>by
 refine⟨c,fz,?_⟩
 rw[h b (by
  rcases Nat.lt_or_ge b w.heap.size with h'|h'
  ·exact h'
  ·simp [Array.getElem?_eq_none h']at hc)]
 exact hc
def aoP {w1:aTr}(o:Obj)(h:w1.heap=w.heap.push o):tyk w w1:=auE fun b hb=>by
 rw[h,Array.getElem?_push,if_neg (by omega)]
def azz{o:Obj}(hD:w.heap[D]? =some o)(ho:∀c t fz,o≠ .cells c t fz)(h:∀b,b≠D->w'.heap[b]? =w.heap[b]?):tyk w w':=fun b c t fz hc=>by
 refine⟨c,fz,?_⟩;rw[h b (fun e=>by subst e;rw[hD]at hc;exact ho c t fz (bQ hc))];exact hc
structure D4.Le(N:Nat)(E E':D4):Prop where
 n:N<=E'.n
 mF:∀l,l<N->(E'.U l=E.U l/\(E'.ln l=E.ln l\/E'.ln l=none))\/
  ((∃k,E.ln l=some k/\∀k',E'.ln l=some k'->k<k')/\(∀a,E.U l≠ .pointer a)/\hdl (E.U l)=none)
 mem:∀b o u,¬ E.mu b o->E.w.cell? ⟨b,o,none⟩=some u-> ¬ E'.mu b o/\E'.w.cell? ⟨b,o,none⟩=some u
 ty:tyk E.w E'.w
mutual
def AV.nb(N:Nat):AV->Prop
 |.agg cs|.asN cs|.pp cs=>ua N cs
 |.kJ _ _ rows=>alP N rows
 |.lV l _|.own l _ _ _ _|.ptr l _|.map l|.sn _ l=>l<N
 |.func _ f c=>ua N f/\ua N c
 |.iface _ x=>x.nb N
 |.any|.bool _|.int _ _|.str _|.sX _=>True
def ua(N:Nat):List AV->Prop
 |[]=>True
 |c::cs=>c.nb N/\ua N cs
def alP(N:Nat):List (List AV)->Prop
 |[]=>True
 |r::rs=>ua N r/\alP N rs
end
section
variable {N:Nat}
mutual
def pz.mono(h:E.Le N E'):∀(x:AV)(v:aTq),x.nb N->pz E x v->pz E' x v
 |.any,_,_,_=>trivial
 |.bool _,_,_,r=>r
 |.int _ _,_,_,r=>r
 |.str _,_,_,r=>r
 |.sX _,_,_,r=>r
 |.agg cs,_,hb,⟨vs,hv,hr⟩=>⟨vs,hv,kQ.mono h cs _ hb hr⟩
 |.asN cs,_,hb,⟨vs,hv,hr⟩=>⟨vs,hv,kQ.mono h cs _ hb hr⟩
 |.kJ _ _ rows,_,hb,⟨base,cap,h1,h2,h3,h4,h5,h6⟩=>⟨base,cap,h1,h2,h3,h4,h5,fun a ha=>oo.mono h rows _ hb (h6 a ha)⟩
 | .lV l n,v,hb,⟨_,hsl,r⟩=>by
   refine⟨aa hb h.n,hsl,fun k' YG=>?_⟩;rcases h.mF l hb with⟨hφ,hl|hl⟩|⟨⟨k,hk,rQ⟩,_⟩
   ·rw[hl]at YG;rw[hφ];exact r k' YG
   ·rw[hl]at YG;cases YG
   ·have:=rQ k' YG;have:=r k hk;exact⟨by omega,fun e=>by omega⟩
 | .own l i n o sz,v,hb,⟨_,hsl,r⟩=>by
   refine⟨aa hb h.n,hsl,fun k' YG=>?_⟩;rcases h.mF l hb with⟨hφ,hl|hl⟩|⟨⟨k,hk,rQ⟩,_⟩
   ·rw[hl]at YG;rw[hφ];exact r k' YG
   ·rw[hl]at YG;cases YG
   ·have:=rQ k' YG;have:=r k hk;exact⟨by omega,fun e=>by omega⟩
 | .ptr l off,v,hb,⟨_,b,hφ,hv⟩=>by
   refine⟨aa hb h.n,b,?_,hv⟩;rcases h.mF l hb with⟨h1,_⟩|⟨_,h2,_⟩
   ·rw[h1];exact hφ
   ·exact absurd hφ (h2 _)
 | .map l,v,hb,⟨_,hv,r,hφ⟩=>by
   refine⟨aa hb h.n,?_,r,?_⟩
   all_goals rcases h.mF l hb with⟨h1,_⟩|⟨_,_,h2⟩
   ·rw[h1];exact hv
   ·rw[h2]at hφ;cases hφ
   ·rw[h1];exact hφ
   ·rw[h2]at hφ;cases hφ
 |.pp cs,_,hb,⟨b,off,hv,r⟩=>⟨b,off,hv,oU.mono h cs _ hb r⟩
 |.func _ f c,_,hb,⟨f',c',hv,r1,r2⟩=>⟨f',c',hv,kQ.mono h f _ hb.1 r1,kQ.mono h c _ hb.2 r2⟩
 |.iface _ x,_,hb,⟨u,hv,r⟩=>⟨u,hv,pz.mono h x _ hb r⟩
 | .sn t l,v,hb,⟨_,b,hφ,hv,c,fz,hc⟩=>by
   refine⟨aa hb h.n,b,?_,hv,h.ty b c t fz hc⟩;rcases h.mF l hb with⟨h1,_⟩|⟨_,h2,_⟩
   ·rw[h1];exact hφ
   ·exact absurd hφ (h2 _)
def kQ.mono(h:E.Le N E'):∀(cs:List AV)(vs:List aTq),ua N cs->kQ E cs vs->kQ E' cs vs
 |[],_,_,r=>r
 |c::cs,_,hb,⟨u,us,hv,r1,r2⟩=>⟨u,us,hv,pz.mono h c _ hb.1 r1,kQ.mono h cs _ hb.2 r2⟩
def oU.mono(h:E.Le N E'){b:Nat}:∀(cs:List AV)(off:Nat),ua N cs->oU E b off cs->oU E' b off cs
 |[],_,_,_=>trivial
 |c::cs,off,hb,⟨⟨hm,u,hu,h1,r1⟩,r2⟩=>
  let ⟨m,c'⟩:=h.mem b off u hm hu
  ⟨⟨m,u,c',h1,pz.mono h c _ hb.1 r1⟩,oU.mono h cs _ hb.2 r2⟩
def oo.mono(h:E.Le N E'){sz b:Nat}:∀(rs:List (List AV))(off:Nat),alP N rs->oo E sz b off rs->oo E' sz b off rs
 |[],_,_,_=>trivial
 |r::rs,off,hb,⟨hl,r1,r2⟩=>⟨hl,oU.mono h r _ hb.1 r1,oo.mono h rs _ hb.2 r2⟩
end
mutual
theorem pz.nb:∀(x:AV)(v:aTq),pz E x v->x.nb E.n
 |.any,_,_|.bool _,_,_|.int _ _,_,_|.str _,_,_|.sX _,_,_=>trivial
 |.agg cs,_,⟨_,_,hr⟩=>kQ.nb cs _ hr
 |.asN cs,_,⟨_,_,hr⟩=>kQ.nb cs _ hr
 | .kJ _ _ rows,_,⟨base,cap,h1,h2,h3,h4,h5,h6⟩=>by
   cases base with
   |none=>
    have:rows.length=0:=by have:=h4 rfl;omega
    have:rows=[]:=af this;subst this;trivial
   |some a=>exact oo.nb rows _ (h6 a rfl)
 |.lV _ _,_,⟨h,_⟩=>h
 |.own _ _ _ _ _,_,⟨h,_⟩=>h
 |.ptr _ _,_,⟨h,_⟩=>h
 |.map _,_,⟨h,_⟩=>h
 |.pp cs,_,⟨_,_,_,r⟩=>oU.nb cs _ r
 |.func _ f c,_,⟨_,_,_,r1,r2⟩=>⟨kQ.nb f _ r1,kQ.nb c _ r2⟩
 |.iface _ x,_,⟨_,_,r⟩=>pz.nb x _ r
 |.sn _ _,_,⟨h,_⟩=>h
theorem kQ.nb:∀(cs:List AV)(vs:List aTq),kQ E cs vs->ua E.n cs
 |[],_,_=>trivial
 |c::cs,_,⟨_,_,_,r1,r2⟩=>⟨pz.nb c _ r1,kQ.nb cs _ r2⟩
theorem oU.nb{b:Nat}:∀(cs:List AV)(off:Nat),oU E b off cs->ua E.n cs
 |[],_,_=>trivial
 |c::cs,_,⟨⟨_,_,_,_,r1⟩,r2⟩=>⟨pz.nb c _ r1,oU.nb cs _ r2⟩
theorem oo.nb{sz b:Nat}:∀(rs:List (List AV))(off:Nat),oo E sz b off rs->alP E.n rs
 |[],_,_=>trivial
 |r::rs,_,⟨_,r1,r2⟩=>⟨oU.nb r _ r1,oo.nb rs _ r2⟩
end
mutual
def AV.asj{M:Nat}(h:N<=M):∀x:AV,x.nb N->x.nb M
 |.any,_|.bool _,_|.int _ _,_|.str _,_|.sX _,_=>trivial
 |.agg cs,r=>so h cs r
 |.asN cs,r=>so h cs r
 |.pp cs,r=>so h cs r
 |.kJ _ _ rows,r=>azA h rows r
 |.lV _ _,r=>aa r h
 |.own _ _ _ _ _,r=>aa r h
 |.ptr _ _,r=>aa r h
 |.map _,r=>aa r h
 |.func _ f c,r=>⟨so h f r.1,so h c r.2⟩
 |.iface _ x,r=>AV.asj h x r
 |.sn _ _,r=>aa r h
def so{M:Nat}(h:N<=M):∀cs:List AV,ua N cs->ua M cs
 |[],_=>trivial
 |c::cs,r=>⟨AV.asj h c r.1,so h cs r.2⟩
def azA{M:Nat}(h:N<=M):∀rs:List (List AV),alP N rs->alP M rs
 |[],_=>trivial
 |r::rs,q=>⟨so h r q.1,azA h rs q.2⟩
end
end
section lists

theorem kQ.length:∀{cs:List AV}{vs:List aTq},kQ E cs vs->vs.length=cs.length
 |[],_,rfl=>rfl
 |_::_,_,⟨_,_,rfl,_,r2⟩=>by simp [kQ.length r2]
def kQ.get:∀{cs:List AV}{vs:List aTq}{i:Nat}{c:AV},kQ E cs vs->cs[i]? =some c->∃v,vs[i]? =some v/\pz E c v
 |c::cs,_,0,_,⟨u,us,rfl,r1,r2⟩,h=>by
  simp at h;subst h;exact⟨u,by simp,r1⟩
 |c::cs,_,i+1,_,⟨u,us,rfl,r1,r2⟩,h=>by
  simp at h;obtain⟨v,hv,r⟩:=kQ.get r2 h;exact⟨v,by simpa using hv,r⟩
def kQ.set:∀{cs:List AV}{vs:List aTq}{i:Nat}{c:AV}{v:aTq},kQ E cs vs->pz E c v->kQ E (cs.set i c) (vs.set i v)
 |[],_,_,_,_,rfl,_=>rfl
 |_::_,_,0,_,v,⟨_,us,rfl,_,r2⟩,r=>⟨v,us,rfl,r,r2⟩
 |_::_,_,i+1,_,v,⟨u,us,rfl,r1,r2⟩,r=>⟨u,us.set i v,rfl,r1,kQ.set r2 r⟩
theorem kQ.append:∀{cs ds:List AV}{vs us:List aTq},kQ E cs vs->kQ E ds us->kQ E (cs++ds) (vs++us)
 |[],_,_,_,rfl,r=>r
 |_::_,_,_,_,⟨u,us,rfl,r1,r2⟩,r=>⟨u,us++_,rfl,r1,kQ.append r2 r⟩
theorem kQ.take:∀{cs:List AV}{vs:List aTq}(k:Nat),kQ E cs vs->kQ E (cs.take k) (vs.take k)
 |[],_,_,rfl=>by simp [kQ]
 |_::_,_,0,_=>by simp [kQ]
 |_::_,_,k+1,⟨u,us,rfl,r1,r2⟩=>⟨u,us.take k,by simp,r1,kQ.take k r2⟩
theorem kQ.drop:∀{cs:List AV}{vs:List aTq}(k:Nat),kQ E cs vs->kQ E (cs.drop k) (vs.drop k)
 |[],_,_,rfl=>by simp [kQ]
 |_::_,_,0,h=>by simpa using h
 |_::_,_,k+1,⟨u,us,rfl,r1,r2⟩=>by simpa using kQ.drop k r2
def kQ.FP:∀(vs:List aTq),kQ E (am vs.length .any) vs
 |[]=>rfl
 |v::vs=>⟨v,vs,rfl,trivial,kQ.FP vs⟩
theorem oU.drop:∀{cs:List AV}{off:Nat}(k:Nat),oU E b off cs->oU E b (off+k) (cs.drop k)
 |[],_,_,_=>by simp [oU]
 |_::_,_,0,h=>by simpa using h
 |_::_,off,k+1,⟨_,r⟩=>by
  have:=oU.drop k r
  grind
def oo.get {sz:Nat}:∀{rs:List (List AV)}{off i:Nat}{r:List AV},oo E sz b off rs->rs[i]? =some r->
 r.length=sz/\oU E b (off+i*sz) r
 |_::_,off,0,_,⟨hl,m,_⟩,h=>by grind
 |_::_,off,i+1,_,⟨_,_,r⟩,h=>by
  simp at h;obtain⟨h1,h2⟩:=oo.get r h
  grind
theorem oo.drop {sz:Nat}:∀{rs:List (List AV)}{off:Nat}(k:Nat),k<=rs.length->oo E sz b off rs->oo E sz b (off+k*sz) (rs.drop k)
 |[],_,_,_,_=>by simp [oo]
 |_::_,_,0,_,h=>by simpa using h
 |_::_,off,k+1,hk,⟨_,_,r⟩=>by
  have:=oo.drop k (by simpa using hk) r
  grind
theorem oo.take {sz:Nat}:∀{rs:List (List AV)}{off:Nat}(k:Nat),oo E sz b off rs->oo E sz b off (rs.take k)
 |[],_,_,_=>by simp [oo]
 |_::_,_,0,_=>by simp [oo]
 |_::_,_,k+1,⟨h1,h2,r⟩=>⟨h1,h2,oo.take k r⟩
theorem oU.append:∀{cs ds:List AV}{off:Nat},oU E b off cs->oU E b (off+cs.length) ds->oU E b off (cs++ds)
 |[],_,_,_,h=>by simpa using h
 |c::cs,_,off,⟨h1,h3⟩,h=>by
  refine⟨h1,oU.append h3 ?_⟩
  grind
end lists
structure xP where
 ps:Array Tmp
 assign:Code
 body:Code
 js:List (Int×Code)
def aBC:List (Int×Code)->Int->Option Code
 |[],_=>none
 |(k,c)::cs,j=>match cs with
  |[]=>some c
  |_::_=>bif j==k then some c else aBC cs j
def pX(js:List (Int×Code))(j:Int):Option Code:=bif j==0 then none else aBC js j
inductive j6 where
 |cells (cs:List AV)
 |lV (tZ:Bool) (sz:Nat) (rows:List (List AV))
 |map (es:List (AV×AV))
 |loop (k:xP) (kf:List AV) (st:LoopState) (uD:Int)
 |iter (s:ByteArray) (pos:Nat)
 |alT (s:ByteArray)
 |vz
variable {H H':List j6}
structure jT where
 kf:List AV
 heap:List j6
 low:Nat:=0
 df:List (aTs×List AV):=[]
variable {J:jT}
def MN:aTq->AV
 |.int k n=>.int k n
 |.bool b=>.bool b
 |.string s=>.str s
 |.slice none 0 0=>.kJ true 0 []
 |v=>.sX v
def jT.ev(J:jT):aTp->AV
 |.tmp t=>J.kf.getD t .any
 |.const v=>MN v
 |.global g=>.sX (.pointer (some ⟨g,0,none⟩))
 |.func f=>.func (.func f) [] []
def jT.put(J:jT)(dst:Option Tmp)(x:AV):jT:=
 match dst with
 |some d=>{J with kf:=J.kf.set d x}
 |none=>J
def j6.Bf:j6->aTq->Nat->Nat->Prop
 |.cells _,.pointer (some a),b,_=>b=a.block
 |.lV tZ sz _,.slice (some a) n cap,b,o=>(b=a.block/\cap≠0)/\(tZ=true->a.off+n*sz<=o)
 |.map _,.map (some r),b,_=>b=r
 |.loop _ _ _ _,.func (.yield r) _ _,b,_=>b=r\/b+1=r
 |.iter _ _,.pointer (some a),b,_=>b=a.block
 |.alT _,h,b,_=>h.ownBlock=some b
 |_,_,_,_=>False
def j6.block:j6->aTq->Nat->Prop
 |.cells _,.pointer (some a),b=>b=a.block
 |.lV _ _ _,.slice (some a) _ cap,b=>b=a.block/\cap≠0
 |.map _,.map (some r),b=>b=r
 |.loop _ _ _ _,.func (.yield r) _ _,b=>b=r\/b+1=r
 |.iter _ _,.pointer (some a),b=>b=a.block
 |.alT _,h,b=>h.ownBlock=some b
 |_,_,_=>False
theorem j6.ou{x:j6}{o:Nat}(m:x.Bf h b o):x.block h b:=by
 unfold j6.Bf at m;grind [j6.block]
def G9(U:Nat->aTq)(H:List j6)(b o:Nat):Prop:=∃(l:Nat)(x:j6),H[l]? =some x/\x.Bf (U l) b o
def mT:Option j6->Option Nat
 |some (.lV _ _ rows)=>some rows.length
 |some (.alT s)=>some s.size
 |_=>none
def World.more(w:aTr)(o:Obj):aTr:={w with heap:=w.heap.push o}
def auF {w1:aTr}{o:Obj}(h:w1.heap=w.heap):tyk w (World.more w1 o):=aoP o (by show w1.heap.push o=_;rw[h])
def aus(w:aTr)(b:Nat)(c':Array aTq):tyk w (w.setRow b c'):=fun b' c t fz hc=>by
 by_cases e:b'=b
 ·subst e;exact⟨c',fz,setRow_heap w b' c c' t fz hc⟩
 ·exact⟨c,fz,by rw[setRow_other w b b' c' e];exact hc⟩
def aeL {base e sz:Nat}(h:w.ownsRowF base e sz v n xs)(hs:∀b,v.ownBlock=some b->w'.heap[b]? =w.heap[b]?):w'.ownsRowF base e sz v n xs:=by
 refine⟨h.1,?_⟩;rcases h.2 with hn|⟨g,cap,cur,fz,rfl,hb,hg,rest⟩
 ·exact .inl hn
 ·exact .inr ⟨g,cap,cur,fz,rfl,hb,by rw[hs g rfl];exact hg,rest⟩
structure qC where
 P:aTt
 w0:aTr
 M0:Nat->Nat->Prop
 A:Nat->Nat->Prop
 hA:∀b o,A b o->b<w0.heap.size
 hk:aBB w0 M0
 N0:Nat:=0
 U0:Nat->aTq:=fun _=>.tuple #[]
 ln0:Nat->Option Nat:=fun _=>none
variable {C:qC}
def qC.env(C:qC)(U:Nat->aTq)(H:List j6)(w:aTr):D4:=
 {w,mu:=fun b o=>G9 U H b o\/C.A b o,U,ln:=fun l=>mT H[l]?,n:=H.length}
def td(E:D4):List (AV×AV)->List MapEntry->Prop
 |[],es=>es=[]
 |(k,v)::r,es=>∃e s,es=e::s/\pz E k e.key/\pz E v e.val/\td E r s
def oP(E:D4):j6->aTq->Prop
 |.cells cs,h=>∃b c t,h=.pointer (some ⟨b,0,none⟩)/\E.w.heap[b]? =some (.cells c t (0,0))/\kQ E cs c.toList/\∀u∈c.toList,u.oneCell'=true
 |.lV _ sz rows,h=>∃base cap,h=.slice base rows.length cap/\rows.length<=cap/\(base=none->cap=0)/\(∀r∈rows,r.length=sz)/\
     ∀a,base=some a->cap≠0->a.spot=none/\∃c t,E.w.heap[a.block]? =some (.cells c t (0,0))/\a.off+cap*sz<=c.size/\
      kQ E rows.flatten ((c.toList.drop a.off).take (rows.length*sz))/\∀u∈(c.toList.drop a.off).take (rows.length*sz),u.oneCell'=true
 |.map es,h=>∃r entries clock,h=.map (some r)/\E.w.heap[r]? =some (.map entries clock)/\td E es entries.toList
 |.loop k kf st uD,h=>∃D rec,h=.func (.yield (D+1)) #[] #[]/\E.w.heap[D+1]? =some (.loop rec)/\E.w.heap[D]? =some (.deferred (some []))/\
     (rec.params=k.ps/\rec.assign=k.assign/\rec.body=k.body/\rec.state=st/\rec.pending=pX k.js uD/\rec.defers=D)/\kQ E kf rec.tmps.toList
 |.iter s p,h=>∃b,h=.pointer (some ⟨b,0,none⟩)/\E.w.heap[b]? =some (.stringIter s p)
 |.alT s,h=>E.w.ownsRowF 0 MM 1 h s.size (aI s)
 |.vz,_=>True
def aLj(C:qC)(U:Nat->aTq)(H:List j6):Prop:=∀l,l<C.N0->(U l=C.U0 l/\(mT H[l]? =C.ln0 l\/mT H[l]? =none))\/
 ((∃k,C.ln0 l=some k/\∀k',mT H[l]? =some k'->k<k')/\(∀a,C.U0 l≠ .pointer a)/\hdl (C.U0 l)=none)
def aoQ(d:Deferred):Bool:=match d.target with
 |.collected _=>true
 |_=>false
def Rm(E:D4):List (aTs×List AV)->List Deferred->Prop
 |[],ds=>ds=[]
 |(f,xs)::r,ds=>∃d s cap,ds=d::s/\d.target=.fn (.func f) cap/\kQ E xs (d.args++cap).toList/\Rm E r s
def Rm.imp(h:∀(xs:List AV)(vs:List aTq),kQ E xs vs->kQ E' xs vs):∀{df:List (aTs×List AV)}{ds:List Deferred},Rm E df ds->Rm E' df ds
 |[],_,r=>r
 |_::_,_,⟨d,s,cap,h1,h2,h3,h4⟩=>⟨d,s,cap,h1,h2,h _ _ h3,Rm.imp h h4⟩
def Rm.mono(h:E.Le E.n E')(r:Rm E df ds):Rm E' df ds:=
 r.imp fun _ _ r=>kQ.mono h _ _ (kQ.nb _ _ r) r
theorem Rm.nb:∀{df:List (aTs×List AV)}{ds:List Deferred},Rm E df ds->∀p∈df,ua E.n p.2
 |[],_,_,_,h=>by cases h
 |q::r,_,⟨_,_,_,_,_,h3,h4⟩,p,hp=>by
  rcases aW.1 hp with rfl|hp
  ·exact kQ.nb _ _ h3
  ·exact Rm.nb h4 p hp
def tf(C:qC)(U:Nat->aTq)(H:List j6)(w:aTr)(df:List (aTs×List AV))(ds:List Deferred):Prop:=
 (ds.filter aoQ).Nodup/\(∀d∈ds,aoQ d=true->∃D,d=⟨.collected D,#[]⟩/\w.heap[D]? =some (.deferred (some []))/\C.w0.heap.size<=D/\∀(l:Nat)(x:j6),H[l]? =some x-> ¬ x.block (U l) D)/\
   Rm (C.env U H w) df (ds.filter fun d=> !aoQ d)
theorem tf.nil:tf C U H w [] []:=⟨List.nodup_nil,fun _ h _=>(by cases h),rfl⟩
def tf.aBD(h:tf C U H w df ds)
 (hr:∀(xs:List AV)(vs:List aTq),(∃f,(f,xs)∈df)->kQ (C.env U H w) xs vs->kQ (C.env U' H' w') xs vs)
 (asP:∀b,b<w.heap.size->(∀(l:Nat)(x:j6),H[l]? =some x-> ¬ x.block (U l) b)->w'.heap[b]? =w.heap[b]?)
 (JD:∀(l:Nat)(x:j6)(b:Nat),H'[l]? =some x->x.block (U' l) b->(∃(k:Nat)(y:j6),H[k]? =some y/\y.block (U k) b)\/w.heap.size<=b):tf C U' H' w' df ds:=by
 refine⟨h.1,fun d hd hm=>?_,?_⟩
 ·obtain⟨D,h1,h2,h3,h4⟩:=h.2.1 d hd hm
  grind
 ·have key:∀(df':List (aTs×List AV))(ds':List Deferred),(∀p∈df',p∈df)->Rm (C.env U H w) df' ds'->Rm (C.env U' H' w') df' ds':=by
   intro df';induction df' with
   |nil=>intro _ _ r;exact r
   |cons p r ih=>
    intro ds' hp ⟨d,s,cap,h1,h2,h3,h4⟩;exact⟨d,s,cap,h1,h2,hr _ _ ⟨p.1,hp p (List.mem_cons_self ..)⟩ h3,ih _ (fun q hq=>hp q (bG _ hq)) h4⟩
  exact key df _ (fun _ h=>h) h.2.2
theorem tf.step(h:tf C U H w df ds)(le:(C.env U H w).Le H.length (C.env U' H' w'))
 (asP:∀b,b<w.heap.size->(∀(l:Nat)(x:j6),H[l]? =some x-> ¬ x.block (U l) b)->w'.heap[b]? =w.heap[b]?)
 (JD:∀(l:Nat)(x:j6)(b:Nat),H'[l]? =some x->x.block (U' l) b->(∃(k:Nat)(y:j6),H[k]? =some y/\y.block (U k) b)\/w.heap.size<=b):tf C U' H' w' df ds:=
 h.aBD (fun xs vs _ r=>kQ.mono le _ _ (kQ.nb _ _ r) r) asP JD
theorem tf.same(h:tf C U H w df ds)(le:(C.env U H w).Le H.length (C.env U H w'))(asP:∀b,b<w.heap.size->w'.heap[b]? =w.heap[b]?):tf C U H w' df ds:=
 h.step le (fun b hb _=>asP b hb) (fun l x b hx hb=>.inl ⟨l,x,hx,hb⟩)
structure nK(C:qC)(U:Nat->aTq)(J:jT)(a:Act)(w:aTr):Prop where
 kf:kQ (C.env U J.heap w) J.kf a.tmps.toList
 defers:tf C U J.heap w J.df a.defers
 oB:∀(l:Nat)(x:j6),J.heap[l]? =some x->oP (C.env U J.heap w) x (U l)
 apart:∀(l l':Nat)(x x':j6)(b:Nat),J.heap[l]? =some x->J.heap[l']? =some x'->x.block (U l) b->x'.block (U l') b->l=l'
 uf:∀(l:Nat)(x:j6)(b o:Nat),J.heap[l]? =some x->x.block (U l) b-> ¬ C.A b o
 size:C.w0.heap.size<=w.heap.size
 old:∀b o,b<C.w0.heap.size-> ¬ C.M0 b o->w.cell? ⟨b,o,none⟩=C.w0.cell? ⟨b,o,none⟩
 n9:∀b,b<C.w0.heap.size->(∀o,¬ C.M0 b o)->w.heap[b]? =C.w0.heap[b]?
 Cl:∀(l:Nat)(x:j6)(b o:Nat),J.heap[l]? =some x->x.Bf (U l) b o->b<C.w0.heap.size->C.M0 b o
 xf:∀a,a.block<C.w0.heap.size->(∀o,¬ C.M0 a.block o)->w.frozen? a=C.w0.frozen? a
 rest:w.output=C.w0.output/\w.os=C.w0.os
 low:C.N0=J.low/\J.low<=J.heap.length
 mF:aLj C U J.heap
 ty:tyk C.w0 w:=by first|exact S.ty|exact S.ty.trans (by first|exact fun _ c _ fz h=>⟨c,fz,h⟩|exact auF rfl|exact aus _ _ _|exact auE (by assumption)|assumption)|exact S.ty.trans S'.ty|exact fun _ c _ fz h=>⟨c,fz,h⟩|(rw[h0];exact CQ _)
section basics
variable {a:Act}
def ayx(E:D4)(v:aTq):pz E (MN v) v:=by
 unfold MN;split
 ·rfl
 ·rfl
 ·rfl
 ·exact⟨none,0,rfl,ax _,fun _=>rfl,fun _=>rfl,(by intro a h;cases h),(by intro a h;cases h)⟩
 ·rfl
theorem nK.ev(S:nK C U J a w)(x:aTp):pz (C.env U J.heap w) (J.ev x) (a.eval x):=by
 cases x with
 |tmp t=>
  simp only[jT.ev,Act.eval,List.getD];cases h:J.kf[t]? with
  |none=>exact trivial
  |some c=>
   obtain⟨v,hv,r⟩:=S.kf.get h
   simp_all
 |const v=>exact ayx _ v
 |global g=>rfl
 |func f=>exact⟨#[],#[],rfl,rfl,rfl⟩
theorem nK.put(S:nK C U J a w)(dst:Option Tmp)(r:pz (C.env U J.heap w) x v):nK C U (J.put dst x) (a.put dst v) w:=by
 cases dst with
 |none=>exact S
 |some d=>
  refine {S with kf:=?_,defers:=S.defers};have:=S.kf.set (i:=d) r
  grind [jT.put,Act.put]
def qC.CR(hn:H.length<=H'.length)
 (hφ:∀l,l<H.length->U' l=U l/\mT H'[l]? =mT H[l]?)
 (aBE:∀b o u,¬ (G9 U H b o\/C.A b o)->w.cell? ⟨b,o,none⟩=some u-> ¬ (G9 U' H' b o\/C.A b o)/\w'.cell? ⟨b,o,none⟩=some u) (ht:tyk w w':=by first|exact fun _ c _ fz h=>⟨c,fz,h⟩|exact auF rfl|exact aus _ _ _|exact auE (by assumption)|assumption):
 (C.env U H w).Le H.length (C.env U' H' w'):=
 ⟨hn,fun l hl=>.inl ⟨(hφ l hl).1,.inl (hφ l hl).2⟩,aBE,ht⟩
theorem GA {o:Nat}(h:w.cell? ⟨b,o,none⟩=some u):b<w.heap.size:=by
 grind [World.cell?]
def nK.know(S:nK C U J a w):aBB w (G9 U J.heap) where
 cell b o h:=by
  obtain⟨v,hc,hv,hm⟩:=C.hk.cell b o h;have hb:=GA hc;refine⟨v,by rw[S.old b o hb hm];exact hc,hv,?_⟩;rintro⟨l,x,hx,hmu⟩;exact hm (S.Cl l x b o hx hmu hb)
 row b h:=by
  obtain⟨hm,t,fz,hc⟩:=C.hk.row b h;have hb:b<C.w0.heap.size:=(aG.1 hc).1;refine⟨?_,t,fz,by rw[S.n9 b hb hm];exact hc⟩;rintro o ⟨l,x,hx,hmu⟩;exact hm o (S.Cl l x b o hx hmu hb)
@[simp] theorem Wu(w:aTr)(o:Obj):(World.more w o).heap.size=w.heap.size+1:=by simp [World.more]
theorem zg(w:aTr)(o:Obj)(h:b<w.heap.size):(World.more w o).heap[b]? =w.heap[b]? :=by
 grind [World.more]
theorem ay4(w:aTr)(o:Obj):(World.more w o).heap[w.heap.size]? =some o:=by
 show(w.heap.push o)[w.heap.size]? =some o;simp
theorem FQ(w:aTr)(o:Obj){i:Nat}(h:b<w.heap.size):(World.more w o).cell? ⟨b,i,none⟩=w.cell? ⟨b,i,none⟩:=by
 grind [World.cell?,zg]
theorem aw9(w:aTr)(c:Array aTq)(t:aTu)(i:Nat):(World.more w (.cells c t)).cell? ⟨w.heap.size,i,none⟩=c[i]? :=by
 grind [World.cell?,ay4]
theorem xh(w:aTr)(o:Obj)(ho:∀c t lo hi,o=.cells c t (lo,hi)->lo=0/\hi=0)(a:Addr):(World.more w o).frozen? a=w.frozen? a:=by
 grind [World.frozen?,World.more]
def oP.qQ{x:j6}(r:oP E x h)(hb:x.block h b):b<E.w.heap.size:=by
 cases x with
 |cells cs=>
  obtain⟨b',c,t,rfl,hh,_⟩:=r
  grind [j6.block]
 |lV tZ sz rows=>
  obtain⟨base,cap,rfl,_,_,_,hh⟩:=r;cases base with
  |none=>simp [j6.block]at hb
  |some a0=>
   grind [j6.block]
 |map es=>
  obtain⟨r',en,cl,rfl,hh,_⟩:=r
  grind [j6.block]
 |loop k kf st uD=>
  obtain⟨D,rec,rfl,h1,h2,_⟩:=r
  grind [j6.block]
 |iter s p=>
  obtain⟨b',rfl,hh⟩:=r
  grind [j6.block]
 |alT s=>exact(World.ownsRowF.lt r b hb).2
 |vz=>simp [j6.block]at hb
def td.mono{N:Nat}(h:E.Le N E'):∀{es:List (AV×AV)}{xs:List MapEntry},(∀p∈es,p.1.nb N/\p.2.nb N)->td E es xs->td E' es xs
 |[],_,_,r=>r
 |(k,v)::_,_,hb,⟨e,s,he,r1,r2,r3⟩=>
  ⟨e,s,he,pz.mono h k _ (hb (k,v) (by simp)).1 r1,pz.mono h v _ (hb (k,v) (by simp)).2 r2,td.mono h (fun p hp=>hb p (by simp [hp])) r3⟩
theorem td.nb:∀{es:List (AV×AV)}{xs:List MapEntry},td E es xs->∀p∈es,p.1.nb E.n/\p.2.nb E.n
 |[],_,_=>by simp
 |(k,v)::_,_,⟨e,s,he,r1,r2,r3⟩=>by
  intro p hp;simp only[aW]at hp;rcases hp with rfl|hp
  ·exact⟨pz.nb _ _ r1,pz.nb _ _ r2⟩
  ·exact td.nb r3 p hp
def oP.mono{x:j6}{hd:aTq}(r:oP E x hd)(h:E.Le E.n E')(hs:∀b,x.block hd b->E'.w.heap[b]? =E.w.heap[b]?):oP E' x hd:=by
 cases x with
 |cells cs=>
  obtain⟨b,c,t,rfl,hh,rl,h1⟩:=r;exact⟨b,c,t,rfl,by rw[hs b rfl,hh],kQ.mono h _ _ (kQ.nb _ _ rl) rl,h1⟩
 |lV tZ sz rows=>
  obtain⟨base,cap,rfl,h1,h2,h3,hh⟩:=r;refine⟨base,cap,rfl,h1,h2,h3,fun a0 ha hc=>?_⟩;obtain⟨h4,c,t,h5,h6,rl,h1⟩:=hh a0 ha hc;subst ha;exact⟨h4,c,t,by rw[hs _ ⟨rfl,hc⟩,h5],h6,kQ.mono h _ _ (kQ.nb _ _ rl) rl,h1⟩
 |map es=>
  obtain⟨r',en,cl,rfl,hh,rp⟩:=r;exact⟨r',en,cl,rfl,by rw[hs r' rfl,hh],td.mono h (td.nb rp) rp⟩
 |loop k kf st uD=>
  obtain⟨D,rec,rfl,h1,h2,h3,rl⟩:=r;exact⟨D,rec,rfl,by rw[hs (D+1) (.inl rfl),h1],by rw[hs D (.inr rfl),h2],h3,kQ.mono h _ _ (kQ.nb _ _ rl) rl⟩
 |iter s p=>
  obtain⟨b,rfl,hh⟩:=r;exact⟨b,rfl,by rw[hs b rfl,hh]⟩
 |alT s=>exact aeL r hs
 |vz=>trivial
theorem nK.more(S:nK C U J a w)(o:Obj)(ho:∀c t lo hi,o=.cells c t (lo,hi)->lo=0/\hi=0):nK C U J a (World.more w o):=by
 have le:(C.env U J.heap w).Le J.heap.length (C.env U J.heap (World.more w o)):=
  qC.CR (ax _) (fun _ _=>⟨rfl,rfl⟩) (fun b i u hm hc=>⟨hm,by grind [FQ,GA]⟩)
 refine {kf:=kQ.mono le _ _ (kQ.nb _ _ S.kf) S.kf,defers:=S.defers.same le (fun b hb=>zg w o hb),oB:=?_,apart:=S.apart,uf:=S.uf,size:=?_,old:=?_,n9:=?_,Cl:=S.Cl,xf:=?_,rest:=S.rest,low:=S.low,mF:=S.mF}
 ·intro l x hx;have r:=S.oB l x hx;exact oP.mono r le (fun b hb=>zg w o (r.qQ hb))
 ·have:=S.size;simp;omega
 ·intro b i hb hm;rw[FQ w o (aa hb S.size)];exact S.old b i hb hm
 ·intro b hb hm;rw[zg w o (aa hb S.size)];exact S.n9 b hb hm
 ·intro x hx;rw[xh w o ho];exact S.xf x hx
def nK.drew(S:nK C U J a w)(n:Nat):nK C U J a {w with drawn:=n}:=by
 have le:(C.env U J.heap w).Le J.heap.length (C.env U J.heap {w with drawn:=n}):=
  qC.CR (ax _) (fun _ _=>⟨rfl,rfl⟩) (fun b i u hm hc=>⟨hm,hc⟩)
 exact {kf:=kQ.mono le _ _ (kQ.nb _ _ S.kf) S.kf,defers:=S.defers.same le (fun _ _=>rfl),oB:=fun l x hx=>oP.mono (S.oB l x hx) le (fun _ _=>rfl),apart:=S.apart,uf:=S.uf,size:=S.size,old:=S.old,n9:=S.n9,Cl:=S.Cl,xf:=S.xf,rest:=S.rest,low:=S.low,mF:=S.mF}
def nK.aLk(_S:nK C U J a w)(o:Obj):(C.env U J.heap w).Le J.heap.length (C.env U J.heap (World.more w o)):=
 qC.CR (ax _) (fun _ _=>⟨rfl,rfl⟩) (fun b i u hm hc=>⟨hm,by grind [FQ,GA]⟩)
def aBF(S:nK C U J a w)(hb:w.heap.size<=b)(o:Nat): ¬ (G9 U J.heap b o\/C.A b o):=by
 rintro(⟨l,x,hx,hm⟩|hA)
 ·have:=(S.oB l x hx).qQ (j6.ou hm);simp only[qC.env]at this;omega
 ·have:=C.hA _ _ hA;have:=S.size;omega
def auG(S:nK C U J a w)(c:Array aTq)(t:aTu)(h1: ∀u∈c.toList,u.oneCell'=true): ∀(cs:List AV)(off:Nat),kQ (C.env U J.heap w) cs ((c.toList.drop off).take cs.length)->
 oU (C.env U J.heap (World.more w (.cells c t))) w.heap.size off cs
 |[],_,_=>trivial
 |x::cs,off,r=>by
  obtain⟨u,us,hu,r1,r2⟩:=r
  have hc:c[off]? =some u:=by
   have:(c.toList.drop off)[0]? =some u:=by
    have:=congrArg (fun l:List aTq=>l[0]?) hu;simpa using this
   simpa using this
  have htl:us=(c.toList.drop (off+1)).take cs.length:=by
   have h1:=congrArg List.tail hu;simp only[List.tail_cons]at h1;rw[<-h1];cases hd:c.toList.drop off with
   |nil=>rw[hd]at hu;simp at hu
   |cons y ys=>
    grind [bA]
  refine⟨⟨aBF S (ax _) _,u,by grind [qC.env,aw9],h1 u (bH (by simpa using hc)),pz.mono (S.aLk _) _ _ (pz.nb _ _ r1) r1⟩,auG S c t h1 cs (off+1) (by rw[<-htl];exact r2)⟩
theorem asl(S:nK C U J a w)(c:Array aTq)(t:aTu)(h1:∀u∈c.toList,u.oneCell'=true)(sz:Nat):∀(rs:List (List AV))(off:Nat),(∀r∈rs,r.length=sz)->kQ (C.env U J.heap w) rs.flatten ((c.toList.drop off).take (rs.length*sz))->
 oo (C.env U J.heap (World.more w (.cells c t))) sz w.heap.size off rs
 |[],_,_,_=>trivial
 |r::rs,off,hl,h=>by
  have hr:r.length=sz:=hl r (by simp);simp only[aB]at h;have h3:=kQ.take r.length h;have h2:=kQ.drop r.length h;simp only[aY,aZ,bB,aU,aO]at h3 h2;refine⟨hr,auG S c t h1 r off ?_,asl S c t h1 sz rs (off+sz) (fun q hq=>hl q (by simp [hq])) ?_⟩
  all_goals grind [ay]
def nK.aNu(S:nK C U J a w)(c:Array aTq)(t:aTu)(r:(C.env U J.heap w).Le J.heap.length (C.env (fun l=>if l=J.heap.length then .pointer (some ⟨w.heap.size,0,none⟩)else U l) (J.heap++[.cells cs]) (World.more w (.cells c t)))->kQ (C.env (fun l=>if l=J.heap.length then .pointer (some ⟨w.heap.size,0,none⟩)else U l) (J.heap++[.cells cs]) (World.more w (.cells c t))) cs c.toList)(h1:∀u∈c.toList,u.oneCell'=true):
 nK C (fun l=>if l=J.heap.length then .pointer (some ⟨w.heap.size,0,none⟩)else U l) {J with heap:=J.heap++[.cells cs]} a (World.more w (.cells c t))/\
 (C.env U J.heap w).Le J.heap.length (C.env (fun l=>if l=J.heap.length then .pointer (some ⟨w.heap.size,0,none⟩)else U l) (J.heap++[.cells cs]) (World.more w (.cells c t))):=by
 let U':Nat->aTq:=fun l=>if l=J.heap.length then .pointer (some ⟨w.heap.size,0,none⟩)else U l
 have hφ:∀l,l<J.heap.length->U' l=U l:=fun l hl=>by grind
 have oa:∀(l:Nat)(x:j6),(J.heap++[.cells cs])[l]? =some x->(l<J.heap.length/\J.heap[l]? =some x)\/(l=J.heap.length/\x=.cells cs):=by
  grind
 have Ph:∀b o,G9 U' (J.heap++[.cells cs]) b o->b=w.heap.size\/G9 U J.heap b o:=by
  rintro b o ⟨l,x,hx,hm⟩;rcases oa l x hx with⟨hl,hx⟩|⟨rfl,rfl⟩
  ·rw[hφ l hl]at hm;exact .inr ⟨l,x,hx,hm⟩
  grind [j6.Bf]
 have le:(C.env U J.heap w).Le J.heap.length (C.env U' (J.heap++[.cells cs]) (World.more w (.cells c t))):=by
  refine qC.CR (by simp) (fun l hl=>⟨hφ l hl,by rw[av hl]⟩) (fun b i u hm hc=>?_)
  grind [GA,FQ]
 have BY:tf C U' (J.heap++[.cells cs]) (World.more w (.cells c t)) J.df a.defers:=by
  refine S.defers.step le (fun b hb _=>zg w _ hb) (fun l x b hx hb=>?_)
  grind [j6.block]
 refine⟨{kf:=kQ.mono le _ _ (kQ.nb _ _ S.kf) S.kf,defers:=BY,oB:=?_,apart:=?_,uf:=?_,size:=?_,old:=?_,n9:=?_,Cl:=?_,xf:=?_,rest:=S.rest,low:=⟨S.low.1,by have:=S.low.2;simp;omega⟩,mF:=?_},le⟩
 ·intro l x hx;rcases oa l x hx with⟨hl,hx⟩|⟨rfl,rfl⟩
  ·have r0:=S.oB l x hx;have:oP (C.env U' (J.heap++[.cells cs]) (World.more w (.cells c t))) x (U l):=oP.mono r0 le (fun b hb=>zg w _ (r0.qQ hb))
   grind
  ·exact⟨w.heap.size,c,t,by simp,ay4 w _,r le,h1⟩
 ·intro l l' x x' b hx Ea hb sC;rcases oa l x hx with⟨hl,hx⟩|⟨rfl,rfl⟩<;>rcases oa l' x' Ea with⟨hl',Ea⟩|⟨rfl,rfl⟩
  ·rw[show(if l=J.heap.length then _ else U l)=U l from hφ l hl]at hb;rw[show(if l'=J.heap.length then _ else U l')=U l' from hφ l' hl']at sC;exact S.apart l l' x x' b hx Ea hb sC
  ·rw[show(if l=J.heap.length then _ else U l)=U l from hφ l hl]at hb;have:=(S.oB l x hx).qQ hb
   grind [j6.block,qC.env]
  ·rw[show(if l'=J.heap.length then _ else U l')=U l' from hφ l' hl']at sC;have:=(S.oB l' x' Ea).qQ sC
   grind [j6.block,qC.env]
  ·rfl
 ·intro l x b o hx hb;rcases oa l x hx with⟨hl,hx⟩|⟨rfl,rfl⟩
  ·rw[show(if l=J.heap.length then _ else U l)=U l from hφ l hl]at hb;exact S.uf l x b o hx hb
  ·simp only[jN,j6.block]at hb;intro hA;have:=C.hA _ _ hA;have:=S.size;omega
 ·have:=S.size;simp;omega
 ·intro b i hb hm;rw[FQ w _ (aa hb S.size)];exact S.old b i hb hm
 ·intro b hb hm;rw[zg w _ (aa hb S.size)];exact S.n9 b hb hm
 ·intro l x b o hx hm hb;rcases oa l x hx with⟨hl,hx⟩|⟨rfl,rfl⟩
  ·rw[show(if l=J.heap.length then _ else U l)=U l from hφ l hl]at hm;exact S.Cl l x b o hx hm hb
  ·simp only[jN,j6.Bf]at hm;have:=S.size;omega
 ·intro x hx;rw[xh w _ (by grind)];exact S.xf x hx
 ·intro l hl;have rQ:l<J.heap.length:=by have:=S.low;omega
  have:=S.mF l hl
  grind
theorem nK.name(S:nK C U J a w)(c:Array aTq)(t:aTu)(r:kQ (C.env U J.heap w) cs c.toList)(h1:∀u∈c.toList,u.oneCell'=true):
 nK C (fun l=>if l=J.heap.length then .pointer (some ⟨w.heap.size,0,none⟩)else U l) {J with heap:=J.heap++[.cells cs]} a (World.more w (.cells c t))/\
 (C.env U J.heap w).Le J.heap.length (C.env (fun l=>if l=J.heap.length then .pointer (some ⟨w.heap.size,0,none⟩)else U l) (J.heap++[.cells cs]) (World.more w (.cells c t))):=
 S.aNu c t (fun le=>kQ.mono le _ _ (kQ.nb _ _ r) r) h1
end basics
structure wq where
 val:AV
 rd:List Nat:=[]
 up:List (Nat×j6):=[]
 nw:List j6:=[]
 pre:Prop:=True
 whole:Bool:=false
variable {ef:wq}
def nu:List j6->List (Nat×j6)->List j6
 |H,[]=>H
 |H,(l,x)::r=>nu (H.set l x) r
def jT.app(J:jT)(dst:Option Tmp)(e:wq):jT:=
 {J.put dst e.val with heap:=nu J.heap e.up++e.nw}
def mS(P:aTt)(t:aTu):Option (Bool×Nat):=
 match P.info? t with
 |none=>none
 |some i=>match P.underlying t with
  |some (.struct _)=>some (true,i.size)
  |some (.array _ _)=>some (true,i.size)
  |some _=>some (false,i.size)
  |none=>none
def mI(P:aTt)(t:aTu):Option (List AV):=
 match P.info? t with
 |none=>none
 |some i=>match i.zero with
  |some v=>if v.cells.toList.all Value.oneCell' then some (v.cells.toList.map MN)else none
  |none=>none
def oh(P:aTt)(t:aTu)(i:Nat):Option (Nat×aTu):=
 match P.underlying t with
 |some (.struct fs)=>match fs[i]? with
  |some f=>match P.info? f.type with
   |some j=>if j.size=0 then none else some (f.offset,f.type)
   |none=>none
  |none=>none
 |_=>none
def mq(P:aTt)(t:aTu):Option (aTu×Nat×Nat):=
 match P.underlying t with
 |some (.slice e)=>match P.info? e with
  |some i=>some (e,i.size,i.bytes)
  |none=>none
 |_=>none
def axa(P:aTt)(t:aTu):Option (Nat×Nat):=
 match P.underlying t with
 |some (.array n e)=>match P.info? e with
  |some i=>some (n,i.size)
  |none=>none
 |_=>none
def pq(P:aTt)(t:aTu):Bool:=
 match P.underlying t with
 |some .string=>true
 |_=>false
def auH(P:aTt)(t:aTu):Option IntKind:=
 match P.underlying t with
 |some (.int k)=>some k
 |_=>none
def l4(P:aTt)(t:aTu):Bool:=
 match P.underlying t with
 |some (.int _)=>false
 |some _=>true
 |none=>false
def nA(P:aTt)(t:aTu):Bool:=
 match P.underlying t with
 |some (.interface _)=>false
 |some _=>true
 |none=>false
def AV.lI:AV->Bool
 |.any|.agg _|.asN _|.sn _ _=>false
 |.sX v=>v.oneCell'
 |_=>true
def cellsOf:AV->Option (List AV)
 |.agg cs=>if cs.all AV.lI then some cs else none
 |x=>if x.lI then some [x] else none
def kq(g:Bool)(n:Nat)(cs:List AV):Option AV:=
 match g with
 |true=>if n<=cs.length then some (.agg (cs.take n))else none
 |false=>match cs with
  |c::_=>some c
  |[]=>none
def vA(cs:List AV)(off:Nat)(xs:List AV):List AV:=cs.take off++xs++cs.drop (off+xs.length)
def aeM(place:Nat->Option (Nat×Nat))(cs:List AV):List (Nat×AV)->Option (List AV)
 |[]=>some cs
 |(i,x)::rest=>match place i,cellsOf x with
  |some (off,size),some xs=>if xs.length=size/\off+size<=cs.length then aeM place (vA cs off xs) rest else none
  |_,_=>none
def Zd(P:aTt)(t:aTu):Option (Nat->Option (Nat×Nat)):=
 match P.underlying t with
 |some (.array _ e)=>match P.info? e with
  |some ie=>some fun i=>some (i*ie.size,ie.size)
  |none=>none
 |some (.struct fields)=>match fields.toList.mapM (fun f=>(P.info? f.type).map fun i=>(f.offset,i.size))with
  |some places=>some fun i=>places.toArray[i]?
  |none=>none
 |_=>none
def rG(P:aTt)(t:aTu):Bool:=(Zd P t).isSome
def kV(P:aTt)(t:aTu)(i:Nat):Option (Nat×Nat):=
 match Zd P t with
 |some f=>f i
 |none=>none
def aeN(sz:Nat)(rows:List (List AV)):List (Nat×AV)->Option (List (List AV))
 |[]=>some rows
 |(i,x)::rest=>match cellsOf x with
  |some xs=>if i<rows.length/\xs.length=sz then aeN sz (rows.set i xs) rest else none
  |none=>none
def aIV(k:IntKind)(f:BitVec k.bits->BitVec k.bits->BitVec k.bits)(a b:Int):Int:=k.wrap (f (BitVec.ofInt k.bits a) (BitVec.ofInt k.bits b)).toNat
def ayy(op:BinOp)(x y:AV):Option AV:=
 match x,y with
 | .int k a,.int k' b=>
   if k≠k' then none else
   match op with
   |.add=>some (.int k (k.wrap (a+b)))
   |.sub=>some (.int k (k.wrap (a-b)))
   |.mul=>some (.int k (k.wrap (a*b)))
   |.eql=>some (.bool (a==b))
   |.neq=>some (.bool (a !=b))
   |.lss=>some (.bool (decide (a<b)))
   |.leq=>some (.bool (decide (a<=b)))
   |.gtr=>some (.bool (decide (b<a)))
   |.geq=>some (.bool (decide (b<=a)))
   |.quo=>if b=0 then none else some (.int k (k.wrap (a.tdiv b)))
   |.rem=>if b=0 then none else some (.int k (a.tmod b))
   |.and=>some (.int k (aIV k (· &&& ·) a b))
   |.or=>some (.int k (aIV k (· ||| ·) a b))
   |.xor=>some (.int k (aIV k (· ^^^ ·) a b))
   |.andNot=>some (.int k (aIV k (fun x y=>x&&& ~~~y) a b))
   |_=>none
 | .str a,.str b=>
   match op with
   |.eql=>some (.bool (a.toList==b.toList))
   |.neq=>some (.bool (!(a.toList==b.toList)))
   |.add=>if a.size+b.size<=9223372036854775807 then some (.str (a++b))else none
   |.lss=>some (.bool (Op.bytesLess a.toList b.toList))
   |.leq=>some (.bool (Op.bytesLess a.toList b.toList||a.toList==b.toList))
   |.gtr=>some (.bool (!(Op.bytesLess a.toList b.toList||a.toList==b.toList)))
   |.geq=>some (.bool (!Op.bytesLess a.toList b.toList))
   |_=>none
 |_,_=>none
def eq1:AV->AV->Bool
 |.int _ a,.int _ b=>a==b
 |.str a,.str b=>a.toList==b.toList
 |.bool a,.bool b=>a==b
 |_,_=>false
def eqB:List AV->List AV->Bool
 |[],[]=>true
 |x::xs,y::ys=>eq1 x y&&eqB xs ys
 |_,_=>false
def auI(P:aTt)(t:aTu)(cs ds:List AV):Prop:=
 ∀ (E:D4) (vs us:Array aTq) (w:aTr) (x y:aTp),kQ E cs vs.toList->kQ E ds us.toList->
   (do eqGuard .eql t x y (.agg vs) (.agg us);binOp .eql t (.agg vs) (.agg us):Sem aTq).run P w=.ok (.bool (eqB cs ds)) w/\
   (do eqGuard .neq t x y (.agg vs) (.agg us);binOp .neq t (.agg vs) (.agg us):Sem aTq).run P w=.ok (.bool (!eqB cs ds)) w
def tbl(P:aTt)(t:aTu):Bool:=
 match P.underlying t with
 |some .bool=>true
 |_=>false
def aEl(P:aTt)(t:aTu):Bool:=
 match P.underlying t with
 |some (.interface ms)=>ms.isEmpty
 |_=>false
def aq4(P:aTt)(op:BinOp)(t:aTu)(x y:AV):Option wq:=
 match op,x,y with
 |.eql,.agg cs,.agg ds=>some {val:=.bool (eqB cs ds),pre:=auI P t cs ds}
 |.neq,.agg cs,.agg ds=>some {val:=.bool (!eqB cs ds),pre:=auI P t cs ds}
 |.eql,.bool a,.bool b=>if tbl P t then some {val:=.bool (a==b)} else none
 |.neq,.bool a,.bool b=>if tbl P t then some {val:=.bool (!(a==b))} else none
 |.eql,.iface _ _,.sX .nilIface=>if aEl P t then some {val:=.bool false} else none
 |.neq,.iface _ _,.sX .nilIface=>if aEl P t then some {val:=.bool true} else none
 |.eql,.sX .nilIface,.sX .nilIface=>if aEl P t then some {val:=.bool true} else none
 |.neq,.sX .nilIface,.sX .nilIface=>if aEl P t then some {val:=.bool false} else none
 |_,_,_=>none
def anL(P:aTt)(op:BinOp)(t:aTu)(x:AV)(y:aTp):Option wq:=
 match op,x,y with
 |.eql,.sX (.slice a _ _),.const (.slice none 0 0)=>if (mq P t).isSome then some {val:=.bool a.isNone} else none
 |.eql,.kJ _ _ rows,.const (.slice none 0 0)=>if rows.isEmpty=false/\(mq P t).isSome then some {val:=.bool false} else none
 |_,_,_=>none
def ayz(P:aTt)(op:BinOp)(t:aTu)(y:aTp)(a b:AV):Option wq:=
 match anL P op t a y with
 |some e=>some e
 |none=>aq4 P op t a b
def Ck(J:jT)(d:Nat):Option aTp->Option Int
 |none=>some d
 |some x=>match J.ev x with
  |.int _ n=>some n
  |_=>none
def alq(mx:Option aTp)(t:Bool)(h n m:Int):Bool:=
 match mx with
 |none=>t&&decide (h=n)
 |some _=>decide (h=m)
def aoR (J:jT) (sz:Nat) (x:AV) (lo hi mx:Option aTp):Option wq:=
 match x with
 | .kJ t aSH rows=>
   match Ck J 0 lo,Ck J rows.length hi,Ck J rows.length mx with
   |some l,some h,some m=>if (aSH=sz\/rows.length=0)/\0<=l/\l<=h/\h<=m/\m<=rows.length then
     some {val:=.kJ (alq mx t h rows.length m) sz ((rows.take h.toNat).drop l.toNat)} else none
   |_,_,_=>none
 | .lV k n=>match J.heap[k]? with
   |some (.lV true aSH rows)=>
    match Ck J 0 lo,Ck J rows.length hi,Ck J rows.length mx with
    |some l,some h,some m=>if aSH=sz/\rows.length=n/\0<=l/\l<=h/\h<=m/\m<=rows.length then
      some {val:=.kJ (alq mx false h rows.length m) sz ((rows.take h.toNat).drop l.toNat),rd:=[k]} else none
    |_,_,_=>none
   |_=>none
 |_=>none
def aeO(J:jT)(sz:Nat):AV->Option (List Nat×List (List AV))
 |.kJ _ aSH rows=>if aSH=sz\/rows.length=0 then some ([],rows)else none
 | .lV l n=>match J.heap[l]? with
   |some (.lV true aSH rows)=>if aSH=sz/\rows.length=n then some ([l],rows)else none
   |_=>none
 |.sX (.slice _ 0 _)=>some ([],[])
 |_=>none
def room(n bytes:Nat):Prop:=n*bytes<=2 ^ 44
def Wz (im:Bool) (J:jT) (sz bytes:Nat) (x y:AV):Option wq:=
 match aeO J sz y with
 |none=>none
 |some (rd,ys)=>match x with
  | .lV l n=>match J.heap[l]? with
    |some (.lV tZ aSH rows)=>if aSH=sz/\rows.length=n then
      some {val:=.lV l (rows++ys).length,rd:=l::rd,up:=[(l,.lV tZ sz (rows++ys))],pre:=room (rows.length+ys.length) bytes} else none
    |_=>none
  | .kJ true aSH rows=>if aSH=sz\/rows.length=0 then
      (if rows.length=0\/0<ys.length then some {val:=.lV J.heap.length (rows++ys).length,rd:=rd,nw:=[.lV im sz (rows++ys)],pre:=room (rows.length+ys.length) bytes}
        else some {val:=.kJ true aSH rows,rd:=rd})else none
  |_=>none
def azB(P:aTt):Bool:=match P.info? MM with
 |some i=>(match i.zero with
  |some (.int .u8 0)=>true
  |_=>false)&&(i.size==1)&&(i.bytes==1)
 |none=>false
def alr(J:jT)(e:aTu)(x:AV)(u:ByteArray):Option wq:=match x with
 | .lV l n=>match J.heap[l]? with
   |some (.alT s)=>if s.size=n/\e=MM then some {val:=.lV l (s.size+u.size),rd:=[l],up:=[(l,.alT (s++u))],pre:=room (s.size+u.size) 1} else none
   |_=>none
 |_=>none
def WA(P:aTt)(u:aTu)(im:Bool)(J:jT)(e:aTu)(sz bytes:Nat)(x y:AV):Option wq:=match y with
 |.str s=>if azB P=true/\pq P u=true then alr J e x s else none
 |_=>Wz im J sz bytes x y
theorem asn{u:aTu}{e:aTu}{sz bytes:Nat}(h: ¬ ∃s,y=.str s):WA P u im J e sz bytes x y=Wz im J sz bytes x y:=by
 unfold WA;split
 ·rename_i s;exact absurd ⟨s,rfl⟩ h
 ·rfl
def ayA(P:aTt)(J:jT)(t:aTu):AV->Option wq
 |.str s=>if pq P t then some {val:=.int .i64 s.size} else none
 |.kJ _ _ rows=>if (mq P t).isSome then some {val:=.int .i64 rows.length} else none
 | .lV l n=>if (mq P t).isSome then match J.heap[l]? with
   |some (.lV _ _ rows)=>if rows.length=n then some {val:=.int .i64 n,rd:=[l]} else none
   |some (.alT s)=>if s.size=n then some {val:=.int .i64 n,rd:=[l]} else none
   |_=>none else none
 |_=>none
def ayB:List aTp->Nat
 |.tmp t::_=>t
 |_=>0
def Qo (P:aTt) (J:jT) (b:Builtin) (kH:List aTp) (ts:List aTu) (xs:List AV):Option wq:=
 match b,ts,xs with
 |.len,[t],[x]=>ayA P J t x
 | .append,[t,u],[x,y]=>match mq P t,l4 P u with
   |some (e,sz,bytes),true=>match mI P e with
    |some z=>if z.length=sz/\0<sz/\0<bytes then WA P u (aNO t (ayB kH)) J e sz bytes x y else none
    |none=>none
   |_,_=>none
 |.max,[_,_],[.int k m,.int _ n]=>some {val:=.int k (if n>m then n else m)}
 |.min,[_,_],[.int k m,.int _ n]=>some {val:=.int k (if n<m then n else m)}
 |_,_,_=>none
def vwL (H:List j6):List AV->Option (List AV×List Nat)
 |[]=>some ([],[])
 | .lV l n::cs=>match H[l]? with
   |some (.lV tZ sz rows)=>if rows.length=n then match vwL H cs with
    |some (ds,ns)=>some ((bif tZ then .kJ false sz rows else .lV l n)::ds,l::ns)
    |none=>none else none
   |_=>none
 |c::cs=>match vwL H cs with
  |some (ds,ns)=>some (c::ds,ns)
  |none=>none
def ldV(H:List j6)(l:Nat):AV->Option wq
 | .agg cs=>match vwL H cs with
   |some (ds,ns)=>some {val:=.agg ds,rd:=l::ns}
   |none=>none
 |v=>some {val:=v,rd:=[l]}
def WB(sz:Nat):Nat->List AV->Option (List AV)
 |0,cs=>if sz<=cs.length then some (cs.take sz)else none
 |n+1,cs=>WB sz n (cs.drop sz)
def tz1(P:aTt)(t:aTu):Option AV:=
 match P.info? t with
 |some i=>match i.zero with
  |some (.bool b)=>some (.bool b)
  |some (.int k n)=>some (.int k n)
  |some (.string s)=>some (.str s)
  |some (.agg vs)=>some (.agg (vs.toList.map MN))
  |_=>none
 |none=>none
def aiu(P:aTt)(t:aTu):Option AV:=
 match P.underlying t with
 |some (.map k e)=>match P.underlying k with
  |some .string=>tz1 P e
  |_=>none
 |_=>none
def Ub:List (AV×AV)->Bool
 |[]=>true
 |(.str _,_)::es=>Ub es
 |_=>false
def zy(s:ByteArray):List (AV×AV)->Option AV
 |(.str k,v)::es=>bif s==k then some v else zy s es
 |_=>none
def Qp(s:ByteArray)(v:AV):List (AV×AV)->List (AV×AV)
 |(.str k,u)::es=>bif s==k then(.str k,v)::es else(.str k,u)::Qp s v es
 |_=>[(.str s,v)]
def als(z:AV)(l:Nat)(s:ByteArray):Option j6->Option wq
 |some (.map es)=>if Ub es=true then some {val:=(zy s es).getD z,rd:=[l]} else none
 |_=>none
def ayC(z:AV)(l:Nat):Option AV->wq
 |some v=>{val:=.asN [v,.bool true],rd:=[l]}
 |none=>{val:=.asN [z,.bool false],rd:=[l]}
def aq5(z:AV)(l:Nat)(s:ByteArray):Option j6->Option wq
 |some (.map es)=>if Ub es=true then some (ayC z l (zy s es))else none
 |_=>none
def azC(P:aTt)(t:aTu):AV->Option wq
 |.iface t' x=>if t'=t/\nA P t=true then some {val:=.asN [x,.bool true]} else none
 |_=>none
def CS(l:Nat)(s:ByteArray)(v:AV):Option j6->Option wq
 |some (.map es)=>if Ub es=true then some {val:=.any,rd:=[l],up:=[(l,.map (Qp s v es))]} else none
 |_=>none
def auJ:aTq->Option wq
 | .pointer (some ⟨b,o,none⟩)=>match aLh b with
   |some k=>(aGw b o).bind fun m=>some {val:=.int k m}
   |none=>none
 |_=>none
def alt(l:Nat):Option j6->Option wq
 |some (.iter s p)=>if p<s.size then some {val:=.asN [.bool true,.int .i64 p,.int .i32 (Utf8.decode s p).1],rd:=[l],up:=[(l,.iter s (p+(Utf8.decode s p).2))]}
   else some {val:=.asN [.bool false],rd:=[l]}
 |_=>none
def zB(t:Nat)(z:List AV):List AV:=bif aoO t then(match z with
 |x::.kJ true 0 []::r=>x::.sX (.slice none 0 0)::r
 |z=>z)else z
def MO(t l:Nat)(z:List AV):wq:=bif aoO t then(match z with
 |.sX (.pointer none)::.sX (.slice none 0 0)::r=>{val:=.ptr (l+1) 0,nw:=[.alT aq,.cells (.sn t (l+1)::.lV l 0::r)]}
 |_=>{val:=.ptr l 0,nw:=[.cells z]})else {val:=.ptr l 0,nw:=[.cells z]}
theorem ayD {t:Nat}:(MO t l z).nw≠[]:=by
 unfold MO;cases aoO t with
 |false=>simp
 |true=>rw[jF];split<;>simp
def aBG {t:Nat}:(MO t l z).rd=[]/\(MO t l z).up=[]/\(MO t l z).pre=True/\(MO t l z).whole=false:=by
 unfold MO;cases aoO t with
 |false=>simp
 |true=>rw[jF];split<;>simp
def aso(P:aTt)(t:aTu):Option Nat:=
 match P.underlying t with
 |some (.array n e)=>match mS P e with
  |some (false,1)=>some n
  |_=>none
 |_=>none
def aoS:List AV->Option (List Int)
 |[]=>some []
 |.int .i64 n::xs=>(aoS xs).map (n:: ·)
 |_=>none
def lK (P:aTt) (J:jT):Op->Option wq
 |.move x=>some {val:=J.ev x}
 |.assign x=>some {val:=J.ev x}
 | .pick c x y=>match J.ev c with
   |.bool b=>some {val:=bif b then J.ev x else J.ev y}
   |_=>none
 | .alloc t=>match mI P t with
   |some z=>some (MO t J.heap.length (zB t z))
   |none=>none
 | .box t x=>match cellsOf (J.ev x) with
   |some cs=>some (MO t J.heap.length cs)
   |none=>none
 | .build t parts=>match rG P t,mI P t with
   |true,some z=>match aeM (kV P t) (zB t z) (parts.toList.map fun p=>(p.1,J.ev p.2))with
    |some cs=>some {val:=.agg cs}
    |none=>none
   |_,_=>none
 | .buildSlice t len parts=>match mq P t with
   |some (e,sz,_)=>match mI P e with
    |some z=>if z.length=sz/\len*sz<=16777216 then
      match aeN sz (am len z) (parts.toList.map fun p=>(p.1,J.ev p.2))with
      |some rows=>bif aLg t (ayB (parts.toList.map (·.2)))then some {val:=.lV J.heap.length rows.length,nw:=[.lV (aNO t (ayB (parts.toList.map (·.2)))) sz rows]} else some {val:=.kJ true sz rows}
      |none=>none
     else none
    |none=>none
   |none=>none
 | .load t x=>match mS P t,J.ev x with
   |some (g,n),.ptr l off=>match J.heap[l]? with
    |some (.cells cs)=>match kq g n (cs.drop off)with
     |some v=>ldV J.heap l v
     |none=>none
    |_=>none
   |some (g,n),.pp cs=>match kq g n cs with
    |some v=>some {val:=v}
    |none=>none
   |some (g,n),.own l i m o sz=>match J.heap[l]? with
    |some (.lV false aSH rows)=>if aSH=sz/\rows.length=m then match rows[i]? with
     |some r=>match kq g n (r.drop o)with
      |some v=>some {val:=v,rd:=[l]}
      |none=>none
     |none=>none else none
    |_=>none
   |some (false,_),.sX v=>auJ v
   |_,_=>none
 | .store t x y=>match mS P t,J.ev x,cellsOf (J.ev y) with
   |some (_,n),.ptr l off,some ys=>match J.heap[l]? with
    |some (.cells cs)=>if ys.length=n/\off+n<=cs.length then some {val:=.any,rd:=[l],up:=[(l,.cells (vA cs off ys))]} else none
    |_=>none
   |some (_,n),.own l i m o sz,some ys=>match J.heap[l]? with
    |some (.lV false aSH rows)=>if aSH=sz/\rows.length=m then match rows[i]? with
     |some r=>if ys.length=n/\o+n<=sz then some {val:=.any,rd:=[l],up:=[(l,.lV false sz (rows.set i (vA r o ys)))]} else none
     |none=>none else none
    |_=>none
   |_,_,_=>none
 | .binOp op t x y _=>match ayy op (J.ev x) (J.ev y) with
   |some v=>some {val:=v}
   |none=>ayz P op t y (J.ev x) (J.ev y)
 | .unOp op _ x=>match op,J.ev x with
   |.not,.bool b=>some {val:=.bool (!b)}
   |.neg,.int k n=>some {val:=.int k (k.wrap (0-n))}
   |.xor,.int k n=>some {val:=.int k (aIV k (· ^^^ ·) (if k.signed then-1 else k.max) n)}
   |_,_=>none
 | .fieldAddr t x i=>match oh P t i,J.ev x with
   |some (o,_),.ptr l off=>some {val:=.ptr l (off+o)}
   |some (o,_),.pp cs=>some {val:=.pp (cs.drop o)}
   |some (o,_),.own l i m o' sz=>some {val:=.own l i m (o'+o) sz}
   |_,_=>none
 | .field t x i=>match oh P t i,J.ev x with
   |some (o,u),.agg cs=>match mS P u with
    |some (g,n)=>match kq g n (cs.drop o)with
     |some v=>some {val:=v}
     |none=>none
    |none=>none
   |_,_=>none
 | .indexAddr t x i=>match mq P t with
   |some (_,sz,_)=>match J.ev x,J.ev i with
    | .kJ _ aSH rows,.int _ n=>if aSH=sz/\0<=n then match rows[n.toNat]? with
      |some r=>some {val:=.pp r}
      |none=>none else none
    | .lV l m,.int _ n=>match J.heap[l]? with
      |some (.lV true aSH rows)=>if aSH=sz/\0<=n/\rows.length=m then match rows[n.toNat]? with
       |some r=>some {val:=.pp r,rd:=[l]}
       |none=>none else none
      |some (.lV false aSH rows)=>if aSH=sz/\0<=n/\rows.length=m/\n<m then some {val:=.own l n.toNat m 0 sz,rd:=[l]} else none
      |_=>none
    |_,_=>none
   |none=>match axa P t with
    |some (len,sz)=>match J.ev x,J.ev i with
     |.ptr l off,.int _ n=>if 0<=n/\n<len then some {val:=.ptr l (off+n.toNat*sz)} else none
     |.pp cs,.int _ n=>if 0<=n/\n<len then(WB sz n.toNat cs).bind fun ds=>some {val:=.pp ds} else none
     |.sX (.pointer (some ⟨b,o,none⟩)),.int _ n=>if 0<=n/\n<len then some {val:=.sX (.pointer (some ⟨b,o+n.toNat*sz,none⟩))} else none
     |_,_=>none
    |none=>none
 | .index t x i=>match pq P t,J.ev x,J.ev i with
   |true,.str s,.int _ n=>if 0<=n then match s[n.toNat]? with
    |some b=>some {val:=.int .u8 b.toNat}
    |none=>none else none
   |false,.agg cs,.int _ n=>match aso P t,aoS cs with
    |some len,some ms=>if 0<=n/\n<len then match ms[n.toNat]? with
     |some m=>some {val:=.int .i64 m}
     |none=>none else none
    |_,_=>none
   |_,_,_=>none
 | .slice t x lo hi mx=>match mq P t with
   |some (_,sz,_)=>if mx.isSome&&hi.isNone then none else aoR J sz (J.ev x) lo hi mx
   |none=>match pq P t,J.ev x,mx with
    |true,.str s,none=>match Ck J 0 lo,Ck J s.size hi with
     |some l,some h=>if 0<=l/\l<=h/\h<=s.size then some {val:=.str (s.extract l.toNat h.toNat)} else none
     |_,_=>none
    |_,_,_=>none
 | .nilCheck x=>match J.ev x with
   |.ptr l off=>some {val:=.ptr l off}
   |.pp cs=>some {val:=.pp cs}
   |.func (.func f) fs cs=>some {val:=.func (.func f) fs cs}
   |_=>none
 | .convert s d x=>match J.ev x with
   |.str v=>if pq P s&&pq P d then some {val:=.str v} else none
   | .int _ n=>match auH P s,auH P d with
     |some _,some k=>some {val:=.int k (k.wrap n)}
     |some _,none=>if pq P d then some {val:=.str (Utf8.encode n)} else none
     |_,_=>none
   | .kJ _ _ [[.int k n]]=>match mq P s with
     |some (e,sz,_)=>if sz=1/\k=.u8/\auH P e=some .u8/\pq P d=true then some {val:=.str ⟨[UInt8.ofNat n.toNat].toArray⟩} else none
     |none=>none
   |_=>none
 |.makeInterface t x=>if nA P t then some {val:=.iface t (J.ev x)} else none
 | .makeSlice t x y=>match mq P t,J.ev x,J.ev y with
   |some (e,sz,bytes),.int .i64 n,.int .i64 m=>match mI P e with
    |some z=>if z.length=sz/\0<sz/\0<=n/\n=m then
      some {val:=.lV J.heap.length n.toNat,nw:=[.lV false sz (am n.toNat z)],pre:=room n.toNat bytes/\n<2 ^ 62} else none
    |none=>none
   |_,_,_=>none
 |.call {callee:=.builtin b,args,argTypes}=>Qo P J b args.toList argTypes.toList (args.toList.map J.ev)
 | .extract x i=>match J.ev x with
   | .asN vs=>match vs[i]? with
     |some v=>some {val:=v}
     |none=>none
   |_=>none
 |.makeFunc fn f c=>some {val:=.func fn (f.toList.map J.ev) (c.toList.map J.ev)}
 | .range t x=>match pq P t,J.ev x with
   |true,.str s=>some {val:=.ptr J.heap.length 0,nw:=[.iter s 0]}
   |_,_=>none
 | .next x true=>match J.ev x with
   |.ptr l 0=>alt l J.heap[l]?
   |_=>none
 |.makeMap _ none=>some {val:=.map J.heap.length,nw:=[.map []]}
 | .lookup t x k false=>match aiu P t,J.ev x,J.ev k with
   |some z,.map l,.str s=>als z l s J.heap[l]?
   |_,_,_=>none
 | .lookup t x k true=>match aiu P t,J.ev x,J.ev k with
   |some z,.map l,.str s=>aq5 z l s J.heap[l]?
   |_,_,_=>none
 |.typeAssert x _ t true=>azC P t (J.ev x)
 | .mapUpdate t x k y=>match aiu P t,J.ev x,J.ev k with
   |some _,.map l,.str s=>CS l s (J.ev y) J.heap[l]?
   |_,_,_=>none
 | .insert t x k y=>match aiu P t,J.ev x,J.ev k with
   |some _,.map l,.str s=>CS l s (J.ev y) J.heap[l]?
   |_,_,_=>none
 |_=>none
section sound
variable {a:Act}
def Ai(C:qC)(J:jT)(a:Act)(w:aTr)(dst:Option Tmp)(r:Result Next)(e:wq):Prop:=
 ∃n v w' U',r=.ok n w'/\(n=.value v\/(n=.skip/\v=undef))/\nK C U' (J.app dst e) (a.put dst v) w'
def LG(h:mS C.P t=some (g,n)):(isAgg t).run C.P w=.ok g w/\(sizeOf t).run C.P w=.ok n w:=by
 unfold mS at h;cases hi:C.P.info? t with
 |none=>simp [hi]at h
 |some i=>
  simp only[hi]at h;cases hu:C.P.underlying t with
  |none=>simp [hu]at h
  |some d=>
   simp only[hu]at h;constructor
   ·cases d<;>simp_all [isAgg,run_underlying hu]
   ·simp only[sizeOf,typeInfo];cases d<;>simp_all
def auK{c:AV}(h:c.lI=true)(r:pz E c v):v.oneCell'=true:=by
 cases c with
 |any|agg _|asN _|sn _ _=>simp [AV.lI]at h
 |bool b|int k n|str s=>simp only[pz]at r;subst r;rfl
 |sX u=>simp only[pz]at r;subst r;exact h
 |kJ t sz rows=>obtain⟨_,_,rfl,_⟩:=r;rfl
 |lV l n=>obtain⟨_,⟨_,_,_,rfl⟩,_⟩:=r;rfl
 |own l i n o sz=>obtain⟨_,⟨_,rfl⟩,_⟩:=r;rfl
 |ptr l off=>obtain⟨_,_,_,rfl⟩:=r;rfl
 |map l=>
  obtain⟨_,rfl,_,h2⟩:=r;revert h2;generalize E.U l=h;intro h2;unfold hdl at h2;split at h2<;>first|rfl|cases h2
 |pp cs=>obtain⟨_,_,rfl,_⟩:=r;rfl
 |func fn f c=>obtain⟨_,_,rfl,_⟩:=r;rfl
 |iface t x=>obtain⟨_,rfl,_⟩:=r;rfl
def asp{E:D4}:∀{cs:List AV}{vs:List aTq},cs.all AV.lI=true->kQ E cs vs->∀v∈vs,v.oneCell'=true
 |[],_,_,rfl=>by simp
 |c::cs,_,h,⟨u,us,rfl,r1,r2⟩=>by
  simp only[List.all_cons,aP]at h;intro v hv;simp only[aW]at hv;rcases hv with rfl|hv
  ·exact auK h.1 r1
  ·exact asp h.2 r2 v hv
end sound
section sound
variable {a:Act}
def aBH(E:D4)(b off:Nat)(cs:List AV):Prop:=∃us:List aTq,kQ E cs us/\∀j u,us[j]? =some u->E.w.cell? ⟨b,off+j,none⟩=some u
def Uc{E:D4}{b:Nat}:∀{cs:List AV}{off:Nat},oU E b off cs->aBH E b off cs
 |[],_,_=>⟨[],rfl,by simp⟩
 |c::cs,off,⟨⟨_,u,hu,_,r⟩,r2⟩=>by
  obtain⟨us,rl,h⟩:=Uc r2;refine⟨u::us,⟨u,us,rfl,r,rl⟩,fun j v hj=>?_⟩
  grind
def auL{fr:Nat×Nat}(hh:E.w.heap[b]? =some (.cells c t fr))(r:kQ E cs c.toList)(off:Nat):
 aBH E b off (cs.drop off):=
 ⟨c.toList.drop off,r.drop off,fun j u hj=>by
   grind [World.cell?]⟩
theorem Aj(b off j:Nat):(⟨b,off,none⟩:Addr).add j=⟨b,off+j,none⟩:=by
 unfold Addr.add;split<;>simp_all
theorem axb{a:Addr}{m:Mode}(h:w.cell? a=some u):(load a m).run P w=.ok u w:=by rw[run_load,h]
def aeP(hm:aBH E b off cs)(ha:(isAgg t).run P E.w= .ok g E.w)(hs:(sizeOf t).run P E.w= .ok n E.w)(hl:kq g n cs=some x):
 ∃v,(loadVar t ⟨b,off,none⟩).run P E.w=.ok v E.w/\pz E x v:=by
 obtain⟨us,rl,h⟩:=hm;unfold kq at hl;cases g with
 |true=>
  simp only at hl;split at hl
  ·rename_i hn;cases hl;have hlen:=rl.length;refine⟨.agg (us.take n).toArray,?_,(us.take n).toArray,rfl,by simpa using rl.take n⟩
   have:=run_loadCells_list (P:=P) E.w ⟨b,off,none⟩ (us.take n) (fun j v hj=>by
    grind [Aj])
   simp_all [loadVar]
  ·cases hl
 |false=>
  simp only at hl;split at hl
  ·rename_i c cs;cases hl;obtain⟨u,us',rfl,r1,_⟩:=rl;have:=h 0 u (by simp)
   grind [loadVar,ah,ae,axb]
  ·cases hl
def aSE{xs:List AV}(h:cellsOf x=some xs)(r:pz E x v):kQ E xs v.cells.toList/\∀u∈v.cells.toList,u.oneCell'=true:=by
 unfold cellsOf at h;split at h
 ·rename_i cs;split at h
  ·rename_i hs;cases h;obtain⟨vs,rfl,rl⟩:=r;exact⟨rl,asp hs rl⟩
  ·cases h
 ·split at h
  ·rename_i hs;cases h;have h1:=auK hs r;have:v.cells= #[v]:=by cases v<;>first|rfl|(simp [Value.oneCell']at h1)
   rw[this];exact⟨⟨v,[],rfl,r,rfl⟩,by simpa using h1⟩
  ·cases h
def aeQ(E:D4):∀vs:List aTq,kQ E (vs.map MN) vs
 |[]=>rfl
 |v::vs=>⟨v,vs,rfl,ayx E v,aeQ E vs⟩
def aq6(h:mI P t=some z):∃v,(zeroValue t).run P w=.ok v w/\(∀E,kQ E z v.cells.toList)/\∀u∈v.cells.toList,u.oneCell'=true:=by
 unfold mI at h;cases hi:P.info? t with
 |none=>simp [hi]at h
 |some i=>
  simp only[hi]at h;cases hz:i.zero with
  |none=>simp [hz]at h
  |some v=>
   simp only[hz]at h;split at h
   ·rename_i h1;cases h;exact⟨v,by simp [zeroValue,typeInfo,hi,hz],fun E=>aeQ E _,bn.1 h1⟩
   ·cases h
def aEm(h:mI P t=some z):∃v,(zeroValue t).run P w=.ok v w/\z=v.cells.toList.map MN/\∀u∈v.cells.toList,u.oneCell'=true:=by
 unfold mI at h;cases hi:P.info? t with
 |none=>simp [hi]at h
 |some i=>
  simp only[hi]at h;cases hz:i.zero with
  |none=>simp [hz]at h
  |some v=>
   simp only[hz]at h;split at h
   ·rename_i h1;cases h;exact⟨v,by simp [zeroValue,typeInfo,hi,hz],rfl,bn.1 h1⟩
   ·cases h
def azD(h:MN v=.kJ true 0 []):v=.slice none 0 0:=by
 unfold MN at h;split at h<;>first|rfl|cases h
def aIW(E:D4)(t:Nat){vs:List aTq}(h:z=vs.map MN):kQ E (zB t z) vs:=by
 have r0:kQ E z vs:=by rw[h];exact aeQ E vs
 unfold zB;cases aoO t with
 |false=>exact r0
 |true=>
  rw[jF];split
  ·obtain⟨v0,vs',rfl,h0,v1,aSt,rfl,_,h2⟩:=r0;simp only[bI,aS]at h;exact⟨v0,_,rfl,h0,v1,_,rfl,azD h.2.1.symm,h2⟩
  ·exact r0
def nK.write(S:nK C U J a w){cs':List AV}{c':Array aTq}(hl:J.heap[l]? =some (.cells cs))(hφ:U l=.pointer (some ⟨b,0,none⟩))
 (hh:w.heap[b]? =some (.cells c t (0,0))) (hr:kQ (C.env U J.heap w) cs' c'.toList) (h1:∀u∈c'.toList,u.oneCell'=true):nK C U {J with heap:=J.heap.set l (.cells cs')} a (w.setRow b c'):=by
 have rQ:l<J.heap.length:=(aj.1 hl).1
 have oa:∀(k:Nat)(x:j6),(J.heap.set l (.cells cs'))[k]? =some x->(k=l/\x=.cells cs')\/(k≠l/\J.heap[k]? =some x):=by
  grind
 have Ph:∀b' o,G9 U (J.heap.set l (.cells cs')) b' o->G9 U J.heap b' o:=by
  rintro b' o ⟨k,x,hx,hm⟩;rcases oa k x hx with⟨rfl,rfl⟩|⟨_,hx⟩
  ·exact⟨k,_,hl,by rw[hφ]at hm ⊢;exact hm⟩
  ·exact⟨k,x,hx,hm⟩
 have hmb:∀o,G9 U J.heap b o:=fun o=>⟨l,_,hl,by rw[hφ];rfl⟩
 have le:(C.env U J.heap w).Le J.heap.length (C.env U (J.heap.set l (.cells cs')) (w.setRow b c')):=by
  refine qC.CR (by simp) (fun k hk=>⟨rfl,?_⟩) (fun b' o u hm hc=>?_)
  ·by_cases e:k=l
   ·subst e;rw[aM rQ,hl];rfl
   grind
  grind [cell_setRow_other]
 have BY:tf C U (J.heap.set l (.cells cs')) (w.setRow b c') J.df a.defers:=by
  refine S.defers.step le (fun b' _ hno=>?_) (fun k x b' hx hb=>?_)
  ·refine setRow_other w b b' c' (fun e=>?_);subst e;exact hno l _ hl (by rw[hφ];rfl)
  ·rcases oa k x hx with⟨rfl,rfl⟩|⟨sB,hx⟩
   ·exact .inl ⟨k,_,hl,by rw[hφ]at hb ⊢;exact hb⟩
   ·exact .inl ⟨k,x,hx,hb⟩
 refine {kf:=kQ.mono le _ _ (kQ.nb _ _ S.kf) S.kf,defers:=BY,oB:=?_,apart:=?_,uf:=?_,size:=by simpa using S.size,old:=?_,n9:=?_,Cl:=?_,xf:=?_,rest:=S.rest,low:=⟨S.low.1,by simpa using S.low.2⟩,mF:=?_}
 ·intro k x hx;rcases oa k x hx with⟨rfl,rfl⟩|⟨sB,hx⟩
  ·exact⟨b,c',t,hφ,setRow_heap w b c c' t _ hh,kQ.mono le _ _ (kQ.nb _ _ hr) hr,h1⟩
  ·refine oP.mono (S.oB k x hx) le (fun b' sC=>?_);refine setRow_other w b b' c' (fun e=>?_);subst e;exact sB (S.apart k l x _ b' hx hl sC (by rw[hφ];rfl))
 ·intro k k' x x' b' hx Ea hb sC;rcases oa k x hx with⟨rfl,rfl⟩|⟨sB,hx1⟩<;>rcases oa k' x' Ea with⟨rfl,rfl⟩|⟨axc,VV⟩
  ·rfl
  ·exact S.apart k k' _ x' b' hl VV (by rw[hφ]at hb ⊢;exact hb) sC
  ·exact S.apart k k' x _ b' hx1 hl hb (by rw[hφ]at sC ⊢;exact sC)
  ·exact S.apart k k' x x' b' hx1 VV hb sC
 ·intro k x b' o hx hb;rcases oa k x hx with⟨rfl,rfl⟩|⟨sB,hx⟩
  ·exact S.uf k _ b' o hl (by rw[hφ]at hb ⊢;exact hb)
  ·exact S.uf k x b' o hx hb
 ·intro b' o sC hm;by_cases e:b'=b
  ·subst e;exact absurd (S.Cl l _ b' o hl (by rw[hφ];rfl) sC) hm
  ·rw[cell_setRow_other w b c' _ e];exact S.old b' o sC hm
 ·intro b' sC hm;by_cases e:b'=b
  ·subst e;exact absurd (S.Cl l _ b' 0 hl (by rw[hφ];rfl) sC) (hm 0)
  ·rw[setRow_other w b b' c' e];exact S.n9 b' sC hm
 ·intro k x b' o hx hm sC;rcases oa k x hx with⟨rfl,rfl⟩|⟨sB,hx⟩
  ·exact S.Cl k _ b' o hl (by rw[hφ]at hm ⊢;exact hm) sC
  ·exact S.Cl k x b' o hx hm sC
 ·intro x hx hm0;rw[<-S.xf x hx hm0];by_cases e:x.block=b
  ·simp only[World.frozen?];rw[e,setRow_heap w b c c' t _ hh,hh]
  grind [World.frozen?,setRow_other]
 ·intro k hk;have:=S.mF k hk;by_cases e:k=l
  ·subst e;rw[aM rQ];rw[hl]at this;exact this
  grind
def aBI(S:nK C U J a w){ys:List AV}(ht:mS C.P t=some (g,n))(hl:J.heap[l]? =some (.cells cs))
 (hr:kQ (C.env U J.heap w) ys v.cells.toList) (h1:∀u∈v.cells.toList,u.oneCell'=true) (hn:ys.length=n) (aRi:off+n<=cs.length) {p:aTq}
 (hp:pz (C.env U J.heap w) (.ptr l off) p):
 ∃w',(bi t p v).run C.P w=.ok () w'/\nK C U {J with heap:=J.heap.set l (.cells (vA cs off ys))} a w':=by
 obtain⟨_,b,hφ,rfl⟩:=hp;simp only[qC.env]at hφ;obtain⟨b2,c,t2,hφ2,hh,rl,zz⟩:=S.oB l _ hl;have e:b2=b:=by grind
 subst e;simp only[qC.env]at hh;have hcl:c.size=cs.length:=by have:=rl.length;simpa using this
 have hvl:v.cells.size=n:=by have:=hr.length;simp at this;omega
 have hst:=run_storeCells_at C.P b2 off t2 v.cells.toList 0 c w hh (by simp;omega) h1;refine⟨_,?_,S.write hl hφ hh (c':=(c.toList.take off++v.cells.toList++c.toList.drop (off+v.cells.toList.length)).toArray) ?_ ?_⟩
 ·have hs:=(LG (C:=C) (w:=w) ht).2
  grind [bi,au,storeVar,ah,ae]
 ·have e1:v.cells.toList.length=ys.length:=hr.length;rw[e1];exact((rl.take off).append hr).append (rl.drop _)
 grind
theorem aoT(off:Nat):∀(xs:List aTq)(k:Nat)(cs:Array aTq),off+k+xs.length<=cs.size->
 (((xs.zipIdx k).foldl (fun cs p=>cs.setIfInBounds (off+p.2) p.1) cs).toList=cs.toList.take (off+k)++xs++cs.toList.drop (off+k+xs.length))
 |[],k,cs,_=>by simp
 |x::xs,k,cs,h=>by
  simp only[List.zipIdx_cons,List.foldl_cons];rw[aoT off xs (k+1) _ (by simp at h ⊢;omega)];have e:=list_seg_step cs.toList (off+k) x xs (by simp at h ⊢;omega)
  simp_all [bJ]
def anM{E:D4}(place:Nat->Option (Nat×Nat)): ∀(ps:List (Nat×AV))(qs:List (Nat×aTq))(cs:List AV)(vs:Array aTq)(out:List AV),
 kQ E cs vs.toList->(∀u∈vs.toList,u.oneCell'=true)->qs.map (·.1)=ps.map (·.1)->kQ E (ps.map (·.2)) (qs.map (·.2))->aeM place cs ps=some out->
 ∃us,Instr.fill place vs qs=some us/\kQ E out us.toList/\∀u∈us.toList,u.oneCell'=true
 |[],[],cs,vs,out,r,h1,_,_,h=>by
  simp only[aeM]at h;cases h;exact⟨vs,rfl,r,h1⟩
 |[],_::_,_,_,_,_,_,h,_,_=>by simp at h
 |_::_,[],_,_,_,_,_,h,_,_=>by simp at h
 |(i,x)::ps,(j,v)::qs,cs,vs,out,r,h1,hi,hr,h=>by
  simp only[bI,aS]at hi;obtain⟨rfl,hi⟩:=hi;obtain⟨u,us,hus,r1,r2⟩:=hr;simp only[bI,aS]at hus;obtain⟨rfl,rfl⟩:=hus;simp only[aeM]at h;split at h
  ·rename_i off size xs hp hx;split at h
   ·rename_i hc;obtain⟨hrl,zz⟩:=aSE hx r1;have hlen:=hrl.length;have hcl:=r.length;have hsz:v.cells.size=size:=by simp at hlen;omega
    have hsp:off+v.cells.size<=vs.size:=by simp at hcl;omega
    have hf:=aoT off v.cells.toList 0 vs (by simpa using hsp);simp only[bo]at hf
    have aNP:(v.cells.zipIdx.foldl (fun cs (c,j)=>cs.setIfInBounds (off+j) c) vs).toList=vs.toList.take off++v.cells.toList++vs.toList.drop (off+v.cells.toList.length):=by
     rw[<-hf,<-Array.foldl_toList];simp
    obtain⟨us',aIX,hr',ho'⟩:=anM place ps qs (vA cs off xs) (v.cells.zipIdx.foldl (fun cs (c,j)=>cs.setIfInBounds (off+j) c) vs) out (by
     rw[aNP,hlen];exact((r.take off).append hrl).append (r.drop _)) (by
     grind) hi r2 h
    grind [Instr.fill]
   ·cases h
  ·cases h
theorem aBJ(S:nK C U J a w)(hb:rG C.P t=true)(hz:mI C.P t=some z)
 (hf:aeM (kV C.P t) (zB t z) (parts.toList.map fun p=>(p.1,J.ev p.2))=some cs):
 ∃v,(Instr.build t (parts.map fun(i,x)=>(i,a.eval x))).run C.P w=.ok v w/\pz (C.env U J.heap w) (.agg cs) v:=by
 have hev:∀ps:List (Nat×aTp),kQ (C.env U J.heap w) ((ps.map fun p=>(p.1,J.ev p.2)).map (·.2)) ((ps.map fun p=>(p.1,a.eval p.2)).map (·.2)):=by
  intro ps;induction ps with
  |nil=>rfl
  |cons p ps ih=>exact⟨_,_,rfl,S.ev p.2,ih⟩
 unfold mI at hz;cases hi:C.P.info? t with
 |none=>simp [hi]at hz
 |some it=>
  simp only[hi]at hz;cases hz0:it.zero with
  |none=>simp [hz0]at hz
  |some zv=>
   simp only[hz0]at hz;split at hz
   case isFalse=>cases hz
   rename_i zz;cases hz;obtain⟨us,hus,hr,_⟩:=anM (kV C.P t) _ (parts.toList.map fun p=>(p.1,a.eval p.2)) _ zv.cells cs (aIW (C.env U J.heap w) t rfl) (bn.1 zz) (by simp) (hev _) hf;refine⟨.agg us,run_build w t _ us ?_,us,rfl,hr⟩;have aEn:(parts.map fun(i,x)=>(i,a.eval x)).toList=parts.toList.map fun p=>(p.1,a.eval p.2):=by simp
   rw[aEn];unfold rG at hb;unfold Program.built;cases hu:C.P.underlying t with
   |none=>simp [Zd,hu]at hb
   |some d=>
    cases d<;>try (simp [Zd,hu]at hb;done)
    case array n e=>
     cases he:C.P.info? e with
     |none=>simp [Zd,hu,he]at hb
     |some ie=>
      have:kV C.P t=fun i=>some (i*ie.size,ie.size):=by grind [kV,Zd]
      grind
    case struct fs=>
     cases hp:fs.toList.mapM (fun f=>(C.P.info? f.type).map fun i=>(f.offset,i.size))with
     |none=>simp [Zd,hu,hp]at hb
     |some pl=>
      have:kV C.P t=fun i=>pl.toArray[i]? :=by grind [kV,Zd]
      grind
end sound
section sound
variable {a:Act}
def MP {e:aTu}{sz bytes:Nat}(h:mq P t=some (e,sz,bytes)):P.underlying t=some (.slice e)/\∃i,P.info? e=some i/\i.size=sz/\i.bytes=bytes:=by
 grind [mq]
theorem amF(z:List aTq):∀n,(List.range (n*z.length)).map (fun i=>z.toArray[i % z.length]!)=(am n z).flatten
 |0=>by simp
 |n+1=>by
  rw[ay,bP,Nat.add_comm,List.range_add,List.map_append,List.map_map,bN,aB,<-amF z n];congr 1
  ·apply List.ext_getElem?
   grind [Nat.mod_eq_of_lt]
  simp_all
theorem CT{W:Type}{sz:Nat}:∀{rows:List (List W)},(∀r∈rows,r.length=sz)->rows.flatten.length=rows.length*sz
 |[],_=>by simp
 |r::rows,h=>by
  simp only[aB,List.length_append,aE,ay,bP];rw[CT (fun q hq=>h q (by simp [hq])),h r (by simp)];omega
theorem asq{sz:Nat}:∀{rows:List (List AV)}{i:Nat}{xs:List AV},(∀r∈rows,r.length=sz)->i<rows.length->xs.length=sz->
 (rows.set i xs).flatten=vA rows.flatten (i*sz) xs
 |[],_,_,_,h,_=>by simp at h
 |r::rows,0,xs,hl,_,hx=>by
  grind [vA]
 |r::rows,i+1,xs,hl,hi,hx=>by
  have hr:=hl r (by simp);have ih:=asq (rows:=rows) (i:=i) (xs:=xs) (fun q hq=>hl q (bG _ hq)) (by simpa using hi) hx;simp only[List.set_cons_succ,aB,ih,vA];have e1:(i+1)*sz=r.length+i*sz:=by rw[ay,hr];omega
  have e2:(i+1)*sz+xs.length=r.length+(i*sz+xs.length):=by omega
  rw[e2,e1,List.take_length_add_append,List.drop_length_add_append];simp
def asr{sz:Nat}: ∀{ps:List (Nat×AV)}{rows out:List (List AV)},(∀r∈rows,r.length=sz)->aeN sz rows ps=some out->
 aeM (fun i=>some (i*sz,sz)) rows.flatten ps=some out.flatten/\out.length=rows.length/\∀r∈out,r.length=sz
 |[],rows,out,hl,h=>by
  simp only[aeN]at h;cases h;exact⟨rfl,rfl,hl⟩
 |(i,x)::ps,rows,out,hl,h=>by
  simp only[aeN]at h;split at h
  ·rename_i xs hx;split at h
   ·rename_i hc
    have hl':∀r∈rows.set i xs,r.length=sz:=by
     grind
    obtain⟨h1,h2,h3⟩:=asr hl' h;refine⟨?_,by simpa using h2,h3⟩;simp only[aeM,hx];have hfl:=CT hl
    have:i*sz+sz<=rows.length*sz:=by
     have:(i+1)*sz<=rows.length*sz:=ar _ hc.1;rw[ay]at this;omega
    grind [asq]
   ·cases h
  ·cases h
theorem Em{E:D4}{z:List AV}{vs:List aTq}(r:kQ E z vs):∀n,kQ E (am n z).flatten (am n vs).flatten
 |0=>by simp [kQ]
 |n+1=>by
  simp only[bN,aB];exact r.append (Em r n)
theorem aoU(zv:aTq)(n sz:Nat)(hz:zv.cells.size=sz):
 ((bh (n*sz)).map (fun i=>(if n*sz=0 then(#[]:Array aTq)else zv.cells)[i % (if n*sz=0 then(#[]:Array aTq)else zv.cells).size]!)).toList=(am n zv.cells.toList).flatten:=by
 have:=amF zv.cells.toList n;simp only[bf,hz]at this;rw[<-this];by_cases h:n*sz=0
 ·simp [h]
 ·simp [h,hz]
def aiv(S:nK C U J a w){e:aTu}{len sz bytes:Nat}(ht:mq C.P t=some (e,sz,bytes))
 (hz:mI C.P e=some z) (hl:z.length=sz/\len*sz<=16777216) (hf:aeN sz (am len z) (parts.toList.map fun p=>(p.1,J.ev p.2))=some rows):
 ∃us:Array aTq,(aJ t len (parts.map fun(i,x)=>(i,a.eval x))).run C.P w=.ok (.slice (some ⟨w.heap.size,0,none⟩) len len) (World.more w (.cells us e))/\
  kQ (C.env U J.heap w) rows.flatten us.toList/\(∀u∈us.toList,u.oneCell'=true)/\rows.length=len/\(∀r∈rows,r.length=sz)/\us.toList.length=len*sz:=by
 obtain⟨hu,i,hi,rfl,rfl⟩:=MP ht
 have hev:∀ps:List (Nat×aTp),kQ (C.env U J.heap w) ((ps.map fun p=>(p.1,J.ev p.2)).map (·.2)) ((ps.map fun p=>(p.1,a.eval p.2)).map (·.2)):=by
  intro ps;induction ps with
  |nil=>rfl
  |cons p ps ih=>exact⟨_,_,rfl,S.ev p.2,ih⟩
 obtain⟨zv,hzr,aIY,aPq⟩:=aq6 (w:=w) hz;have hzl:zv.cells.size=i.size:=by have:=(aIY (C.env U J.heap w)).length;simp at this;omega
 have hrl:∀r∈am len z,r.length=i.size:=by
  grind
 obtain⟨h1,h2,h3⟩:=asr hrl hf
 have aoV:kQ (C.env U J.heap w) (am len z).flatten ((bh (len*i.size)).map (fun j=>(if len*i.size=0 then(#[]:Array aTq)else zv.cells)[j % (if len*i.size=0 then(#[]:Array aTq)else zv.cells).size]!)).toList:=by
  grind [aoU,Em]
 obtain⟨us,hus,hr,zz⟩:=anM (fun j=>some (j*i.size,i.size)) _ (parts.toList.map fun p=>(p.1,a.eval p.2)) _ _ rows.flatten aoV (by
  grind [aoU,List.mem_flatten]) (by simp) (hev _) h1
 have hlen:rows.length=len:=by simpa using h2
 have aIX:us.toList.length=len*i.size:=by
  rw[hr.length,CT h3,hlen]
 refine⟨us,?_,hr,zz,hlen,h3,aIX⟩;have aEn:(parts.map fun(i,x)=>(i,a.eval x)).toList=parts.toList.map fun p=>(p.1,a.eval p.2):=by simp
 have hsz:(sizeOf e).run C.P w=.ok i.size w:=by simp [sizeOf,typeInfo,hi]
 by_cases h0:len*i.size=0
 ·simp only[h0,jN]at hus;simp only[aJ,ah,run_underlying hu,ae,hsz,h0,jN,aEn];simp only[Nat.not_lt_zero,if_false,gt_iff_lt];simp only[hus,newRow,ah,run_newObj,ae,ap];rfl
 ·simp only[h0,if_false]at hus;have hle: ¬ (len*i.size>2 ^ 24):=by omega
  simp only[aJ,ah,run_underlying hu,ae,hsz,h0,if_false,ap,aEn,hle,hzr];simp only[hus,newRow,ah,run_newObj,ae,ap];rfl
def aq7(S:nK C U J a w){e:aTu}{len sz bytes:Nat}(ht:mq C.P t=some (e,sz,bytes))
 (hz:mI C.P e=some z) (hl:z.length=sz/\len*sz<=16777216) (hf:aeN sz (am len z) (parts.toList.map fun p=>(p.1,J.ev p.2))=some rows):
 ∃v c,(aJ t len (parts.map fun(i,x)=>(i,a.eval x))).run C.P w=.ok v (World.more w (.cells c e))/\
  pz (C.env U J.heap (World.more w (.cells c e))) (.kJ true sz rows) v:=by
 obtain⟨us,vI,hr,zz,hlen,h3,aIX⟩:=aiv S ht hz hl hf;refine⟨.slice (some ⟨w.heap.size,0,none⟩) len len,us,vI,some ⟨w.heap.size,0,none⟩,len,by rw[hlen],by omega,fun _=>hlen.symm,by simp,by simp,?_⟩
 grind [asl]
end sound
section sound
variable {a:Act}
def Ud {u e:aTu}{sLen sCap:Nat}{x:aTq}(hu:P.underlying t=some (.slice e))(hi:P.info? e=some i)
 (hd:P.underlying u=some d) (hni:∀k,d≠ .int k) (hlen:(bK x).run P w=.ok n w) (axd:(an i.size n x).run P w=.ok us w) (aq8:sLen+n<=sCap):
 (ak #[t,u] ty #[.slice base sLen sCap,x]).run P w=
   (match base with|some a=>(storeCells (a.add (sLen*i.size)) us.toList).run P w|none=>.ok () w).andThen fun _ w'=>.ok (.slice base (sLen+n) sCap) w':=by
 have hsz:(sizeOf e).run P w=.ok i.size w:=by simp [sizeOf,typeInfo,hi]
 cases d<;>try (exact absurd rfl (hni _))
 all_goals
  simp only[ak,bC,aD,aV,ah,run_underlying hu,run_underlying hd,ae,hsz,hlen,aq8,jN,ap,aF,if_false,bD,axd];cases base with
  |none=>rfl
  |some b=>simp only[ah,ap]
theorem ayE(aIZ:Nat):∀(r c:Nat),256<=c->bE aIZ r c<=2 ^ r*c
 |0,c,_=>by simp [bE]
 |r+1,c,h=>by
  unfold bE;split
  ·have:1<=2 ^ (r+1):=Nat.one_le_two_pow
   calc c=1*c:=by omega
    _<=_:=ar _ this
  ·have h1:=ayE aIZ r (c+(c+768) / 4) (by omega);have h2:c+(c+768) / 4<=2*c:=by omega
   calc _<=2 ^ r*(c+(c+768) / 4):=h1
    _<=2 ^ r*(2*c):=Nat.mul_le_mul_left _ h2
    _=2 ^ (r+1)*c:=by grind
def aEo {mm:Nat}(h:cap<mm):a7 mm cap<=16*mm:=by
 grind [a7,ayE]
def acg {u e:aTu}{sLen sCap:Nat}{x zv:aTq}{old:Array aTq}(hu:P.underlying t=some (.slice e))(hi:P.info? e=some i)
 (hd:P.underlying u=some d) (hni:∀k,d≠ .int k) (hlen:(bK x).run P w=.ok n w) (axd:∀k,(an i.size n x).run P {w with drawn:=k}=.ok us {w with drawn:=k})
 (hold:∀k,(an i.size sLen (.slice base sLen sCap)).run P {w with drawn:=k}=.ok old {w with drawn:=k}) (hz:i.zero=some zv)
 (aEp:sCap<sLen+n) (Au:(sLen+n)*i.bytes<=2 ^ 44) (hb:0<i.bytes):
 ∃cap,sLen+n<=cap/\(ak #[t,u] ty #[.slice base sLen sCap,x]).run P w=
  .ok (.slice (some ⟨w.heap.size,0,none⟩) (sLen+n) cap) (World.more {w with drawn:=w.drawn+1} (.cells (old++us++bl zv.cells (cap-(sLen+n))) e)):=by
 have hsz:∀w:aTr,(sizeOf e).run P w=.ok i.size w:=fun w=>by simp [sizeOf,typeInfo,hi]
 have hti:∀w:aTr,(typeInfo e).run P w=.ok i w:=fun w=>by simp [typeInfo,hi]
 have hzv:∀w:aTr,(zeroValue e).run P w=.ok zv w:=fun w=>by simp [zeroValue,typeInfo,hi,hz]
 have aSp:sLen+n<=2 ^ 44:=bp (Nat.le_mul_of_pos_right _ hb) Au
 have Cm: ¬ (a7 (sLen+n) sCap*i.bytes>2 ^ 48):=by
  have h1:=ar i.bytes (aEo aEp);rw[Nat.mul_assoc]at h1;omega
 have hb0:i.bytes≠0:=by omega
 have aq8: ¬ (sLen+n<=sCap):=by omega
 refine⟨(sLen+n)+w.tape w.drawn (.appendCap (sLen+n) sCap e) % (2 ^ 63-(sLen+n)),by omega,?_⟩;cases d<;>try (exact absurd rfl (hni _))
 all_goals
  simp only[ak,bC,aD,aV,ah,run_underlying hu,run_underlying hd,ae,hsz,hlen,aq8,if_false,ap,hti,aF,hb0,or_self,and_false,Cm,run_choose,Question.forced,Question.cut,run_askRoom,hold,axd,hzv,bD,jN,newRow,run_newObj];rfl
def nK.aEq(S:nK C U J a w){sz:Nat}{tZ:Bool}(hl:J.heap[l]? =some (.lV tZ sz rows))(hys:0<ys.length\/h'=U l)
 (ach:w.heap.size<=w'.heap.size)
 (ub:∀b o,b<w.heap.size-> ¬ (j6.lV tZ sz rows).Bf (U l) b o->w'.cell? ⟨b,o,none⟩=w.cell? ⟨b,o,none⟩)
 (asP:∀b,b<w.heap.size-> ¬ (j6.lV tZ sz rows).block (U l) b->w'.heap[b]? =w.heap[b]?)
 (aI0:∀x,w'.frozen? x=w.frozen? x) (yn:w'.output=w.output/\w'.os=w.os)
 (FW:∀b,(j6.lV tZ sz (rows++ys)).block h' b->(j6.lV tZ sz rows).block (U l) b\/w.heap.size<=b)
 (ass:∀b o,(j6.lV tZ sz (rows++ys)).Bf h' b o->(j6.lV tZ sz rows).Bf (U l) b o\/w.heap.size<=b)
 (Ue:∀E',(C.env U J.heap w).Le J.heap.length E'->E'.w=w'->oP E' (.lV tZ sz (rows++ys)) h') (hty:tyk w w':=by first|exact fun _ c _ fz h=>⟨c,fz,h⟩|exact auF rfl|exact aus _ _ _|exact auE (by assumption)|assumption):
 nK C (fun k=>if k=l then h' else U k) {J with heap:=J.heap.set l (.lV tZ sz (rows++ys))} a w':=by
 have rQ:l<J.heap.length:=(aj.1 hl).1
 let U':Nat->aTq:=fun k=>if k=l then h' else U k
 have hφl:U' l=h':=by simp [U']
 have hφk:∀k,k≠l->U' k=U k:=fun k hk=>by simp [U',hk]
 have oa:∀(k:Nat)(x:j6),(J.heap.set l (.lV tZ sz (rows++ys)))[k]? =some x->(k=l/\x=.lV tZ sz (rows++ys))\/(k≠l/\J.heap[k]? =some x):=by
  grind
 have aRj:∀a,U l≠ .pointer a:=by
  obtain⟨base,cap,hh,_⟩:=S.oB l _ hl;intro a;rw[hh];simp
 have aPr:hdl (U l)=none:=by
  obtain⟨base,cap,hh,_⟩:=S.oB l _ hl;rw[hh];rfl
 have Ph:∀b o,G9 U' (J.heap.set l (.lV tZ sz (rows++ys))) b o->G9 U J.heap b o\/w.heap.size<=b:=by
  rintro b o ⟨k,x,hx,hm⟩;rcases oa k x hx with⟨rfl,rfl⟩|⟨sB,hx⟩
  ·rw[hφl]at hm;exact(ass b o hm).imp (fun h=>⟨k,_,hl,h⟩) id
  ·rw[hφk k sB]at hm;exact .inl ⟨k,x,hx,hm⟩
 have le:(C.env U J.heap w).Le J.heap.length (C.env U' (J.heap.set l (.lV tZ sz (rows++ys))) w'):=by
  refine⟨by simp [qC.env],fun k hk=>?_,fun b o u hm hc=>?_,hty⟩
  ·grind [qC.env,mT]
  ·have hb:=GA hc;simp only[qC.env]at hb hm ⊢;refine⟨fun h=>?_,?_⟩
   ·grind
   ·rw[ub b o hb (fun h=>hm (.inl ⟨l,_,hl,h⟩))];exact hc
 have BY:tf C U' (J.heap.set l (.lV tZ sz (rows++ys))) w' J.df a.defers:=by
  refine S.defers.step le (fun b hb hno=>asP b hb (hno l _ hl)) (fun k x b hx hb=>?_)
  grind
 refine {kf:=kQ.mono le _ _ (kQ.nb _ _ S.kf) S.kf,defers:=BY,oB:=?_,apart:=?_,uf:=?_,size:=bp S.size ach,old:=?_,n9:=?_,Cl:=?_,xf:=fun x hx=>by rw[aI0];exact S.xf x hx,rest:=⟨by rw[yn.1];exact S.rest.1,by rw[yn.2];exact S.rest.2⟩,low:=⟨S.low.1,by simpa using S.low.2⟩,mF:=?_}
 ·intro k x hx;rcases oa k x hx with⟨rfl,rfl⟩|⟨sB,hx⟩
  ·have:=Ue _ le rfl;simpa using this
  ·have r0:=S.oB k x hx
   have:oP (C.env U' (J.heap.set l (.lV tZ sz (rows++ys))) w') x (U k):=by
    refine oP.mono r0 le (fun b hb=>asP b (r0.qQ hb) (fun h=>?_));exact sB (S.apart k l x _ b hx hl hb h)
   simpa [sB] using this
 ·intro k k' x x' b hx Ea hb sC;rcases oa k x hx with⟨rfl,rfl⟩|⟨sB,hx1⟩<;>rcases oa k' x' Ea with⟨rfl,rfl⟩|⟨axc,VV⟩
  ·rfl
  ·simp only[jN]at hb;simp only[axc,if_false]at sC;rcases FW b hb with h|h
   ·exact S.apart k k' _ x' b hl VV h sC
   ·have:=(S.oB k' x' VV).qQ sC;simp only[qC.env]at this;omega
  ·simp only[jN]at sC;simp only[sB,if_false]at hb;rcases FW b sC with h|h
   ·exact S.apart k k' x _ b hx1 hl hb h
   ·have:=(S.oB k x hx1).qQ hb;simp only[qC.env]at this;omega
  ·simp only[sB,axc,if_false]at hb sC;exact S.apart k k' x x' b hx1 VV hb sC
 ·intro k x b o hx hb;rcases oa k x hx with⟨rfl,rfl⟩|⟨sB,hx1⟩
  ·simp only[jN]at hb;rcases FW b hb with h|h
   ·exact S.uf k _ b o hl h
   ·intro hA;have:=C.hA _ _ hA;have:=S.size;omega
  ·simp only[sB,if_false]at hb;exact S.uf k x b o hx1 hb
 ·intro b o hb hm;rw[ub b o (aa hb S.size) (fun h=>hm (S.Cl l _ b o hl h hb))];exact S.old b o hb hm
 ·intro b hb hm;rw[asP b (aa hb S.size) (fun h=>?_)]
  ·exact S.n9 b hb hm
  ·obtain⟨base,cap,hh,_⟩:=S.oB l _ hl;rw[hh]at h;cases base with
   |none=>simp [j6.block]at h
   |some a0=>
    simp only[j6.block]at h;exact hm (a0.off+rows.length*sz) (S.Cl l _ b _ hl (by rw[hh];exact⟨h,fun _=>ax _⟩) hb)
 ·intro k x b o hx hm hb;rcases oa k x hx with⟨rfl,rfl⟩|⟨sB,hx1⟩
  ·simp only[jN]at hm;rcases ass b o hm with h|h
   ·exact S.Cl k _ b o hl h hb
   ·have:=S.size;omega
  ·simp only[sB,if_false]at hm;exact S.Cl k x b o hx1 hm hb
 ·intro k hk;have:=S.mF k hk
  grind [mT]
def nK.aeR(S:nK C U J a w){tZ:Bool}{sz:Nat}
 (ach:w.heap.size<=w'.heap.size) (asP:∀b,b<w.heap.size->w'.heap[b]? =w.heap[b]?)
 (aI0:∀x,w'.frozen? x=w.frozen? x) (yn:w'.output=w.output/\w'.os=w.os)
 (FW:∀b,(j6.lV tZ sz rows).block h' b->w.heap.size<=b)
 (Ue:∀E',(C.env U J.heap w).Le J.heap.length E'->E'.w=w'->oP E' (.lV tZ sz rows) h'):
 nK C (fun k=>if k=J.heap.length then h' else U k) {J with heap:=J.heap++[.lV tZ sz rows]} a w':=by
 let U':Nat->aTq:=fun k=>if k=J.heap.length then h' else U k
 have hφ:∀l,l<J.heap.length->U' l=U l:=fun l hl=>by grind
 have oa:∀(l:Nat)(x:j6),(J.heap++[.lV tZ sz rows])[l]? =some x->(l<J.heap.length/\J.heap[l]? =some x)\/(l=J.heap.length/\x=.lV tZ sz rows):=by
  grind
 have ub:∀b o,b<w.heap.size->w'.cell? ⟨b,o,none⟩=w.cell? ⟨b,o,none⟩:=by
  grind [World.cell?]
 have Ph:∀b o,G9 U' (J.heap++[.lV tZ sz rows]) b o->w.heap.size<=b\/G9 U J.heap b o:=by
  rintro b o ⟨l,x,hx,hm⟩;rcases oa l x hx with⟨hl,hx⟩|⟨rfl,rfl⟩
  ·rw[hφ l hl]at hm;exact .inr ⟨l,x,hx,hm⟩
  ·simp only[U',jN]at hm;exact .inl (FW b (j6.ou hm))
 have le:(C.env U J.heap w).Le J.heap.length (C.env U' (J.heap++[.lV tZ sz rows]) w'):=by
  refine qC.CR (by simp) (fun l hl=>⟨hφ l hl,by rw[av hl]⟩) (fun b i u hm hc=>?_)
  grind [GA]
 have BY:tf C U' (J.heap++[.lV tZ sz rows]) w' J.df a.defers:=by
  refine S.defers.step le (fun b hb _=>asP b hb) (fun l x b hx hb=>?_)
  grind
 refine {kf:=kQ.mono le _ _ (kQ.nb _ _ S.kf) S.kf,defers:=BY,oB:=?_,apart:=?_,uf:=?_,size:=bp S.size ach,old:=?_,n9:=?_,Cl:=?_,xf:=fun x hx=>by rw[aI0];exact S.xf x hx,rest:=⟨by rw[yn.1];exact S.rest.1,by rw[yn.2];exact S.rest.2⟩,low:=⟨S.low.1,by have:=S.low.2;simp;omega⟩,mF:=?_}
 ·intro l x hx;rcases oa l x hx with⟨hl,hx⟩|⟨rfl,rfl⟩
  ·have r0:=S.oB l x hx;have:oP (C.env U' (J.heap++[.lV tZ sz rows]) w') x (U l):=oP.mono r0 le (fun b hb=>asP b (r0.qQ hb))
   grind
  ·have:=Ue _ le rfl;simpa using this
 ·intro l l' x x' b hx Ea hb sC;rcases oa l x hx with⟨hl,hx1⟩|⟨rfl,rfl⟩<;>rcases oa l' x' Ea with⟨hl',VV⟩|⟨rfl,rfl⟩
  ·rw[show(if l=J.heap.length then _ else U l)=U l from hφ l hl]at hb;rw[show(if l'=J.heap.length then _ else U l')=U l' from hφ l' hl']at sC;exact S.apart l l' x x' b hx1 VV hb sC
  ·rw[show(if l=J.heap.length then _ else U l)=U l from hφ l hl]at hb;have:=(S.oB l x hx1).qQ hb
   grind [qC.env]
  ·rw[show(if l'=J.heap.length then _ else U l')=U l' from hφ l' hl']at sC;have:=(S.oB l' x' VV).qQ sC
   grind [qC.env]
  ·rfl
 ·intro l x b o hx hb;rcases oa l x hx with⟨hl,hx1⟩|⟨rfl,rfl⟩
  ·rw[show(if l=J.heap.length then _ else U l)=U l from hφ l hl]at hb;exact S.uf l x b o hx1 hb
  ·simp only[jN]at hb;intro hA;have:=C.hA _ _ hA;have:=FW b hb;have:=S.size;omega
 ·intro b i hb hm;rw[ub b i (aa hb S.size)];exact S.old b i hb hm
 ·intro b hb hm;rw[asP b (aa hb S.size)];exact S.n9 b hb hm
 ·intro l x b o hx hm hb;rcases oa l x hx with⟨hl,hx1⟩|⟨rfl,rfl⟩
  ·rw[show(if l=J.heap.length then _ else U l)=U l from hφ l hl]at hm;exact S.Cl l x b o hx1 hm hb
  ·simp only[jN]at hm;have:=FW b (j6.ou hm);have:=S.size;omega
 ·intro l hl;have rQ:l<J.heap.length:=by have:=S.low;omega
  have:=S.mF l hl
  grind
end sound
section sound
variable {a:Act}
def aiw{E:D4}{sz b:Nat}:∀{rows:List (List AV)}{off:Nat},oo E sz b off rows->oU E b off rows.flatten/\∀r∈rows,r.length=sz
 |[],_,_=>⟨trivial,by simp⟩
 |r::rows,off,⟨h1,h2,h3⟩=>by
  obtain⟨m,hl⟩:=aiw h3
  grind [oU.append]
def amG{E:D4}{b:Nat}:∀{cs:List AV}{off:Nat}{us:List aTq},oU E b off cs->kQ E cs us->(∀j u,us[j]? =some u->E.w.cell? ⟨b,off+j,none⟩=some u)->∀u∈us,u.oneCell'=true
 |[],_,_,_,rfl,_=>by simp
 |c::cs,off,_,⟨⟨_,u,hu,h1,_⟩,r2⟩,⟨u',us,rfl,_,rl⟩,hc=>by
  intro v hv;simp only[aW]at hv;rcases hv with rfl|hv
  ·have:=hc 0 v (by simp)
   grind
  ·exact amG r2 rl (fun j w hj=>by rw[<-hc (j+1) w (by simpa using hj)];congr 2;omega) v hv
def aI1(P:aTt)(E:D4)(sz:Nat)(rows:List (List AV))(v:aTq):Prop:=
 ∃us:List aTq,kQ E rows.flatten us/\us.length=rows.length*sz/\(∀r∈rows,r.length=sz)/\(∀u∈us,u.oneCell'=true)/\
  ∀k,(an sz rows.length v).run P {E.w with drawn:=k}=.ok us.toArray {E.w with drawn:=k}
def ayF{sz aSH:Nat}{t:Bool}(h:aSH=sz\/rows.length=0)(r:pz E (.kJ t aSH rows) v):aI1 P E sz rows v:=by
 obtain⟨base,cap,rfl,h2,h3,h4,h5,h6⟩:=r;cases base with
 |none=>
  have h0:rows.length=0:=by have:=h4 rfl;omega
  have:rows=[]:=af h0;subst this;exact⟨[],rfl,by simp,by simp,by simp,fun k=>by simp [an]⟩
 |some a=>
  by_cases hr:rows=[]
  ·subst hr;exact⟨[],rfl,by simp,by simp,by simp,fun k=>by simp [an,loadCells,loadCellsFrom]⟩
  ·have hsz:aSH=sz:=by
    grind
   subst hsz;obtain⟨m,hl⟩:=aiw (h6 a rfl);obtain⟨us,rl,hc⟩:=Uc m;have zz:=amG m rl hc;have hlen:us.length=rows.length*aSH:=by rw[rl.length,CT hl]
   refine⟨us,rl,hlen,hl,zz,fun k=>?_⟩;have hsp:=h5 a rfl hr;have ha:a=⟨a.block,a.off,none⟩:=by cases a;simp_all
   have:=run_loadCells_list (P:=P) {E.w with drawn:=k} a us (fun j v hj=>by
    rw[ha,Aj];exact hc j v hj)
   grind [an]
def ayG(S:nK C U J a w){sz:Nat}{tZ:Bool}(hl:J.heap[l]? =some (.lV tZ sz rows)):aI1 P (C.env U J.heap w) sz rows (U l):=by
 obtain⟨base,cap,hh,h2,h3,h4,h5⟩:=S.oB l _ hl;rw[hh];cases base with
 |none=>
  have h0:rows.length=0:=by have:=h3 rfl;omega
  have:rows=[]:=af h0;subst this;exact⟨[],rfl,by simp,by simp,by simp,fun k=>by simp [an]⟩
 |some b=>
  by_cases Cm:cap=0
  ·have h0:rows.length=0:=by omega
   have:rows=[]:=af h0;subst this;exact⟨[],rfl,by simp,by simp,by simp,fun k=>by simp [an,loadCells,loadCellsFrom]⟩
  ·obtain⟨hsp,c,t,hc,hsz,rl,zz⟩:=h5 b rfl Cm;have hle:rows.length*sz<=cap*sz:=ar _ h2
   have hlen:((c.toList.drop b.off).take (rows.length*sz)).length=rows.length*sz:=by
    grind
   refine⟨_,rl,hlen,h4,zz,fun k=>?_⟩;have ha:b=⟨b.block,b.off,none⟩:=by cases b;simp_all
   grind [run_loadCells_list,Aj,World.cell?,an]
def Q1(_S:nK C U J a w){sz:Nat}{tZ:Bool}(hl:J.heap[l]? =some (.lV tZ sz rows))(hn:rows.length=n)
 (r:pz (C.env U J.heap w) (.lV l n) v):v=U l:=by
 obtain⟨_,_,h⟩:=r
 grind [qC.env,mT]
def aix (S:nK C U J a w){sz:Nat} (hl:J.heap[l]? =some (.lV true sz rows)):pz (C.env U J.heap w) (.kJ false sz rows) (U l):=by
 obtain⟨base,cap,hh,h2,h3,h4,h5⟩:=S.oB l _ hl;refine⟨base,cap,hh,h2,(by intro h;cases h),h3,?_,?_⟩
 ·intro b hb sB;have hc:cap≠0:=fun h0=>sB (af (by omega))
  exact(h5 b hb hc).1
 ·intro b hb;by_cases hc:cap=0
  ·have:rows=[]:=af (by omega);subst this;trivial
  ·obtain⟨hsp,c,t,hcb,hsz,rl,zz⟩:=h5 b hb hc;subst hb;have hle:rows.length*sz<=cap*sz:=ar _ h2
   have hnm:∀o,o<b.off+rows.length*sz-> ¬ (G9 U J.heap b.block o\/C.A b.block o):=by
    intro o ho hmu;have hbl:(j6.lV true sz rows).block (U l) b.block:=by rw[hh];exact⟨rfl,hc⟩
    rcases hmu with⟨l',x,hx,hm⟩|hA
    ·have e:=S.apart l' l x _ b.block hx hl (j6.ou hm) hbl;subst e;rw[hl]at hx;cases hx;rw[hh]at hm;have:=hm.2 rfl;omega
    ·exact S.uf l _ b.block o hl hbl hA
   have key: ∀ (rs:List (List AV)) (off:Nat),(∀r∈rs,r.length=sz)->off+rs.length*sz<=b.off+rows.length*sz->
    kQ (C.env U J.heap w) rs.flatten ((c.toList.drop off).take (rs.length*sz))->(∀u∈(c.toList.drop off).take (rs.length*sz),u.oneCell'=true)->oo (C.env U J.heap w) sz b.block off rs:=by
    have mem:∀(cs:List AV)(off:Nat),off+cs.length<=b.off+rows.length*sz->kQ (C.env U J.heap w) cs ((c.toList.drop off).take cs.length)->(∀u∈(c.toList.drop off).take cs.length,u.oneCell'=true)->
     oU (C.env U J.heap w) b.block off cs:=by
     intro cs;induction cs with
     |nil=>intro _ _ _ _;trivial
     |cons x cs ih=>
      intro off ho r h1;obtain⟨u,us,hu,r1,r2⟩:=r
      have hcu:c[off]? =some u:=by
       have:(c.toList.drop off)[0]? =some u:=by
        have:=congrArg (fun l:List aTq=>l[0]?) hu;simpa using this
       simpa using this
      have htl:us=(c.toList.drop (off+1)).take cs.length:=by
       have h1:=congrArg List.tail hu;simp only[List.tail_cons]at h1;rw[<-h1];cases hd:c.toList.drop off with
       |nil=>rw[hd]at hu;simp at hu
       |cons y ys=>
        grind [bA]
      simp only[aE]at ho;simp only[qC.env]at hcb;refine⟨⟨hnm off (by omega),u,by grind [qC.env,World.cell?],h1 u (by rw[hu];simp),r1⟩,ih (off+1) (by omega) (by rw[<-htl];exact r2) (fun v hv=>h1 v (by rw[hu,htl];simp [hv]))⟩
    intro rs;induction rs with
    |nil=>intro _ _ _ _ _;trivial
    |cons r rs ih=>
     intro off hl' ho h h1;have hr:r.length=sz:=hl' r (by simp);simp only[aB]at h;have h3:=kQ.take r.length h;have h2:=kQ.drop r.length h;simp only[aY,aZ,bB,aU,aO]at h3 h2
     have e1:min r.length ((r::rs).length*sz)=r.length:=by
      grind [ay]
     have e2:(r::rs).length*sz-r.length=rs.length*sz:=by grind [ay]
     simp only[aE,ay,bP]at ho;rw[e1]at h3;rw[e2,hr]at h2;refine⟨hr,mem r off (by omega) h3 (fun u hu=>h1 u ?_),ih (off+sz) (fun q hq=>hl' q (by simp [hq])) (by omega) h2 (fun u hu=>h1 u ?_)⟩
     ·have:(c.toList.drop off).take r.length=((c.toList.drop off).take ((r::rs).length*sz)).take r.length:=by rw[bB,e1]
      grind
     ·have:(c.toList.drop (off+sz)).take (rs.length*sz)=((c.toList.drop off).take ((r::rs).length*sz)).drop sz:=by
       grind [aU,aO]
      grind
   grind
def axe(S:nK C U J a w){sz:Nat}(h:aeO J sz y=some (rd,ys))(r:pz (C.env U J.heap w) y v):
 aI1 P (C.env U J.heap w) sz ys v/\(bK v).run P w=.ok ys.length w:=by
 unfold aeO at h;split at h
 ·split at h
  ·rename_i hc;cases h;refine⟨ayF hc r,?_⟩;obtain⟨_,_,rfl,_⟩:=r;rfl
  ·cases h
 ·split at h
  ·rename_i hl;split at h
   ·rename_i hc;cases h;have hv:=Q1 S hl hc.2 r;subst hv;refine⟨hc.1 ▸ ayG S hl,?_⟩;obtain⟨base,cap,hh,_⟩:=S.oB _ _ hl;rw[hh];rfl
   ·cases h
  ·cases h
 ·cases h;have r:v=_:=r;subst r;exact⟨⟨[],rfl,by simp,by simp,by simp,fun k=>by rename_i base cap;cases base<;>simp [an,loadCells,loadCellsFrom]⟩,rfl⟩
 ·cases h
theorem aiy(z:Array aTq)(n:Nat):(bl z n).size=n*z.size:=by simp [bl]
def auM {sz:Nat}{e:aTu}{us:List aTq}{zs:Array aTq}{tZ:Bool}(Pp:∀r∈rows,r.length=sz)
 (hr:kQ E' rows.flatten us) (zz:∀u∈us,u.oneCell'=true) (hw:E'.w.heap[b]? =some (.cells c e (0,0))) (hc:c.toList=us++zs.toList) (hz:zs.size=(cap-rows.length)*sz) (hle:rows.length<=cap):
 oP E' (.lV tZ sz rows) (.slice (some ⟨b,0,none⟩) rows.length cap):=by
 have hus:us.length=rows.length*sz:=by rw[hr.length,CT Pp]
 refine⟨some ⟨b,0,none⟩,cap,rfl,hle,by simp,Pp,fun a ha _=>?_⟩;simp only[ai]at ha;subst ha;refine⟨rfl,c,e,hw,?_,?_⟩
 ·have:c.size=rows.length*sz+(cap-rows.length)*sz:=by grind [bf]
  rw[this,<-ay]
  grind
 grind
theorem aq9(J:jT)(dst:Option Tmp)(x:AV)(rd:List Nat)(l:Nat)(o:j6)(p:Prop):
 J.app dst {val:=x,rd,up:=[(l,o)],pre:=p}=jT.put {J with heap:=J.heap.set l o} dst x:=by
 cases dst<;>simp [jT.app,nu,jT.put]
theorem ara(J:jT)(dst:Option Tmp)(x:AV)(rd:List Nat)(o:j6)(p:Prop):
 J.app dst {val:=x,rd,nw:=[o],pre:=p}=jT.put {J with heap:=J.heap++[o]} dst x:=by
 cases dst<;>simp [jT.app,nu,jT.put]
def azE (S:nK C U J a w){u e:aTu} {sz bytes:Nat}{vy:aTq} (ht:mq C.P t=some (e,sz,bytes)) (hu:l4 C.P u=true)
 (hz:mI C.P e=some z) (hzl:z.length=sz/\0<sz/\0<bytes) (h:Wz im J sz bytes x y=some ef) (hp:ef.pre)
 (rx:pz (C.env U J.heap w) x vx) (ry:pz (C.env U J.heap w) y vy):
 ∃v w' U',(ak #[t,u] ty #[vx,vy]).run C.P w=.ok v w'/\nK C U' (J.app dst ef) (a.put dst v) w':=by
 obtain⟨hut,i,hi,rfl,rfl⟩:=MP ht
 obtain⟨d,hd,hni⟩:∃d,C.P.underlying u=some d/\∀k,d≠ .int k:=by
  grind [l4]
 obtain⟨zv,hzi,hzs⟩:∃zv,i.zero=some zv/\zv.cells.size=i.size:=by
  grind [mI]
 unfold Wz at h;split at h
 ·cases h
 rename_i rd ys axd;obtain⟨⟨us,rus,lus,aPs,aGx,aLl⟩,aBK⟩:=axe (P:=C.P) S axd ry;simp only[qC.env]at aLl;have aI2:(an i.size ys.length vy).run C.P w=.ok us.toArray w:=aLl w.drawn;split at h
 ·
  rename_i l n;split at h
  ·rename_i tZ aSH rows hl;split at h
   ·rename_i hc;obtain⟨rfl,hn⟩:=hc;cases h;simp only at hp;have hvx:=Q1 S hl hn rx;subst hvx;obtain⟨base,cap,hh,h2,h3,h4,h5⟩:=S.oB l _ hl
    have Pp:∀r∈rows++ys,r.length=i.size:=by
     grind
    have rQ:l<J.heap.length:=(aj.1 hl).1
    have zx:∀{h':aTq}{w':aTr},(∃b m c,h'=.slice b m c)->(ak #[t,u] ty #[U l,vy]).run C.P w=.ok h' w'->
     nK C (fun k=>if k=l then h' else U k) {J with heap:=J.heap.set l (.lV tZ i.size (rows++ys))} a w'->
     ∃v w' U',(ak #[t,u] ty #[U l,vy]).run C.P w=.ok v w'/\
      nK C U' (J.app dst {val:=.lV l (rows++ys).length,rd:=l::rd,up:=[(l,.lV tZ i.size (rows++ys))],pre:=room (rows.length+ys.length) i.bytes}) (a.put dst v) w':=by
     intro h' w' hsl vI hS;refine⟨h',w',(fun k=>if k=l then h' else U k),vI,?_⟩
     have:=hS.put dst (x:=.lV l (rows++ys).length) (v:=h') ⟨by simpa [qC.env] using rQ,hsl,fun k hk=>by
      grind [qC.env,mT]⟩
     rw[aq9];exact this
    by_cases aq8:rows.length+ys.length<=cap
    ·have vI:=Ud (w:=w) (ty:=ty) (base:=base) (sLen:=rows.length) (sCap:=cap) hut hi hd hni aBK aI2 aq8;by_cases Cm:cap=0
     ·
      have hr0:rows=[]:=af (by omega);have hy0:ys=[]:=af (by omega);subst hr0 hy0;have hu0:us=[]:=by simpa using lus
      subst hu0;rw[<-hh]at vI
      have auN:(ak #[t,u] ty #[U l,vy]).run C.P w=.ok (U l) w:=by
       rw[vI,hh];cases base<;>simp [storeCells]
      refine zx ⟨_,_,_,hh⟩ auN (S.aEq hl (.inr rfl) (ax _) (fun _ _ _ _=>rfl) (fun _ _ _=>rfl) (fun _=>rfl) ⟨rfl,rfl⟩ (fun b hb=>.inl (by simpa using hb)) (fun b o hm=>.inl (by simpa using hm)) ?_);intro E' hle hw;rw[hh];exact⟨base,cap,by simp,by simp,h3,by simp,fun b hb hc=>absurd Cm hc⟩
     ·cases base with
      |none=>exact absurd (h3 rfl) Cm
      |some b=>
       obtain⟨hsp,c,tc,hcb,hsz,rl,aPt⟩:=h5 b rfl Cm;simp only[qC.env]at hcb;have hb:b=⟨b.block,b.off,none⟩:=by cases b;simp_all
       have e1:(rows.length+ys.length)*i.size<=cap*i.size:=ar _ aq8;have e2:(rows.length+ys.length)*i.size=rows.length*i.size+ys.length*i.size:=ay ..
       have hst:=run_storeCells_at C.P b.block (b.off+rows.length*i.size) tc us 0 c w hcb (by omega) aGx;simp only[bo]at hst
       let c':Array aTq:=(c.toList.take (b.off+rows.length*i.size)++us++c.toList.drop (b.off+rows.length*i.size+us.length)).toArray
       have auN:(ak #[t,u] ty #[U l,vy]).run C.P w=.ok (.slice (some b) (rows.length+ys.length) cap) (w.setRow b.block c'):=by
        grind [Aj,ae]
       have aLm:∀o,o<b.off+rows.length*i.size->c'[o]? =c[o]? :=by
        grind [av]
       refine zx ⟨_,_,_,rfl⟩ auN (S.aEq hl ?_ (by simp) ?_ ?_ ?_ ⟨rfl,rfl⟩ ?_ ?_ ?_)
       ·grind
       ·intro b' o sC hm;by_cases e:b'=b.block
        ·subst e;simp only[World.cell?];rw[setRow_heap w b.block c c' tc _ hcb,hcb];simp only[Option.isSome_none,aF,if_false];apply aLm;rw[hh]at hm;cases tZ with
         |false=>exact absurd ⟨⟨rfl,Cm⟩,fun h=>by cases h⟩ hm
         |true=>
          by_cases ho:o<b.off+rows.length*i.size
          ·exact ho
          ·exact absurd ⟨⟨rfl,Cm⟩,fun _=>by omega⟩ hm
        grind [cell_setRow_other]
       ·intro b' sC hbl;rw[hh]at hbl;exact setRow_other w b.block b' c' (fun e=>hbl ⟨e,Cm⟩)
       ·intro x;by_cases e:x.block=b.block
        ·simp only[World.frozen?];rw[e,setRow_heap w b.block c c' tc _ hcb,hcb]
        grind [World.frozen?,setRow_other]
       ·intro b' sC;left;rw[hh];exact sC
       ·intro b' o hm;left;rw[hh];refine⟨hm.1,fun hi'=>?_⟩;have:=hm.2 hi';omega
       ·intro E' hle hw;refine⟨some b,cap,by simp,by simpa using aq8,by simp,Pp,fun b0 hb0 _=>?_⟩;simp only[ai]at hb0;subst hb0;refine⟨hsp,c',tc,by rw[hw];exact setRow_heap w b.block c c' tc _ hcb,?_,?_⟩
        ·have:c'.size=c.size:=by simp [c'];omega
         omega
        ·have rl':=kQ.mono hle _ _ (kQ.nb _ _ rl) rl;have ru':=kQ.mono hle _ _ (kQ.nb _ _ rus) rus;have:=rl'.append ru';rw[bg]
         have e3:(c'.toList.drop b.off).take ((rows++ys).length*i.size)=(c.toList.drop b.off).take (rows.length*i.size)++us:=by
          have hcl:b.off+rows.length*i.size<=c.toList.length:=by simp;omega
          have e4:c'.toList=c.toList.take b.off++((c.toList.drop b.off).take (rows.length*i.size)++(us++c.toList.drop (b.off+rows.length*i.size+us.length))):=by
           simp only[c',aN];rw[<-aN (c.toList.take b.off),<-bL]
          rw[e4,be (by simp;omega),aU];simp only[Nat.sub_self,List.take_zero,List.nil_append];rw[<-aN];apply aY;simp only[List.length_append,bq,List.length_drop,lus,ay];omega
         rw[e3];exact⟨this,fun v hv=>(a8.1 hv).elim (aPt v) (aGx v)⟩
    ·
     have hold:=(ayG (P:=C.P) S hl);obtain⟨os,ros,los,_,aI3,aHo⟩:=hold;rw[hh]at aHo;simp only[qC.env]at aHo;obtain⟨aRk,hle,vI⟩:=acg (w:=w) (ty:=ty) hut hi hd hni aBK aLl aHo hzi (by omega) hp hzl.2.2;rw[<-hh]at vI;refine zx ⟨_,_,_,rfl⟩ vI (S.aEq hl (.inl (by omega)) (by simp) ?_ ?_ ?_ ⟨rfl,rfl⟩ ?_ ?_ ?_)
     ·intro b o hb _;exact FQ {w with drawn:=w.drawn+1} _ hb
     ·intro b hb _;exact zg {w with drawn:=w.drawn+1} _ hb
     ·intro x;rw[xh {w with drawn:=w.drawn+1} _ (by intro c' t' lo hi h;cases h;exact⟨rfl,rfl⟩)];rfl
     ·intro b hb;right;have:b=w.heap.size:=hb.1;omega
     ·intro b o hm;right;have:b=w.heap.size:=hm.1.1;omega
     ·intro E' aI4 hw;have ro':=kQ.mono aI4 _ _ (kQ.nb _ _ ros) ros;have ru':=kQ.mono aI4 _ _ (kQ.nb _ _ rus) rus;have hll:(rows++ys).length=rows.length+ys.length:=by simp
      rw[<-hll];refine auM (us:=os++us) Pp (by rw[bg];exact ro'.append ru') (fun v hv=>(a8.1 hv).elim (aI3 v) (aGx v)) (by rw[hw];exact ay4 {w with drawn:=w.drawn+1} _) (by simp;rfl) ?_ (by omega);rw[aiy,hzs,hll]
   ·cases h
  ·cases h
 ·
  rename_i aSH rows;split at h
  ·rename_i hc;split at h
   case isFalse sB=>
    cases h;have hy0:ys=[]:=af (by omega);subst hy0;have hu0:us=[]:=by simpa using lus
    subst hu0;obtain⟨base,cap,rfl,h2,h3,h4,h5,h6⟩:=id rx;have Cm:=h3 rfl;subst Cm;have vI:=Ud (w:=w) (ty:=ty) (base:=base) (sLen:=rows.length) (sCap:=rows.length) hut hi hd hni aBK aI2 (by simp)
    have auN:(ak #[t,u] ty #[.slice base rows.length rows.length,vy]).run C.P w=.ok (.slice base rows.length rows.length) w:=by
     rw[vI];cases base<;>simp [storeCells]
    refine⟨_,w,U,auN,?_⟩;have:=S.put dst rx;simpa [jT.app,nu,jT.put] using (by cases dst<;>simpa [jT.put] using this)
   rename_i sB;cases h;have Au:=hp;obtain⟨os,ros,los,aPu,aI3,aHo⟩:=ayF (P:=C.P) hc rx;obtain⟨base,cap,rfl,h2,h3,h4,h5,h6⟩:=rx;have Cm:=h3 rfl;subst Cm;simp only[qC.env]at aHo
   have Pp:∀r∈rows++ys,r.length=i.size:=by
    intro r hr;rcases a8.1 hr with hr|hr
    ·exact aPu r hr
    ·exact aPs r hr
   have zx:∀{h':aTq}{w':aTr},(∃b m c,h'=.slice b m c)->(ak #[t,u] ty #[.slice base rows.length rows.length,vy]).run C.P w=.ok h' w'->
    nK C (fun k=>if k=J.heap.length then h' else U k) {J with heap:=J.heap++[.lV im i.size (rows++ys)]} a w'->
    ∃v w' U',(ak #[t,u] ty #[.slice base rows.length rows.length,vy]).run C.P w=.ok v w'/\
     nK C U' (J.app dst {val:=.lV J.heap.length (rows++ys).length,rd:=rd,nw:=[.lV im i.size (rows++ys)],pre:=room (rows.length+ys.length) i.bytes}) (a.put dst v) w':=by
    intro h' w' hsl vI hS;refine⟨h',w',(fun k=>if k=J.heap.length then h' else U k),vI,?_⟩
    have:=hS.put dst (x:=.lV J.heap.length (rows++ys).length) (v:=h') ⟨by simp [qC.env],hsl,fun k hk=>by
     simp only[qC.env,List.getElem?_append_right (ax _),Nat.sub_self,aD,mT,ai]at hk;exact⟨by omega,fun _=>by simp [qC.env]⟩⟩
    rw[ara];exact this
   by_cases aq8:rows.length+ys.length<=rows.length
   ·have hy0:ys=[]:=af (by omega);subst hy0
    have hr0:rows=[]:=by
     rcases sB with h|h
     ·exact af h
     ·simp at h
    subst hr0;have hu0:us=[]:=by simpa using lus
    subst hu0;have vI:=Ud (w:=w) (ty:=ty) (base:=base) (sLen:=0) (sCap:=0) hut hi hd hni aBK aI2 (by simp)
    have auN:(ak #[t,u] ty #[.slice base 0 0,vy]).run C.P w=.ok (.slice base 0 0) w:=by
     rw[vI];cases base<;>simp [storeCells]
    refine zx ⟨_,_,_,rfl⟩ auN (S.aeR (ax _) (fun _ _=>rfl) (fun _=>rfl) ⟨rfl,rfl⟩ ?_ ?_)
    ·intro b hb;cases base<;>simp [j6.block]at hb
    ·intro E' _ _;exact⟨base,0,rfl,by simp,fun _=>rfl,by simp,fun b _ h0=>absurd rfl h0⟩
   ·obtain⟨aRk,hle,vI⟩:=acg (w:=w) (ty:=ty) hut hi hd hni aBK aLl aHo hzi (by omega) Au hzl.2.2;refine zx ⟨_,_,_,rfl⟩ vI (S.aeR (by simp) ?_ ?_ ⟨rfl,rfl⟩ ?_ ?_)
    ·intro b hb;exact zg {w with drawn:=w.drawn+1} _ hb
    ·intro x;rw[xh {w with drawn:=w.drawn+1} _ (by intro c' t' lo hi h;cases h;exact⟨rfl,rfl⟩)];rfl
    ·intro b hb;have:b=w.heap.size:=hb.1;omega
    ·intro E' aI4 hw;have ro':=kQ.mono aI4 _ _ (kQ.nb _ _ ros) ros;have ru':=kQ.mono aI4 _ _ (kQ.nb _ _ rus) rus;have hll:(rows++ys).length=rows.length+ys.length:=by simp
     rw[<-hll];refine auM (us:=os++us) Pp (by rw[bg];exact ro'.append ru') (fun v hv=>(a8.1 hv).elim (aI3 v) (aGx v)) (by rw[hw];exact ay4 {w with drawn:=w.drawn+1} _) (by simp;rfl) ?_ (by omega);rw[aiy,hzs,hll]
  ·cases h
 ·cases h
end sound
section sound
variable {a:Act}
theorem MQ(J:jT)(dst:Option Tmp)(x:AV)(rd:List Nat)(p:Prop):J.app dst {val:=x,rd,pre:=p}=J.put dst x:=by
 cases dst<;>simp [jT.app,nu,jT.put]
theorem lP(S:nK C U J a w){m:Sem aTq}(h:∃v,m.run C.P w=.ok v w/\pz (C.env U J.heap w) x v):
 Ai C J a w dst ((do pure (.value (<-m)):Sem Next).run C.P w) {val:=x,rd,pre:=p}:=by
 obtain⟨v,hr,rep⟩:=h;refine⟨.value v,v,w,U,by simp [hr],.inl rfl,?_⟩;rw[MQ];exact S.put dst rep
def aGy {u:aTu}{i o:Nat}(h:oh P t i=some (o,u)):∃fs f j,P.underlying t=some (.struct fs)/\fs[i]? =some f/\P.info? f.type=some j/\j.size≠0/\f.offset=o/\f.type=u:=by
 grind [oh]
def nK.aI5(S:nK C U J a w){sz:Nat}{xQ:List (List AV)}{c':Array aTq}(hl:J.heap[l]? =some (.lV false sz rows))(hφ:U l=.slice (some ⟨b,off,none⟩) rows.length cap)(Cm:cap≠0)
 (hle:rows.length<=cap) (hlen:xQ.length=rows.length) (hh:w.heap[b]? =some (.cells c t (0,0))) (hsz:∀r∈xQ,r.length=sz) (aq8:off+cap*sz<=c'.size)
 (hr:kQ (C.env U J.heap w) xQ.flatten ((c'.toList.drop off).take (xQ.length*sz))) (h1:∀u∈(c'.toList.drop off).take (xQ.length*sz),u.oneCell'=true):
 nK C U {J with heap:=J.heap.set l (.lV false sz xQ)} a (w.setRow b c'):=by
 have rQ:l<J.heap.length:=(aj.1 hl).1
 have oa:∀(k:Nat)(x:j6),(J.heap.set l (.lV false sz xQ))[k]? =some x->(k=l/\x=.lV false sz xQ)\/(k≠l/\J.heap[k]? =some x):=by
  grind
 have ass:∀b' o,(j6.lV false sz xQ).Bf (U l) b' o->(j6.lV false sz rows).Bf (U l) b' o:=by
  intro b' o hm;rw[hφ]at hm ⊢;exact⟨hm.1,fun h=>by cases h⟩
 have JD:∀b',(j6.lV false sz xQ).block (U l) b'->(j6.lV false sz rows).block (U l) b':=by
  intro b' hm;rw[hφ]at hm ⊢;exact hm
 have hmb:∀o,(j6.lV false sz rows).Bf (U l) b o:=by
  intro o;rw[hφ];exact⟨⟨rfl,Cm⟩,fun h=>by cases h⟩
 have hbb:(j6.lV false sz rows).block (U l) b:=by rw[hφ];exact⟨rfl,Cm⟩
 have Ph:∀b' o,G9 U (J.heap.set l (.lV false sz xQ)) b' o->G9 U J.heap b' o:=by
  rintro b' o ⟨k,x,hx,hm⟩;rcases oa k x hx with⟨e,rfl⟩|⟨_,hx⟩
  ·rw[e]at hm;exact⟨l,_,hl,ass b' o hm⟩
  ·exact⟨k,x,hx,hm⟩
 have aBL:∀k:Nat,mT (J.heap.set l (.lV false sz xQ))[k]? =mT J.heap[k]? :=by
  grind [mT]
 have le:(C.env U J.heap w).Le J.heap.length (C.env U (J.heap.set l (.lV false sz xQ)) (w.setRow b c')):=by
  refine qC.CR (by simp) (fun k _=>⟨rfl,aBL k⟩) (fun b' o u hm hc=>?_);have sB:b'≠b:=fun e=>hm (.inl (e ▸ ⟨l,_,hl,hmb o⟩))
  grind [cell_setRow_other]
 have BY:tf C U (J.heap.set l (.lV false sz xQ)) (w.setRow b c') J.df a.defers:=by
  refine S.defers.step le (fun b' _ hno=>?_) (fun k x b' hx hb=>?_)
  all_goals grind [setRow_other]
 refine {kf:=kQ.mono le _ _ (kQ.nb _ _ S.kf) S.kf,defers:=BY,oB:=?_,apart:=?_,uf:=?_,size:=by simpa using S.size,old:=?_,n9:=?_,Cl:=?_,xf:=?_,rest:=S.rest,low:=⟨S.low.1,by simpa using S.low.2⟩,mF:=?_}
 ·intro k x hx;rcases oa k x hx with⟨e,rfl⟩|⟨sB,hx⟩
  ·rw[e];refine⟨some ⟨b,off,none⟩,cap,by rw[hlen];exact hφ,by rw[hlen];exact hle,by simp,hsz,?_⟩;intro a0 ha _;simp only[ai]at ha;subst ha;exact⟨rfl,c',t,setRow_heap w b c c' t _ hh,aq8,kQ.mono le _ _ (kQ.nb _ _ hr) hr,h1⟩
  ·refine oP.mono (S.oB k x hx) le (fun b' sC=>?_);refine setRow_other w b b' c' (fun e=>?_);subst e;exact sB (S.apart k l x _ b' hx hl sC hbb)
 ·intro k k' x x' b' hx Ea hb sC;rcases oa k x hx with⟨e1,rfl⟩|⟨sB,hx1⟩<;>rcases oa k' x' Ea with⟨e2,rfl⟩|⟨axc,VV⟩
  ·rw[e1,e2]
  ·rw[e1]at hb ⊢;exact S.apart l k' _ x' b' hl VV (JD b' hb) sC
  ·rw[e2]at sC ⊢;exact S.apart k l x _ b' hx1 hl hb (JD b' sC)
  ·exact S.apart k k' x x' b' hx1 VV hb sC
 ·intro k x b' o hx hb;rcases oa k x hx with⟨e,rfl⟩|⟨sB,hx⟩
  ·rw[e]at hb;exact S.uf l _ b' o hl (JD b' hb)
  ·exact S.uf k x b' o hx hb
 ·intro b' o sC hm;by_cases e:b'=b
  ·subst e;exact absurd (S.Cl l _ b' o hl (hmb o) sC) hm
  ·rw[cell_setRow_other w b c' _ e];exact S.old b' o sC hm
 ·intro b' sC hm;by_cases e:b'=b
  ·subst e;exact absurd (S.Cl l _ b' 0 hl (hmb 0) sC) (hm 0)
  ·rw[setRow_other w b b' c' e];exact S.n9 b' sC hm
 ·intro k x b' o hx hm sC;rcases oa k x hx with⟨e,rfl⟩|⟨sB,hx⟩
  ·rw[e]at hm;exact S.Cl l _ b' o hl (ass b' o hm) sC
  ·exact S.Cl k x b' o hx hm sC
 ·intro x hx hm0;rw[<-S.xf x hx hm0];by_cases e:x.block=b
  ·simp only[World.frozen?];rw[e,setRow_heap w b c c' t _ hh,hh]
  grind [World.frozen?,setRow_other]
 ·intro k hk;have:=S.mF k hk
  grind
def aI6(S:nK C U J a w){i o sz:Nat}{r:List AV}(hl:J.heap[l]? =some (.lV false sz rows))(hn:rows.length=n)(hi:rows[i]? =some r)
 (rv:pz (C.env U J.heap w) (.own l i n o sz) v):∃b off cap c t,U l=.slice (some ⟨b,off,none⟩) rows.length cap/\cap≠0/\rows.length<=cap/\v=.pointer (some ⟨b,off+i*sz+o,none⟩)/\w.heap[b]? =some (.cells c t (0,0))/\
   off+cap*sz<=c.size/\(∀q∈rows,q.length=sz)/\kQ (C.env U J.heap w) rows.flatten ((c.toList.drop off).take (rows.length*sz))/\∀u∈(c.toList.drop off).take (rows.length*sz),u.oneCell'=true:=by
 obtain⟨_,_,h⟩:=rv;obtain⟨b,off,m,cp,hφ,hv⟩:=(h rows.length (by simp [qC.env,hl,mT])).2 hn.symm;obtain⟨base,cap,hh,h2,h3,h4,h5⟩:=S.oB l _ hl;simp only[qC.env]at hφ;rw[hh]at hφ;simp only[Value.slice.injEq]at hφ;obtain⟨hb,_,_⟩:=hφ;subst hb;have rQ:i<rows.length:=(aj.1 hi).1;have Cm:cap≠0:=by omega
 obtain⟨_,c,t,h6,h7,h8,h9⟩:=h5 _ rfl Cm;exact⟨b,off,cap,c,t,hh,Cm,h2,hv,h6,h7,h4,h8,h9⟩
theorem aiz{sz:Nat}:∀{rows:List (List AV)}{i:Nat}{r:List AV},(∀q∈rows,q.length=sz)->rows[i]? =some r->rows.flatten.drop (i*sz)=r++(rows.drop (i+1)).flatten
 |q::rows,0,r,_,h=>by simp at h;subst h;simp
 |q::rows,i+1,r,hl,h=>by
  simp at h;have hq:q.length=sz:=hl q (by simp);have:=aiz (fun p hp=>hl p (by simp [hp])) h
  grind [ay,List.drop_append,Nat.add_sub_cancel_left,bw]
theorem aI7(S:nK C U J a w){k i o sz:Nat}{r:List AV}(ht:mS C.P t=some (g,k))(hl:J.heap[l]? =some (.lV false sz rows))(hn:rows.length=n)
 (hi:rows[i]? =some r) (hx:kq g k (r.drop o)=some x) (rv:pz (C.env U J.heap w) (.own l i n o sz) v):∃u,(aK t v).run C.P w=.ok u w/\pz (C.env U J.heap w) x u:=by
 obtain⟨b,off,cap,c,t2,hφ,Cm,hle,rfl,hh,aq8,hsz,rl,_⟩:=aI6 S hl hn hi rv;have hrl:=rl.drop (i*sz);rw[aiz hsz hi]at hrl;have hr:=hrl.take r.length;rw[aY rfl]at hr;have hr2:=hr.drop o;have hi':=LG (C:=C) (w:=w) ht
 have hm:aBH (C.env U J.heap w) b (off+i*sz+o) (r.drop o):=by
  refine⟨_,hr2,fun j u hj=>?_⟩
  grind [qC.env,World.cell?]
 obtain⟨u,hu,ru⟩:=aeP (P:=C.P) (t:=t) hm hi'.1 hi'.2 hx
 grind [aK,au,qC.env]
theorem agz{sz:Nat}:∀{rows:List (List AV)}{i:Nat}{r q:List AV},(∀p∈rows,p.length=sz)->rows[i]? =some r->q.length=sz->
 (rows.set i q).flatten=rows.flatten.take (i*sz)++q++rows.flatten.drop (i*sz+sz)
 |p::rows,0,r,q,hl,h,hq=>by
  grind
 |p::rows,i+1,r,q,hl,h,hq=>by
  simp at h;have hp:p.length=sz:=hl p (by simp);have ih:=agz (q:=q) (fun p hp=>hl p (by simp [hp])) h hq;simp only[List.set_cons_succ,aB,ih]
  grind [ay,List.take_append,List.drop_append,bw]
def aNQ{L V:List W}{p k:Nat}(hV:V.length=k)(h:p+k<=n)(hL:off+n<=L.length):
 ((L.take (off+p)++V++L.drop (off+p+k)).drop off).take n=((L.drop off).take n).take p++V++((L.drop off).take n).drop (p+k):=by
 have e1:L.take (off+p)=L.take off++(L.drop off).take p:=by rw[bL]
 have e2:L.drop (off+p+k)=(L.drop off).drop (p+k):=by rw[aO,bJ]
 have hA:(L.take off).length=off:=by rw[bq];omega
 have hB:((L.drop off).take p).length=p:=by grind
 rw[e1,e2,aN,aN,aZ hA]
 grind [aU,List.take_append,List.take_of_length_le]
def aHp(S:nK C U J a w){i o k sz:Nat}{r ys:List AV}{p:aTq}(ht:mS C.P t=some (g,k))(hl:J.heap[l]? =some (.lV false sz rows))(hn:rows.length=n)
 (hi:rows[i]? =some r) (hr:kQ (C.env U J.heap w) ys v.cells.toList) (h1:∀u∈v.cells.toList,u.oneCell'=true) (hk:ys.length=k) (aRi:o+k<=sz) (hp:pz (C.env U J.heap w) (.own l i n o sz) p):
 ∃w',(bi t p v).run C.P w=.ok () w'/\nK C U {J with heap:=J.heap.set l (.lV false sz (rows.set i (vA r o ys)))} a w':=by
 obtain⟨b,off,cap,c,t2,hφ,Cm,hle,rfl,hh,aq8,hsz,rl,zz⟩:=aI6 S hl hn hi hp;have rQ:i<rows.length:=(aj.1 hi).1;have hrl:r.length=sz:=hsz r (bH hi);have hvl:v.cells.size=k:=by have:=hr.length;simp at this;omega
 have hmul:i*sz+sz<=rows.length*sz:=by
  have:(i+1)*sz<=rows.length*sz:=ar _ rQ
  grind
 have aSq:rows.length*sz<=cap*sz:=ar _ hle;have hst:=run_storeCells_at C.P b (off+i*sz+o) t2 v.cells.toList 0 c w hh (by simp;omega) h1
 have aNP:(vA r o ys).length=sz:=by
  grind [vA]
 have hfl:rows.flatten.length=rows.length*sz:=CT hsz
 have aPv:(rows.set i (vA r o ys)).flatten=rows.flatten.take (i*sz+o)++ys++rows.flatten.drop (i*sz+o+k):=by
  rw[agz hsz hi aNP];have hd:=aiz hsz hi
  have e1:rows.flatten.take (i*sz+o)=rows.flatten.take (i*sz)++r.take o:=by
   rw[bL,hd,List.take_append_of_le_length (by omega)]
  have e2:rows.flatten.drop (i*sz+o+k)=r.drop (o+k)++rows.flatten.drop (i*sz+sz):=by
   have e3:rows.flatten.drop (i*sz+sz)=(rows.drop (i+1)).flatten:=by
    rw[<-aO,hd,<-hrl,aZ];rfl
   rw[e3,bJ,<-aO,hd,be (by omega)]
  grind [vA]
 let c':Array aTq:=(c.toList.take (off+i*sz+o)++v.cells.toList++c.toList.drop (off+i*sz+o+v.cells.toList.length)).toArray
 have hc':c'.toList=c.toList.take (off+i*sz+o)++v.cells.toList++c.toList.drop (off+i*sz+o+k):=by
  grind
 have hcs:c'.size=c.size:=by
  grind
 have aRl:(c'.toList.drop off).take (rows.length*sz)=((c.toList.drop off).take (rows.length*sz)).take (i*sz+o)++v.cells.toList++((c.toList.drop off).take (rows.length*sz)).drop (i*sz+o+k):=by
  rw[hc'];have hcl:c.toList.length=c.size:=by simp
  have:=aNQ (L:=c.toList) (V:=v.cells.toList) (off:=off) (p:=i*sz+o) (k:=k) (n:=rows.length*sz) (by simpa using hvl) (by omega) (by omega)
  grind
 refine⟨_,?_,S.aI5 hl hφ Cm hle (by rw[List.length_set]) hh (c':=c') (hsz:=?_) (by rw[hcs];exact aq8) ?_ ?_⟩
 ·have hs:=(LG (C:=C) (w:=w) ht).2
  grind [bi,au,storeVar,ah,ae]
 ·grind
 ·rw[aPv,List.length_set,aRl];exact((rl.take _).append hr).append (rl.drop _)
 grind
theorem as4(_S:nK C U J a w){u:aTu}{i o:Nat}(h:oh C.P t i=some (o,u))(rx:pz (C.env U J.heap w) x v):
 (∀l off,x=.ptr l off->∃v',(aL t v i).run C.P w=.ok v' w/\pz (C.env U J.heap w) (.ptr l (off+o)) v')/\
 (∀cs,x=.pp cs->∃v',(aL t v i).run C.P w=.ok v' w/\pz (C.env U J.heap w) (.pp (cs.drop o)) v')/\
 (∀l j n o' sz,x=.own l j n o' sz->∃v',(aL t v i).run C.P w=.ok v' w/\pz (C.env U J.heap w) (.own l j n (o'+o) sz) v'):=by
 obtain⟨fs,f,j,hu,hf,hj,hs,rfl,rfl⟩:=aGy h;have hsz:(sizeOf f.type).run C.P w=.ok j.size w:=by simp [sizeOf,typeInfo,hj]
 have key:∀b off,(aL t (.pointer (some ⟨b,off,none⟩)) i).run C.P w=.ok (.pointer (some ⟨b,off+f.offset,none⟩)) w:=by
  simp_all [aL,run_underlying,au,fieldPlace,Aj]
 refine⟨?_,?_,?_⟩
 ·rintro l off rfl;obtain⟨hl,b,hb,rfl⟩:=rx;exact⟨_,key b off,hl,b,hb,rfl⟩
 ·rintro cs rfl;obtain⟨b,off,rfl,rm⟩:=rx;exact⟨_,key b off,b,_,rfl,rm.drop _⟩
 ·rintro l j n o' sz rfl;obtain⟨hl,⟨ad,rfl⟩,hr⟩:=rx
  have aRm:(aL t (.pointer (some ad)) i).run C.P w=.ok (.pointer (some (ad.add f.offset))) w:=by
   simp_all [aL,run_underlying,au,fieldPlace]
  refine⟨_,aRm,hl,⟨_,rfl⟩,fun k hk=>?_⟩
  grind
def aEr {o:Nat}{vs:Array aTq}(ha:(isAgg t).run P w= .ok g w)(hs:(sizeOf t).run P w= .ok n w)
 (r:kQ E cs vs.toList) (hl:kq g n (cs.drop o)=some x):∃v,(part t vs o).run P w=.ok v w/\pz E x v:=by
 unfold kq at hl;cases g with
 |true=>
  simp only at hl;split at hl
  ·cases hl;refine⟨.agg (vs.extract o (o+n)),by simp [part,ha,hs],_,rfl,?_⟩;have:=(r.drop o).take n
   simp_all
  ·cases hl
 |false=>
  cases hd:cs.drop o with
  |nil=>rw[hd]at hl;cases hl
  |cons c cs'=>
   rw[hd]at hl;injection hl with hl
   subst hl
   have h0:cs[o]? =some c:=by
    have:=congrArg (fun l:List AV=>l[0]?) hd;simpa using this
   obtain⟨v,hv,rv⟩:=r.get h0
   simp_all [part]
def amH {e:aTu}{sz bytes:Nat}{r:List AV}{n:Int}(ht:mq C.P t=some (e,sz,bytes))(hn:0<=n)
 (hr:rows[n.toNat]? =some r) (rx:pz (C.env U J.heap w) (.kJ tt sz rows) v):∃v',(aH t v (.int k n)).run C.P w=.ok v' w/\pz (C.env U J.heap w) (.pp r) v':=by
 obtain⟨hu,i,hi,rfl,rfl⟩:=MP ht;obtain⟨base,cap,rfl,h2,h3,h4,h5,h6⟩:=rx;have rQ:n.toNat<rows.length:=(aj.1 hr).1;have sB:rows≠[]:=by intro h;subst h;simp at rQ
 have hsz:(sizeOf e).run C.P w=.ok i.size w:=by simp [sizeOf,typeInfo,hi]
 cases base with
 |none=>have:=h4 rfl;omega
 |some b=>
  have hb:b=⟨b.block,b.off,none⟩:=by have:=h5 b rfl sB;cases b;simp_all
  obtain⟨_,hm⟩:=oo.get (h6 b rfl) hr;refine⟨.pointer (some ⟨b.block,b.off+n.toNat*i.size,none⟩),?_,b.block,_,rfl,hm⟩;have aNR:0<=n/\n<(rows.length:Int):=⟨hn,by omega⟩;simp only[aH,asIntOf,ah,ap,ae,run_underlying hu,aNR,and_self,jN,hsz];rw[hb,Aj]
def axf(S:nK C U J a w){e:aTu}{sz bytes m:Nat}{r:List AV}{n:Int}(ht:mq C.P t=some (e,sz,bytes))(hn:0<=n)
 (hl:J.heap[l]? =some (.lV true sz rows)) (hm:rows.length=m) (hr:rows[n.toNat]? =some r) (rx:pz (C.env U J.heap w) (.lV l m) v):
 ∃v',(aH t v (.int k n)).run C.P w=.ok v' w/\pz (C.env U J.heap w) (.pp r) v':=by
 have hv:=Q1 S hl hm rx;subst hv;exact amH (tt:=false) ht hn hr (aix S hl)
theorem ast(b:Addr)(h:b.spot=none)(k:Nat):b.add k=⟨b.block,b.off+k,none⟩:=by
 have hb:b=⟨b.block,b.off,none⟩:=by cases b;simp_all
 rw[hb,Aj]
def CU{n:Int}{y:Nat}{c:BoundsCode}(h:0<=n/\n<=y):(az (.int k n) y c).run P w=.ok n.toNat w:=by
 simp [az,asIntOf,h]
def LH(S:nK C U J a w){d:Nat}{x:Option aTp}{n:Int}(h:Ck J d x=some n):(x=none/\n=d)\/∃y k,x=some y/\a.eval y=.int k n:=by
 unfold Ck at h;cases x with
 |none=>grind
 |some y=>
  right;simp only at h;have r:=S.ev y;split at h
  ·rename_i k m hm;cases h;rw[hm]at r;exact⟨y,k,rfl,r⟩
  ·cases h
def agA(S:nK C U J a w){s:Bool}{len:Nat}{lo hi mx:Option aTp}{l h m:Int}(hl:Ck J 0 lo=some l)(hh:Ck J len hi=some h)(hm:Ck J len mx=some m)
 (hb:0<=l/\l<=h/\h<=m/\m<=len) (hc:len<=cap) (hmx:mx≠none->hi≠none):
 (aC s len cap (lo.map a.eval) (hi.map a.eval) (mx.map a.eval)).run C.P w=.ok (l.toNat,h.toNat,if mx=none then cap else m.toNat) w:=by
 have e0:(0:Int)<=h:=by omega
 rcases LH S hm with⟨rfl,rfl⟩|⟨ym,km,rfl,em⟩
 ·rcases LH S hh with⟨rfl,rfl⟩|⟨yh,kh,rfl,eh⟩
  ·rcases LH S hl with⟨rfl,rfl⟩|⟨yl,kl,rfl,el⟩
   ·simp [aC]
   ·have e3:∀c,(az (.int kl l) len c).run C.P w=.ok l.toNat w:=fun c=>CU (by omega)
    simp [aC,el,e3]
  ·have e1:∀c,(az (.int kh h) cap c).run C.P w=.ok h.toNat w:=fun c=>CU (by omega)
   rcases LH S hl with⟨rfl,rfl⟩|⟨yl,kl,rfl,el⟩
   ·simp [aC,eh,e1]
   ·have e3:∀c,(az (.int kl l) h.toNat c).run C.P w=.ok l.toNat w:=fun c=>CU (by omega)
    simp_all [aC]
 ·rcases LH S hh with⟨rfl,rfl⟩|⟨yh,kh,rfl,eh⟩
  ·grind
  ·have e1:∀c,(az (.int kh h) m.toNat c).run C.P w=.ok h.toNat w:=fun c=>CU (by omega)
   have e2:∀c,(az (.int km m) cap c).run C.P w=.ok m.toNat w:=fun c=>CU (by omega)
   rcases LH S hl with⟨rfl,rfl⟩|⟨yl,kl,rfl,el⟩
   ·simp_all [aC]
   ·have e3:∀c,(az (.int kl l) h.toNat c).run C.P w=.ok l.toNat w:=fun c=>CU (by omega)
    simp_all [aC]
theorem ayH(S:nK C U J a w){e:aTu}{sz aSH bytes:Nat}{lo hi mx:Option aTp}{l h m:Int}(ht:mq C.P t=some (e,sz,bytes))
 (hl:Ck J 0 lo=some l) (hh:Ck J rows.length hi=some h) (hm:Ck J rows.length mx=some m) (hsz:aSH=sz\/rows.length=0) (hb:0<=l/\l<=h/\h<=m/\m<=rows.length)
 (hmx:(mx.isSome&&hi.isNone)=false) (rx:pz (C.env U J.heap w) (.kJ tt aSH rows) v):
 ∃v',(aQ t v (lo.map a.eval) (hi.map a.eval) (mx.map a.eval)).run C.P w=.ok v' w/\
  pz (C.env U J.heap w) (.kJ (alq mx tt h rows.length m) sz ((rows.take h.toNat).drop l.toNat)) v':=by
 obtain⟨hu,i,hi',rfl,rfl⟩:=MP ht;obtain⟨base,cap,rfl,h2,h3,h4,h5,h6⟩:=rx;have ach:(sizeOf e).run C.P w=.ok i.size w:=by simp [sizeOf,typeInfo,hi']
 have hbs:=agA S (s:=true) (cap:=cap) hl hh hm hb h2 (by
  intro h1 h2
  simp_all)
 have hlen:((rows.take h.toNat).drop l.toNat).length=h.toNat-l.toNat:=by
  grind
 obtain⟨m',hm',hm1,hm2⟩:∃m',(if mx=none then cap else m.toNat)=m'/\(mx=none->m'=cap)/\(mx≠none->m'=m.toNat):=by
  grind
 have hm3:h.toNat<=m':=by
  grind
 rw[hm']at hbs;clear hm'
 have vI:(aQ t (.slice base rows.length cap) (lo.map a.eval) (hi.map a.eval) (mx.map a.eval)).run C.P w=
  .ok (.slice (if m'=l.toNat then base else base.map (·.add (l.toNat*i.size))) (h.toNat-l.toNat) (m'-l.toNat)) w:=by
  simp_all [aQ,run_underlying,Instr.slice]
 refine⟨_,vI,_,_,by rw[hlen],?_,?_,?_,?_,?_⟩
 ·rw[hlen];omega
 ·intro htt;rw[hlen];cases mx with
  |none=>
   grind [alq]
  |some y=>
   grind [alq]
 ·intro ayI;cases base with
  |none=>
   grind
  |some b=>
   grind
 ·intro b sC sB;cases base with
  |none=>split at sC<;>simp at sC
  |some b0=>
   have Pp:rows≠[]:=by intro h0;subst h0;simp at sB
   grind [ast]
 ·intro b sC;by_cases Pp:rows=[]
  ·subst Pp;simp [oo]
  ·have aRn:aSH=i.size:=by
    grind
   subst aRn;cases base with
   |none=>split at sC<;>simp at sC
   |some b0=>
    have hsp:=h5 b0 rfl Pp;have rr:=h6 b0 rfl;split at sC
    ·rename_i heq;have hlh:h.toNat<=l.toNat:=by omega
     have:(rows.take h.toNat).drop l.toNat=[]:=List.drop_eq_nil_of_le (by rw[bq];omega);rw[this];trivial
    grind [ast,oo.drop,oo.take]
theorem aHq(S:nK C U J a w){lo hi:Option aTp}{l h:Int}(ht:pq C.P t=true)(hl:Ck J 0 lo=some l)(hh:Ck J s.size hi=some h)(hb:0<=l/\l<=h/\h<=s.size):
 (aQ t (.string s) (lo.map a.eval) (hi.map a.eval) none).run C.P w=.ok (.string (s.extract l.toNat h.toNat)) w:=by
 have hu:C.P.underlying t=some .string:=by
  grind [pq]
 have hbs:=agA S (s:=false) (mx:=none) (cap:=s.size) (m:=s.size) hl hh rfl (by omega) (ax _) (by intro h;exact absurd rfl h);simp only[Option.map_none]at hbs;simp only[aQ,ah,run_underlying hu,ae,Instr.slice,Option.isSome_none,aF,if_false,hbs,ap]
end sound
section
variable {a:Act}
def azF(_S:nK C U J a w)(hl:J.heap[l]? =some (.alT s))(hn:s.size=n)(r:pz (C.env U J.heap w) (.lV l n) v):v=U l:=by
 obtain⟨_,_,h⟩:=r
 grind [qC.env,mT]
def arb {base e:Nat}(h:w.ownsRowF base e 1 v n xs):∃b cap,v=.slice b n cap:=by
 rcases h.2 with⟨rfl,rfl⟩|⟨g,cap,cur,fz,rfl,_⟩
 ·exact⟨_,_,rfl⟩
 ·exact⟨_,_,rfl⟩
def aEs(w:aTr)(t u ty e:aTu)(i:TypeInfo)(ht:P.underlying t=some (.slice e))(hu:P.underlying u=some .string)(hi:P.info? e=some i)(hz:i.zero=some (.int .u8 0))
 (ach:i.size=1) (hby:i.bytes=1) (v:aTq) (n:Nat) (xs:List aTq) (aiA:w.ownsRowF 0 e 1 v n xs) (s:ByteArray) (h63:n+s.size<=maxLen) (aI8:n+s.size<=140737488355328):
 ∃v' w',(ak #[t,u] ty #[v,.string s]).run P w=.ok v' w'/\w'.ownsRowF 0 e 1 v' (n+s.size) (xs++aI s)/\w.grownBy w' v.ownBlock/\(s.size=0->v'=v)/\
  (∀k,v'.ownBlock=some k->v.ownBlock=some k\/w.heap.size<=k)/\tyk w w':=by
 obtain⟨v1,w1,h1,h2,h3,h4⟩:=bj (P:=P) w 0 t u ty e i ht hu hi hz ach hby v n xs aiA s h63 aI8 (Nat.zero_le _);refine⟨v1,w1,h1,h2,h3,?_⟩;rcases aiA.2 with⟨rfl,rfl⟩|⟨g,cap,cur,fz,rfl,hbg,hg,hfz,hnc,hcm,hcs,ayJ⟩
 ·refine⟨fun h0=>h4.2 ⟨rfl,h0⟩,fun k hk=>.inr ?_,auE (fun b hb=>h3.block b hb (by simp [Value.ownBlock]))⟩;obtain⟨v2,w2,k1,k2,_⟩:=bj (P:=P) w w.heap.size t u ty e i ht hu hi hz ach hby (.slice none 0 0) 0 xs ⟨aiA.1,.inl ⟨rfl,rfl⟩⟩ s h63 aI8 (ax _);rw[h1]at k1;injection k1 with e1 e2
  subst e1 e2;exact(k2.lt k hk).1
 ·have aSu:cur.size=cap:=by simpa using hcs
  by_cases Au:n+s.size<=cap
  ·have hr:=Lib.run_append_room_stringF (P:=P) w t u ty e i ht hu hi ach g n cap cur fz hg (by simpa using hfz) s Au (by omega);rw[h1]at hr;injection hr with e1 e2
   subst e1 e2;exact⟨fun h0=>by rw[h0,bo],fun k hk=>.inl hk,aus _ _ _⟩
  ·have holds:∀j u,xs[j]? =some u->w.cell? ((⟨g,0,none⟩:Addr).add j)=some u:=aiA.cells (g:=g) rfl;have hxl:xs.length=n:=by simpa using aiA.1
   simp only[maxLen]at h63;have hr:=Lib.run_append_grow_string (P:=P) (ty:=ty) w t u e i (.int .u8 0) ht hu hi hz ⟨g,0,none⟩ n cap xs (by rw[ach];simpa using hxl) holds s (by omega) (by omega) (by rw[hby];exact growslice_fits (by omega) (by omega));rw[h1]at hr;injection hr with e1 e2
   subst e1 e2;refine⟨fun h0=>absurd Au (by omega),fun k hk=>.inr ?_,aoP _ rfl⟩;simp only[Value.ownBlock,ai]at hk;omega
def nK.aGz(S:nK C U J a w){s':ByteArray}(hl:J.heap[l]? =some (.alT s))(hys:s.size<s'.size\/(h'=U l/\s'.size=s.size))
 (aiA:w'.ownsRowF 0 MM 1 h' s'.size (aI s')) (hg:w.grownBy w' (U l).ownBlock) (FW:∀k,h'.ownBlock=some k->(U l).ownBlock=some k\/w.heap.size<=k) (hty:tyk w w'):
 nK C (fun k=>if k=l then h' else U k) {J with heap:=J.heap.set l (.alT s')} a w':=by
 have rQ:l<J.heap.length:=(aj.1 hl).1
 let U':Nat->aTq:=fun k=>if k=l then h' else U k
 have hφl:U' l=h':=by simp [U']
 have hφk:∀k,k≠l->U' k=U k:=fun k hk=>by simp [U',hk]
 have oa:∀(k:Nat)(x:j6),(J.heap.set l (.alT s'))[k]? =some x->(k=l/\x=.alT s')\/(k≠l/\J.heap[k]? =some x):=by
  grind
 have aPw:w.ownsRowF 0 MM 1 (U l) s.size (aI s):=S.oB l _ hl;obtain⟨b0,c0,hsl⟩:=arb aPw;have aRj:∀a,U l≠ .pointer a:=by intro a;rw[hsl];simp
 have aPr:hdl (U l)=none:=by rw[hsl];rfl
 have asP:∀b,b<w.heap.size-> ¬ (U l).ownBlock=some b->w'.heap[b]? =w.heap[b]? :=fun b hb hn=>hg.block b hb (fun e=>hn e.symm)
 have Ph:∀b o,G9 U' (J.heap.set l (.alT s')) b o->G9 U J.heap b o\/w.heap.size<=b:=by
  rintro b o ⟨k,x,hx,hm⟩;rcases oa k x hx with⟨rfl,rfl⟩|⟨sB,hx⟩
  ·rw[hφl]at hm;exact(FW b hm).imp (fun h=>⟨k,_,hl,h⟩) id
  ·rw[hφk k sB]at hm;exact .inl ⟨k,x,hx,hm⟩
 have le:(C.env U J.heap w).Le J.heap.length (C.env U' (J.heap.set l (.alT s')) w'):=by
  refine⟨by simp [qC.env],fun k hk=>?_,fun b o u hm hc=>?_,hty⟩
  ·grind [qC.env,mT]
  ·have hb:=GA hc;simp only[qC.env]at hb hm hc ⊢;refine⟨fun h=>?_,?_⟩
   ·grind
   ·rw[<-hc];simp only[World.cell?];rw[asP b hb (fun h=>hm (.inl ⟨l,_,hl,h⟩))]
 have BY:tf C U' (J.heap.set l (.alT s')) w' J.df a.defers:=by
  refine S.defers.step le (fun b hb hno=>asP b hb (hno l _ hl)) (fun k x b hx hb=>?_);rcases oa k x hx with⟨rfl,rfl⟩|⟨sB,hx⟩
  ·rw[hφl]at hb;exact(FW b hb).imp (fun h=>⟨k,_,hl,h⟩) id
  ·rw[hφk k sB]at hb;exact .inl ⟨k,x,hx,hb⟩
 refine {kf:=kQ.mono le _ _ (kQ.nb _ _ S.kf) S.kf,defers:=BY,oB:=?_,apart:=?_,uf:=?_,size:=bp S.size hg.size,old:=?_,n9:=?_,Cl:=?_,xf:=?_,rest:=⟨by rw[hg.output];exact S.rest.1,by rw[hg.os];exact S.rest.2⟩,low:=⟨S.low.1,by simpa using S.low.2⟩,mF:=?_}
 ·intro k x hx;rcases oa k x hx with⟨rfl,rfl⟩|⟨sB,hx⟩
  ·show oP _ (.alT s') (U' k);rw[hφl];exact aiA
  ·have r0:=S.oB k x hx;show oP _ x (U' k);rw[hφk k sB];refine oP.mono r0 le (fun b hb=>asP b (r0.qQ hb) (fun h=>?_));exact sB (S.apart k l x _ b hx hl hb h)
 ·intro k k' x x' b hx Ea hb sC;have hb:x.block (U' k) b:=hb;have sC:x'.block (U' k') b:=sC;rcases oa k x hx with⟨rfl,rfl⟩|⟨sB,hx1⟩<;>rcases oa k' x' Ea with⟨rfl,rfl⟩|⟨axc,VV⟩
  ·rfl
  ·rw[hφl]at hb;rw[hφk k' axc]at sC;rcases FW b hb with h|h
   ·exact S.apart k k' _ x' b hl VV h sC
   ·have:=(S.oB k' x' VV).qQ sC;simp only[qC.env]at this;omega
  ·rw[hφl]at sC;rw[hφk k sB]at hb;rcases FW b sC with h|h
   ·exact S.apart k k' x _ b hx1 hl hb h
   ·have:=(S.oB k x hx1).qQ hb;simp only[qC.env]at this;omega
  ·rw[hφk k sB]at hb;rw[hφk k' axc]at sC;exact S.apart k k' x x' b hx1 VV hb sC
 ·intro k x b o hx hb;have hb:x.block (U' k) b:=hb;rcases oa k x hx with⟨rfl,rfl⟩|⟨sB,hx1⟩
  ·rw[hφl]at hb;rcases FW b hb with h|h
   ·exact S.uf k _ b o hl h
   ·intro hA;have:=C.hA _ _ hA;have:=S.size;omega
  ·rw[hφk k sB]at hb;exact S.uf k x b o hx1 hb
 ·intro b o hb hm;have:=asP b (aa hb S.size) (fun h=>hm (S.Cl l _ b o hl h hb));rw[<-S.old b o hb hm];simp only[World.cell?,this]
 ·intro b hb hm;rw[asP b (aa hb S.size) (fun h=>hm 0 (S.Cl l _ b 0 hl h hb))];exact S.n9 b hb hm
 ·intro k x b o hx hm hb;have hm:x.Bf (U' k) b o:=hm;rcases oa k x hx with⟨rfl,rfl⟩|⟨sB,hx1⟩
  ·rw[hφl]at hm;rcases FW b hm with h|h
   ·exact S.Cl k _ b o hl h hb
   ·have:=S.size;omega
  ·rw[hφk k sB]at hm;exact S.Cl k x b o hx1 hm hb
 ·intro x hx hm0;rw[<-S.xf x hx hm0];have:=asP x.block (aa hx S.size) (fun h=>hm0 0 (S.Cl l _ _ 0 hl h hx));simp only[World.frozen?,this]
 ·intro k hk;have:=S.mF k hk
  grind [mT]
def nK.aPx(S:nK C U J a w):nK C (fun k=>if k=J.heap.length then .slice none 0 0 else U k) {J with heap:=J.heap++[.alT aq]} a w/\
 (C.env U J.heap w).Le J.heap.length (C.env (fun k=>if k=J.heap.length then .slice none 0 0 else U k) (J.heap++[.alT aq]) w):=by
 let U':Nat->aTq:=fun k=>if k=J.heap.length then .slice none 0 0 else U k
 have hφ:∀l,l<J.heap.length->U' l=U l:=fun l hl=>by grind
 have hn:U' J.heap.length=.slice none 0 0:=by simp [U']
 have oa:∀(l:Nat)(x:j6),(J.heap++[.alT aq])[l]? =some x->(l<J.heap.length/\J.heap[l]? =some x)\/(l=J.heap.length/\x=.alT aq):=by
  grind
 have hno:∀b,¬ (j6.alT aq).block (.slice none 0 0) b:=by
  intro b h;cases h
 have Ph:∀b o,G9 U' (J.heap++[.alT aq]) b o->G9 U J.heap b o:=by
  rintro b o ⟨l,x,hx,hm⟩;rcases oa l x hx with⟨hl,hx⟩|⟨rfl,rfl⟩
  ·rw[hφ l hl]at hm;exact⟨l,x,hx,hm⟩
  ·rw[hn]at hm;exact absurd (j6.ou hm) (hno b)
 have le:(C.env U J.heap w).Le J.heap.length (C.env U' (J.heap++[.alT aq]) w):=by
  refine qC.CR (by simp) (fun l hl=>⟨hφ l hl,by rw[av hl]⟩) (fun b i u hm hc=>⟨fun h=>hm (h.imp (Ph b i) id),hc⟩)
 have JD:∀(l:Nat)(x:j6)(b:Nat),(J.heap++[.alT aq])[l]? =some x->x.block (U' l) b->l<J.heap.length/\J.heap[l]? =some x/\x.block (U l) b:=by
  intro l x b hx hb;rcases oa l x hx with⟨hl,hx⟩|⟨rfl,rfl⟩
  ·rw[hφ l hl]at hb;exact⟨hl,hx,hb⟩
  ·rw[hn]at hb;exact absurd hb (hno b)
 have BY:tf C U' (J.heap++[.alT aq]) w J.df a.defers:=by
  refine S.defers.step le (fun b hb _=>rfl) (fun l x b hx hb=>?_);obtain⟨_,h2,h3⟩:=JD l x b hx hb;exact .inl ⟨l,x,h2,h3⟩
 refine⟨?_,le⟩;refine {kf:=kQ.mono le _ _ (kQ.nb _ _ S.kf) S.kf,defers:=BY,oB:=?_,apart:=?_,uf:=?_,size:=S.size,old:=S.old,n9:=S.n9,Cl:=?_,xf:=S.xf,rest:=S.rest,low:=⟨S.low.1,by have:=S.low.2;simp;omega⟩,mF:=?_}
 ·intro l x hx;show oP _ x (U' l);rcases oa l x hx with⟨hl,hx⟩|⟨rfl,rfl⟩
  ·rw[hφ l hl];exact oP.mono (S.oB l x hx) le (fun _ _=>rfl)
  ·rw[hn];exact World.ownsRowF_nil w 0 MM 1
 ·intro l l' x x' b hx Ea hb sC;obtain⟨_,h2,h3⟩:=JD l x b hx hb;obtain⟨_,h2',h3'⟩:=JD l' x' b Ea sC;exact S.apart l l' x x' b h2 h2' h3 h3'
 ·intro l x b o hx hb;obtain⟨_,h2,h3⟩:=JD l x b hx hb;exact S.uf l x b o h2 h3
 ·intro l x b o hx hm hb;obtain⟨h1,h2,_⟩:=JD l x b hx (j6.ou hm);have hm:x.Bf (U' l) b o:=hm;rw[hφ l h1]at hm;exact S.Cl l x b o h2 hm hb
 ·intro l hl;have rQ:l<J.heap.length:=by have:=S.low;omega
  have:=S.mF l hl
  grind
theorem as5(s u:ByteArray):aI (s++u)=aI s++aI u:=by
 simp [aI]
def axg(S:nK C U J a w){u e:aTu}{sz bytes:Nat}(ht:mq C.P t=some (e,sz,bytes))(hc:azB C.P=true/\pq C.P u=true)
 (h:alr J e x s=some ef) (hp:ef.pre) (rx:pz (C.env U J.heap w) x vx):
 ∃v w' U',(ak #[t,u] ty #[vx,.string s]).run C.P w=.ok v w'/\nK C U' (J.app dst ef) (a.put dst v) w':=by
 obtain⟨hut,i,hi,rfl,rfl⟩:=MP ht;unfold alr at h;split at h
 ·rename_i l n;split at h
  ·rename_i s0 hl;split at h
   ·rename_i hcn;obtain⟨hn,he⟩:=hcn;subst he;cases h;have hv:=azF S hl hn rx;subst hv;have hb:=hc.1;unfold azB at hb;rw[hi]at hb;simp only[aP,jM]at hb;obtain⟨⟨hz,hs1⟩,hb1⟩:=hb
    have aPy:i.zero=some (.int .u8 0):=by
     revert hz;split
     ·intro _;assumption
     ·intro h;cases h
    have hus:C.P.underlying u=some .string:=by have:=hc.2;grind [pq]
    have hp:(s0.size+s.size)*1<=2 ^ 44:=hp;have hp':s0.size+s.size<=17592186044416:=by omega
    obtain⟨v',w',h1,h2,h3,h4,h5,h6⟩:=aEs (P:=C.P) w t u ty MM i hut hus hi aPy hs1 hb1 (U l) s0.size _ (S.oB l _ hl) s (by simp only[maxLen];omega) (by omega);have hsz:(s0++s).size=s0.size+s.size:=by simp
    have rQ:l<J.heap.length:=(aj.1 hl).1
    have S2:=S.aGz (s':=s0++s) (w':=w') (h':=v') hl (by
     rw[hsz];rcases Nat.eq_zero_or_pos s.size with h0|h0
     ·exact .inr ⟨h4 h0,by omega⟩
     ·exact .inl (by omega)) (by rw[hsz,as5];exact h2) h3 h5 h6
    refine⟨v',w',(fun k=>if k=l then v' else U k),h1,?_⟩
    have:=S2.put dst (x:=.lV l (s0.size+s.size)) (v:=v') ⟨by simpa [qC.env] using rQ,by
     obtain⟨b,c,e⟩:=arb h2;exact⟨_,_,_,e⟩,fun k hk=>by
     grind [qC.env,mT]⟩
    rw[aq9];exact this
   ·cases h
  ·cases h
 ·cases h
end
section sound
variable {a:Act}
def aBM {oy:aTp}{r:AV}{vy:aTq}(h:ayy op x y=some r)(rx:pz E x vx)(ry:pz E y vy):
 ∃v,(do eqGuard op t ox oy vx vy;binOp op t vx vy:Sem aTq).run C.P w=.ok v w/\pz E r v:=by
 unfold ayy at h;split at h
 ·rename_i k m k' n;simp only[pz]at rx ry;subst rx ry;split at h
  ·cases h
  ·rename_i hk;have YG:k=k':=by simpa using hk
   subst YG
   have hg:(eqGuard op t ox oy (.int k m) (.int k n)).run C.P w=.ok () w:=by
    unfold eqGuard;split<;>rfl
   cases op with
   |quo=>
    simp only at h;split at h
    ·cases h
    ·rename_i hz;cases h;exact⟨_,by simp [hg,binOp,Op.intDiv,hz],rfl⟩
   |rem=>
    simp only at h;split at h
    ·cases h
    ·rename_i hz;cases h;exact⟨_,by simp [hg,binOp,Op.intDiv,hz],rfl⟩
   |and=>cases h;exact⟨_,by simp only[ah,hg,ae,binOp];rw[if_neg hk];rfl,rfl⟩
   |or=>cases h;exact⟨_,by simp only[ah,hg,ae,binOp];rw[if_neg hk];rfl,rfl⟩
   |xor=>cases h;exact⟨_,by simp only[ah,hg,ae,binOp];rw[if_neg hk];rfl,rfl⟩
   |andNot=>cases h;exact⟨_,by simp only[ah,hg,ae,binOp];rw[if_neg hk];rfl,rfl⟩
   |_=>simp at h<;>subst h<;>refine⟨_,?_,rfl⟩<;>simp [hg,binOp,Op.intArith,Op.intCmp]
 ·rename_i s u;simp only[pz]at rx ry;subst rx ry
  have hg:(eqGuard op t ox oy (.string s) (.string u)).run C.P w=.ok () w:=by
   unfold eqGuard;split<;>rfl
  cases op with
  |add=>
   simp only at h;split at h
   ·rename_i hz;cases h
    have hz': ¬ ((s.size+u.size:Nat):Int)>IntKind.i64.max:=by
     have:IntKind.i64.max=9223372036854775807:=by decide
     rw[this];omega
    exact⟨_,by simp_all [binOp,Op.stringOp],rfl⟩
   ·cases h
  |_=>simp at h<;>subst h<;>refine⟨_,?_,rfl⟩<;>simp [hg,binOp,Op.stringOp]
 ·cases h
def ayK(h:tbl P t=true):P.underlying t=some .bool:=by
 grind [tbl]
def ayL {oy:aTp}{p q:Bool}:(eqGuard op t ox oy (.bool p) (.bool q)).run P w=.ok () w:=by
 unfold eqGuard;split<;>rfl
def aNS{p q:Bool}(h:tbl P t=true):(binOp .eql t (.bool p) (.bool q)).run P w=.ok (.bool (p==q)) w:=by
 simp_all [run_equal_bool,ayK,binOp]
def aNT{p q:Bool}(h:tbl P t=true):(binOp .neq t (.bool p) (.bool q)).run P w=.ok (.bool (!(p==q))) w:=by
 simp_all [run_equal_bool,ayK,binOp]
def aHr(S:nK C U J a w){o:Obj}(ho:∀c t lo hi,o=.cells c t (lo,hi)->lo=0/\hi=0)
 (hr:r=.ok (.value v) (World.more w o)) (rep:pz (C.env U J.heap (World.more w o)) x v):Ai C J a w dst r {val:=x,rd,pre:=p}:=by
 refine⟨.value v,v,_,U,hr,.inl rfl,?_⟩;rw[MQ];exact(S.more o ho).put dst rep
def ayM(S:nK C U J a w)(hr:r=.ok (.value (.pointer (some ⟨w.heap.size,0,none⟩))) (World.more w (.cells c t)))
 (rep:kQ (C.env U J.heap w) cs c.toList) (h1:∀u∈c.toList,u.oneCell'=true):Ai C J a w dst r {val:=.ptr J.heap.length 0,rd,nw:=[.cells cs],pre:=p}:=by
 obtain⟨S',le⟩:=S.name c t rep h1;refine⟨_,_,_,(fun l=>if l=J.heap.length then .pointer (some ⟨w.heap.size,0,none⟩)else U l),hr,.inl rfl,?_⟩;rw[ara];exact S'.put dst ⟨by simp [qC.env],w.heap.size,by simp [qC.env],rfl⟩
theorem aLn(J:jT)(dst:Option Tmp)(x:AV)(o p:j6):J.app dst {val:=x,nw:=[o,p]}=jT.put {J with heap:=(J.heap++[o])++[p]} dst x:=by
 cases dst<;>simp [jT.app,nu,jT.put]
def auO(S:nK C U J a w)(hr:r= .ok (.value (.pointer (some ⟨w.heap.size,0,none⟩))) (World.more w (.cells c t)))
 (aNU:kQ (C.env U J.heap w) cs c.toList) (h1:∀u∈c.toList,u.oneCell'=true):Ai C J a w dst r (MO t J.heap.length cs):=by
 unfold MO;cases hb:aoO t with
 |false=>exact ayM S hr aNU h1
 |true=>
  rw[jF];split
  ·rename_i rs;obtain⟨v0,q,hc,e0,v1,vs,rfl,e1,e2⟩:=aNU;simp only[pz]at e0 e1;obtain⟨S1,le1⟩:=S.aPx
   obtain⟨S',le⟩:=S1.aNu (cs:=.sn t (J.heap.length+1)::.lV J.heap.length 0::rs) c t (fun le=>by
    rw[hc];refine⟨v0,v1::vs,rfl,⟨by simp [qC.env],w.heap.size,by simp [qC.env],.inl e0,c,(0,0),ay4 w _⟩,v1,vs,rfl,⟨by simp [qC.env],⟨none,0,0,e1⟩,fun k hk=>?_⟩,?_⟩
    ·have hk:k=0:=by
      simp [qC.env,mT]at hk;rw[<-hk]
     exact⟨by omega,fun _=>by rw[e1];simp [qC.env]⟩
    ·have r1:=kQ.mono le1 _ _ (kQ.nb _ _ e2) e2;exact kQ.mono le _ _ (kQ.nb _ _ r1) r1) h1
   refine⟨_,_,_,(fun l=>if l=(J.heap++[j6.alT aq]).length then .pointer (some ⟨w.heap.size,0,none⟩)else if l=J.heap.length then .slice none 0 0 else U l),hr,.inl rfl,?_⟩;rw[aLn];refine S'.put dst ⟨by simp [qC.env],w.heap.size,by simp [qC.env],rfl⟩
  ·exact ayM S hr aNU h1
def alu(h:pq P t=true):P.underlying t=some .string:=by
 grind [pq]
def azG(h:auH P t=some k):P.underlying t=some (.int k):=by
 grind [auH]
def auP(h:(mq P t).isSome=true):∃e,P.underlying t=some (.slice e):=by
 obtain⟨⟨e,sz,b⟩,hx⟩:=Option.isSome_iff_exists.1 h;exact⟨e,(MP hx).1⟩
def aHs(S:nK C U J a w)(h:ayA C.P J t x=some ef)(rx:pz (C.env U J.heap w) x v):
 ∃y rd,ef={val:=y,rd}/\∃u,(bb #[t] ty #[v]).run C.P w=.ok u w/\pz (C.env U J.heap w) y u:=by
 unfold ayA at h;split at h
 ·split at h
  ·rename_i ht;cases h;simp only[pz]at rx;subst rx;exact⟨_,_,rfl,_,by simp [bb,run_underlying (alu ht)];rfl,rfl⟩
  ·cases h
 ·split at h
  ·rename_i ht;obtain⟨e,hu⟩:=auP ht;cases h;obtain⟨b,cap,rfl,_⟩:=rx;exact⟨_,_,rfl,_,by simp [bb,run_underlying hu];rfl,rfl⟩
  ·cases h
 ·split at h
  ·rename_i ht;obtain⟨e,hu⟩:=auP ht;split at h
   ·rename_i hl;split at h
    ·rename_i hn;cases h;have hv:=Q1 S hl hn rx;subst hv;obtain⟨b,cap,hh,_⟩:=S.oB _ _ hl;refine⟨_,_,rfl,.int .i64 _,?_,rfl⟩;rw[hh,<-hn];simp [bb,run_underlying hu];rfl
    ·cases h
   ·rename_i hl;split at h
    ·rename_i hn;cases h;have hv:=azF S hl hn rx;subst hv;obtain⟨b,cap,hh⟩:=arb (S.oB _ _ hl);refine⟨_,_,rfl,.int .i64 _,?_,rfl⟩;rw[hh,<-hn];simp [bb,run_underlying hu];rfl
    ·cases h
   ·cases h
  ·cases h
 ·cases h
theorem as6(S:nK C U J a w){e:aTu}{sz bytes:Nat}{n:Int}(ht:mq C.P t=some (e,sz,bytes))(hz:mI C.P e=some z)
 (hc:z.length=sz/\0<sz/\0<=n) (Au:room n.toNat bytes/\n<2 ^ 62):
 Ai C J a w dst ((do pure (.value (<-bc t (.int .i64 n) (.int .i64 n))):Sem Next).run C.P w)
  {val:=.lV J.heap.length n.toNat,rd,nw:=[.lV false sz (am n.toNat z)],pre:=p}:=by
 obtain⟨hu,i,hi,rfl,rfl⟩:=MP ht;obtain⟨zv,hzr,aIY,aPq⟩:=aq6 (w:=w) hz;have hzl:zv.cells.size=i.size:=by have:=(aIY (C.env U J.heap w)).length;simp at this;omega
 have aNv:IntKind.i64.wrap n=n:=by
  grind [IntKind.wrap,IntKind.bits]
 have hti:(typeInfo e).run C.P w=.ok i w:=by simp [typeInfo,hi]
 have hsz:(sizeOf e).run C.P w=.ok i.size w:=by simp [sizeOf,typeInfo,hi]
 have hb:(i.bytes:Int)*n<=2 ^ 44:=by
  grind [room]
 have uu:kQ (C.env U J.heap w) (am n.toNat z).flatten ((bh (n.toNat*i.size)).map (fun j=>(if n.toNat*i.size=0 then(#[]:Array aTq)else zv.cells)[j % (if n.toNat*i.size=0 then(#[]:Array aTq)else zv.cells).size]!)).toList:=by
  grind [aoU,Em]
 have zz:∀u∈((bh (n.toNat*i.size)).map (fun j=>(if n.toNat*i.size=0 then(#[]:Array aTq)else zv.cells)[j % (if n.toNat*i.size=0 then(#[]:Array aTq)else zv.cells).size]!)).toList,u.oneCell'=true:=by
  grind [aoU,List.mem_flatten]
 generalize arc:(bh (n.toNat*i.size)).map (fun j=>(if n.toNat*i.size=0 then(#[]:Array aTq)else zv.cells)[j % (if n.toNat*i.size=0 then(#[]:Array aTq)else zv.cells).size]!)=c at uu zz
 have hzs:∀r∈am n.toNat z,r.length=i.size:=by
  grind
 have aRo:c.size=n.toNat*i.size:=by
  grind
 have ayJ:(c.toList.drop 0).take (n.toNat*i.size)=c.toList:=by
  grind [bf]
 have S':=S.aeR (tZ:=false) (sz:=i.size) (rows:=am n.toNat z) (w':=World.more w (.cells c e)) (h':=.slice (some ⟨w.heap.size,0,none⟩) n.toNat n.toNat) (by simp) (fun b hb=>zg w _ hb)
  (xh w _ (by grind)) ⟨rfl,rfl⟩ (by
    rintro b ⟨rfl,_⟩;exact ax _) (by
    intro E' le hw;refine⟨some ⟨w.heap.size,0,none⟩,n.toNat,by rw[bF],by grind,by simp,hzs,?_⟩;intro a0 ha _;simp only[ai]at ha;subst ha;refine⟨rfl,c,e,by rw[hw];exact ay4 w _,by rw[aRo];simp,?_,?_⟩
    ·rw[bF,ayJ];exact kQ.mono le _ _ (kQ.nb _ _ uu) uu
    grind)
 have S2:=S'.put dst (x:=.lV J.heap.length n.toNat) (v:=.slice (some ⟨w.heap.size,0,none⟩) n.toNat n.toNat) ⟨by simp [qC.env],⟨_,_,_,rfl⟩,fun k hk=>by
  grind [qC.env,mT]⟩
 have vI:((do pure (.value (<-bc t (.int .i64 n) (.int .i64 n))):Sem Next).run C.P w)=.ok (.value (.slice (some ⟨w.heap.size,0,none⟩) n.toNat n.toNat)) (World.more w (.cells c e)):=by
  have h1: ¬ (((n<0\/(i.bytes:Int)*n>2 ^ 48)\/n<0)\/n>n):=by omega
  by_cases h0:n.toNat*i.size=0
  ·simp only[h0,jN]at arc;simp only[bc,ah,run_underlying hu,ae,asInt,asIntOf,ap,hti,aNv,jL,Bool.or_eq_true,h1,if_false,run_askRoom,hsz,h0,jN,newRow,run_newObj];rw[arc];rfl
  ·simp only[h0,if_false]at arc;simp only[bc,ah,run_underlying hu,ae,asInt,asIntOf,ap,hti,aNv,jL,Bool.or_eq_true,h1,if_false,run_askRoom,hsz,h0,hzr,newRow,run_newObj];rw[arc];rfl
 rw[<-ara J dst _ rd _ p]at S2;exact⟨_,_,_,_,vI,.inl rfl,S2⟩
theorem aoW(S:nK C U J a w){e:aTu}{len sz bytes:Nat}{tZ:Bool}(ht:mq C.P t=some (e,sz,bytes))
 (hz:mI C.P e=some z) (hl:z.length=sz/\len*sz<=16777216) (hf:aeN sz (am len z) (parts.toList.map fun p=>(p.1,J.ev p.2))=some rows):
 Ai C J a w dst ((do pure (.value (<-aJ t len (parts.map fun(i,x)=>(i,a.eval x)))):Sem Next).run C.P w)
  {val:=.lV J.heap.length rows.length,nw:=[.lV tZ sz rows]}:=by
 obtain⟨us,vI,hr,zz,hlen,h3,aIX⟩:=aiv S ht hz hl hf;have hsz:us.size=len*sz:=by simpa using aIX
 have ayJ:(us.toList.drop 0).take (rows.length*sz)=us.toList:=by
  grind
 have S':=S.aeR (tZ:=tZ) (sz:=sz) (rows:=rows) (w':=World.more w (.cells us e)) (h':=.slice (some ⟨w.heap.size,0,none⟩) len len) (by simp) (fun b hb=>zg w _ hb)
  (xh w _ (by grind)) ⟨rfl,rfl⟩ (by
    rintro b ⟨rfl,_⟩;exact ax _) (by
    intro E' le hw;refine⟨some ⟨w.heap.size,0,none⟩,len,by rw[hlen],by omega,by simp,h3,?_⟩;intro a0 ha _;simp only[ai]at ha;subst ha;refine⟨rfl,us,e,by rw[hw];exact ay4 w _,by rw[hsz];simp,?_,?_⟩
    ·rw[ayJ];exact kQ.mono le _ _ (kQ.nb _ _ hr) hr
    ·rw[ayJ];exact zz)
 have S2:=S'.put dst (x:=.lV J.heap.length rows.length) (v:=.slice (some ⟨w.heap.size,0,none⟩) len len) ⟨by simp [qC.env],⟨_,_,_,rfl⟩,fun k hk=>by
  grind [qC.env,mT]⟩
 have aPz:((do pure (.value (<-aJ t len (parts.map fun(i,x)=>(i,a.eval x)))):Sem Next).run C.P w)=.ok (.value (.slice (some ⟨w.heap.size,0,none⟩) len len)) (World.more w (.cells us e)):=by
  simp_all
 rw[<-ara J dst _ [] _ True]at S2;exact⟨_,_,_,_,aPz,.inl rfl,S2⟩
def Ai.of_eq {r':Result Next}{e:wq}(h:r=r')(d:Ai C J a w dst r' e):Ai C J a w dst r e:=h ▸ d
def aLo{f:W->O}{l:List W}{x:O}(h:l.map f=[x]):∃y,l=[y]/\f y=x:=by
 simp_all
def azH{f:W->O}{l:List W}{x x':O}(h:l.map f=[x,x']):∃y y',l=[y,y']/\f y=x/\f y'=x':=by
 cases l with
 |nil=>simp at h
 |cons y l=>cases l with
  |nil=>simp at h
  |cons z l=>cases l with
   |nil=>grind
   |cons _ _=>simp at h
def axh(S:nK C U J a w){b:Builtin}{args:Array aTp}{ts:Array aTu}{e:wq}(ho:o.op= .call {callee:= .builtin b,args,argTypes:=ts})
 (h:Qo C.P J b args.toList ts.toList (args.toList.map J.ev)=some e) (hp:e.pre):Ai C J a w o.dst ((execOp a.eval o).run C.P w) e:=by
 obtain⟨ts,rfl⟩:∃l:List aTu,ts=l.toArray:=⟨ts.toList,by simp⟩;obtain⟨args,rfl⟩:∃l:List aTp,args=l.toArray:=⟨args.toList,by simp⟩;simp only at h
 have vI:(execOp a.eval o).run C.P w=(builtin b ts.toArray o.type (args.toArray.map fun|.const _=>true|_=>false) (args.toArray.map a.eval)).run C.P w:=by
  grind [execOp,resolve,invoke]
 refine Ai.of_eq vI ?_;unfold Qo at h;split at h
 ·rename_i t x hx;obtain⟨ox,rfl,rfl⟩:=aLo hx;obtain⟨y,rd,rfl,hv⟩:=aHs (ty:=o.type) S h (S.ev ox)
  grind [lP,builtin]
 ·rename_i t u x y hx;obtain⟨ox,oy,rfl,rfl,rfl⟩:=azH hx;split at h
  ·rename_i et sz bytes ht hu;split at h
   ·rename_i z hz;split at h
    ·rename_i hc;by_cases hy:∃s0,J.ev oy=.str s0
     ·obtain⟨s0,hu'⟩:=hy;rw[hu']at h;simp only[WA]at h;split at h
      ·have hv:=S.ev oy;rw[hu']at hv;have hv:a.eval oy=.string s0:=hv;obtain⟨v,w',U',hr,hS⟩:=axg (u:=u) (dst:=o.dst) (ty:=o.type) S ht (by assumption) h hp (S.ev ox);refine⟨.value v,v,w',U',?_,.inl rfl,hS⟩;simp [builtin,hr,hv]
      ·cases h
     rw[asn hy]at h;obtain⟨v,w',U',hr,hS⟩:=azE (dst:=o.dst) (ty:=o.type) S ht hu hz hc h hp (S.ev ox) (S.ev oy);refine⟨.value v,v,w',U',?_,.inl rfl,hS⟩;simp [builtin,hr]
    ·cases h
   ·cases h
  ·cases h
 ·rename_i t u k m k' n hx;obtain⟨ox,oy,rfl,hx1,VV⟩:=azH hx;have r1:=S.ev ox;have r2:=S.ev oy;rw[hx1]at r1;rw[VV]at r2;simp only[pz]at r1 r2;cases h;refine Ai.of_eq ?_ (lP (rd:=[]) (p:=True) (m:=pure (.int k (if n>m then n else m))) S ⟨_,rfl,rfl⟩);simp [builtin,Builtin.max_,r1,r2,Builtin.max2]
 ·rename_i t u k m k' n hx;obtain⟨ox,oy,rfl,hx1,VV⟩:=azH hx;have r1:=S.ev ox;have r2:=S.ev oy;rw[hx1]at r1;rw[VV]at r2;simp only[pz]at r1 r2;cases h;refine Ai.of_eq ?_ (lP (rd:=[]) (p:=True) (m:=pure (.int k (if n<m then n else m))) S ⟨_,rfl,rfl⟩);simp [builtin,Builtin.min_,r1,r2,Builtin.min2]
 ·cases h
theorem Rn(S:nK C U J a w):∀xs:List aTp,kQ (C.env U J.heap w) (xs.map J.ev) (xs.map a.eval)
 |[]=>rfl
 |x::xs=>⟨_,_,rfl,S.ev x,Rn S xs⟩
end sound
open Go.MapKept
section
variable {a:Act}
def nK.aLp(S:nK C U J a w):
 nK C (fun l=>if l=J.heap.length then .map (some w.heap.size)else U l) {J with heap:=J.heap++[.map []]} a (World.more w (.map #[] 0)):=by
 let U':Nat->aTq:=fun l=>if l=J.heap.length then .map (some w.heap.size)else U l
 let w':=World.more w (.map #[] 0)
 have hφ:∀l,l<J.heap.length->U' l=U l:=fun l hl=>by grind
 have hφn:U' J.heap.length=.map (some w.heap.size):=by simp [U']
 have hsz:w'.heap.size=w.heap.size+1:=Wu _ _;have hold:∀b,b<w.heap.size->w'.heap[b]? =w.heap[b]? :=fun b hb=>zg _ _ hb
 have hL:w'.heap[w.heap.size]? =some (.map #[] 0):=ay4 _ _
 have oa:∀(l:Nat)(x:j6),(J.heap++[.map []])[l]? =some x->(l<J.heap.length/\J.heap[l]? =some x)\/(l=J.heap.length/\x=.map []):=by
  grind
 have ub:∀b o,b<w.heap.size->w'.cell? ⟨b,o,none⟩=w.cell? ⟨b,o,none⟩:=by
  grind [World.cell?]
 have G8:∀b,(j6.map []).block (U' J.heap.length) b->w.heap.size<=b:=by
  intro b hb;rw[hφn]at hb;have hb:b=w.heap.size:=hb;omega
 have Ph:∀b o,G9 U' (J.heap++[.map []]) b o->w.heap.size<=b\/G9 U J.heap b o:=by
  rintro b o ⟨l,x,hx,hm⟩;rcases oa l x hx with⟨hl,hx⟩|⟨rfl,rfl⟩
  ·rw[hφ l hl]at hm;exact .inr ⟨l,x,hx,hm⟩
  grind [j6.ou]
 have le:(C.env U J.heap w).Le J.heap.length (C.env U' (J.heap++[.map []]) w'):=by
  refine qC.CR (by simp) (fun l hl=>⟨hφ l hl,by rw[av hl]⟩) (fun b i u hm hc=>?_)
  grind [GA]
 have BY:tf C U' (J.heap++[.map []]) w' J.df a.defers:=by
  refine S.defers.step le (fun b hb _=>hold b hb) (fun l x b hx hb=>?_)
  grind
 refine {kf:=kQ.mono le _ _ (kQ.nb _ _ S.kf) S.kf,defers:=BY,oB:=?_,apart:=?_,uf:=?_,size:=by show _<=w'.heap.size;have:=S.size;omega,old:=?_,n9:=?_,Cl:=?_,xf:=?_,rest:=S.rest,low:=⟨S.low.1,by have:=S.low.2;simp;omega⟩,mF:=?_}
 ·intro l x hx;show oP _ x (U' l);rcases oa l x hx with⟨hl,hx⟩|⟨rfl,rfl⟩
  ·have r0:=S.oB l x hx;rw[hφ l hl];exact oP.mono r0 le (fun b hb=>hold b (r0.qQ hb))
  ·rw[hφn];exact⟨w.heap.size,#[],0,rfl,hL,rfl⟩
 ·intro l l' x x' b hx Ea hb sC;have hb:x.block (U' l) b:=hb;have sC:x'.block (U' l') b:=sC;rcases oa l x hx with⟨hl,hx⟩|⟨rfl,rfl⟩<;>rcases oa l' x' Ea with⟨hl',Ea⟩|⟨rfl,rfl⟩
  ·rw[hφ l hl]at hb;rw[hφ l' hl']at sC;exact S.apart l l' x x' b hx Ea hb sC
  ·rw[hφ l hl]at hb;have h1:=(S.oB l x hx).qQ hb
   grind [qC.env]
  ·rw[hφ l' hl']at sC;have h1:=(S.oB l' x' Ea).qQ sC
   grind [qC.env]
  ·rfl
 ·intro l x b o hx hb;have hb:x.block (U' l) b:=hb;rcases oa l x hx with⟨hl,hx⟩|⟨rfl,rfl⟩
  ·rw[hφ l hl]at hb;exact S.uf l x b o hx hb
  ·intro hA;have h1:=C.hA _ _ hA;have h2:=G8 b hb;have:=S.size;omega
 ·intro b i hb hm;rw[ub b i (aa hb S.size)];exact S.old b i hb hm
 ·intro b hb hm;rw[hold b (aa hb S.size)];exact S.n9 b hb hm
 ·intro l x b o hx hm hb;have hm:x.Bf (U' l) b o:=hm;rcases oa l x hx with⟨hl,hx⟩|⟨rfl,rfl⟩
  ·rw[hφ l hl]at hm;exact S.Cl l x b o hx hm hb
  ·have h2:=G8 b (j6.ou hm);have:=S.size;omega
 ·intro x hx hm0;exact(xh w (.map #[] 0) (by intro c t lo hi h;cases h) x).trans (S.xf x hx hm0)
 ·intro l hl;have rQ:l<J.heap.length:=by have:=S.low;omega
  have:=S.mF l hl
  grind
def nK.aI9(S:nK C U J a w)(s:ByteArray):
 nK C (fun l=>if l=J.heap.length then .pointer (some ⟨w.heap.size,0,none⟩)else U l) {J with heap:=J.heap++[.iter s 0]} a (World.more w (.stringIter s 0)):=by
 let U':Nat->aTq:=fun l=>if l=J.heap.length then .pointer (some ⟨w.heap.size,0,none⟩)else U l
 let w':=World.more w (.stringIter s 0)
 have hφ:∀l,l<J.heap.length->U' l=U l:=fun l hl=>by grind
 have hφn:U' J.heap.length=.pointer (some ⟨w.heap.size,0,none⟩):=by simp [U']
 have hsz:w'.heap.size=w.heap.size+1:=Wu _ _;have hold:∀b,b<w.heap.size->w'.heap[b]? =w.heap[b]? :=fun b hb=>zg _ _ hb
 have hL:w'.heap[w.heap.size]? =some (.stringIter s 0):=ay4 _ _
 have oa:∀(l:Nat)(x:j6),(J.heap++[.iter s 0])[l]? =some x->(l<J.heap.length/\J.heap[l]? =some x)\/(l=J.heap.length/\x=.iter s 0):=by
  grind
 have ub:∀b o,b<w.heap.size->w'.cell? ⟨b,o,none⟩=w.cell? ⟨b,o,none⟩:=by
  grind [World.cell?]
 have G8:∀b,(j6.iter s 0).block (U' J.heap.length) b->w.heap.size<=b:=by
  intro b hb;rw[hφn]at hb;have hb:b=w.heap.size:=hb;omega
 have Ph:∀b o,G9 U' (J.heap++[.iter s 0]) b o->w.heap.size<=b\/G9 U J.heap b o:=by
  rintro b o ⟨l,x,hx,hm⟩;rcases oa l x hx with⟨hl,hx⟩|⟨rfl,rfl⟩
  ·rw[hφ l hl]at hm;exact .inr ⟨l,x,hx,hm⟩
  grind [j6.ou]
 have le:(C.env U J.heap w).Le J.heap.length (C.env U' (J.heap++[.iter s 0]) w'):=by
  refine qC.CR (by simp) (fun l hl=>⟨hφ l hl,by rw[av hl]⟩) (fun b i u hm hc=>?_)
  grind [GA]
 have BY:tf C U' (J.heap++[.iter s 0]) w' J.df a.defers:=by
  refine S.defers.step le (fun b hb _=>hold b hb) (fun l x b hx hb=>?_)
  grind
 refine {kf:=kQ.mono le _ _ (kQ.nb _ _ S.kf) S.kf,defers:=BY,oB:=?_,apart:=?_,uf:=?_,size:=by show _<=w'.heap.size;have:=S.size;omega,old:=?_,n9:=?_,Cl:=?_,xf:=?_,rest:=S.rest,low:=⟨S.low.1,by have:=S.low.2;simp;omega⟩,mF:=?_}
 ·intro l x hx;show oP _ x (U' l);rcases oa l x hx with⟨hl,hx⟩|⟨rfl,rfl⟩
  ·have r0:=S.oB l x hx;rw[hφ l hl];exact oP.mono r0 le (fun b hb=>hold b (r0.qQ hb))
  ·rw[hφn];exact⟨w.heap.size,rfl,hL⟩
 ·intro l l' x x' b hx Ea hb sC;have hb:x.block (U' l) b:=hb;have sC:x'.block (U' l') b:=sC;rcases oa l x hx with⟨hl,hx⟩|⟨rfl,rfl⟩<;>rcases oa l' x' Ea with⟨hl',Ea⟩|⟨rfl,rfl⟩
  ·rw[hφ l hl]at hb;rw[hφ l' hl']at sC;exact S.apart l l' x x' b hx Ea hb sC
  ·rw[hφ l hl]at hb;have h1:=(S.oB l x hx).qQ hb
   grind [qC.env]
  ·rw[hφ l' hl']at sC;have h1:=(S.oB l' x' Ea).qQ sC
   grind [qC.env]
  ·rfl
 ·intro l x b o hx hb;have hb:x.block (U' l) b:=hb;rcases oa l x hx with⟨hl,hx⟩|⟨rfl,rfl⟩
  ·rw[hφ l hl]at hb;exact S.uf l x b o hx hb
  ·intro hA;have h1:=C.hA _ _ hA;have h2:=G8 b hb;have:=S.size;omega
 ·intro b i hb hm;rw[ub b i (aa hb S.size)];exact S.old b i hb hm
 ·intro b hb hm;rw[hold b (aa hb S.size)];exact S.n9 b hb hm
 ·intro l x b o hx hm hb;have hm:x.Bf (U' l) b o:=hm;rcases oa l x hx with⟨hl,hx⟩|⟨rfl,rfl⟩
  ·rw[hφ l hl]at hm;exact S.Cl l x b o hx hm hb
  ·have h2:=G8 b (j6.ou hm);have:=S.size;omega
 ·intro x hx hm0;exact(xh w (.stringIter s 0) (by intro c t lo hi h;cases h) x).trans (S.xf x hx hm0)
 ·intro l hl;have rQ:l<J.heap.length:=by have:=S.low;omega
  have:=S.mF l hl
  grind
def nK.aJa(S:nK C U J a w){r:Nat}{es':List (AV×AV)}{xs xs':Array MapEntry}{cl cl':Nat}(hl:J.heap[l]? =some (.map es))(hφ:U l=.map (some r))
 (hw:w.heap[r]? =some (.map xs cl)) (hr:td (C.env U J.heap w) es' xs'.toList):nK C U {J with heap:=J.heap.set l (.map es')} a (w.putObj r (.map xs' cl')):=by
 have rQ:l<J.heap.length:=(aj.1 hl).1;have aJb:=(aG.1 hw).1
 have oa:∀(j:Nat)(x:j6),(J.heap.set l (.map es'))[j]? =some x->(j=l/\x=.map es')\/(j≠l/\J.heap[j]? =some x):=by
  grind
 have hbb:(j6.map es).block (U l) r:=by rw[hφ];rfl
 have hmb:∀o,(j6.map es).Bf (U l) r o:=by intro o;rw[hφ];rfl
 have En:∀b,b≠r->(w.putObj r (.map xs' cl')).heap[b]? =w.heap[b]? :=fun b hb=>World.putObj_heap_other hb
 have ub:∀b o,(w.putObj r (.map xs' cl')).cell? ⟨b,o,none⟩=w.cell? ⟨b,o,none⟩:=by
  grind [World.cell?,World.putObj_heap_same]
 have JD:∀b,(j6.map es').block (U l) b->(j6.map es).block (U l) b:=by intro b hb;rw[hφ]at hb ⊢;exact hb
 have aBN:∀b o,(j6.map es').Bf (U l) b o->(j6.map es).Bf (U l) b o:=by intro b o hb;rw[hφ]at hb ⊢;exact hb
 have Ph:∀b o,G9 U (J.heap.set l (.map es')) b o->G9 U J.heap b o:=by
  rintro b o ⟨j,x,hx,hm⟩;rcases oa j x hx with⟨rfl,rfl⟩|⟨_,hx⟩
  ·exact⟨j,_,hl,aBN b o hm⟩
  ·exact⟨j,x,hx,hm⟩
 have hlen:∀j:Nat,mT (J.heap.set l (.map es'))[j]? =mT J.heap[j]? :=by
  intro j;by_cases e:j=l
  ·subst e;rw[aM rQ,hl];rfl
  grind
 have hty:tyk w (w.putObj r (.map xs' cl')):=azz hw (by intro c t fz h;cases h) En
 have le:(C.env U J.heap w).Le J.heap.length (C.env U (J.heap.set l (.map es')) (w.putObj r (.map xs' cl'))):=
  qC.CR (by simp) (fun j _=>⟨rfl,hlen j⟩) (fun b o u hm hc=>⟨fun h=>hm (h.imp (Ph b o) id),by rw[ub];exact hc⟩)
 have BY:tf C U (J.heap.set l (.map es')) (w.putObj r (.map xs' cl')) J.df a.defers:=by
  refine S.defers.step le (fun b _ hno=>En b (fun e=>by subst e;exact hno l _ hl hbb)) (fun j x b hx hb=>?_)
  grind
 refine {kf:=kQ.mono le _ _ (kQ.nb _ _ S.kf) S.kf,defers:=BY,oB:=?_,apart:=?_,uf:=?_,size:=by rw[World.putObj_size];exact S.size,old:=fun b o hb hm=>by rw[ub];exact S.old b o hb hm,n9:=?_,Cl:=?_,xf:=?_,rest:=S.rest,low:=⟨S.low.1,by simpa using S.low.2⟩,mF:=?_}
 ·intro j x hx;rcases oa j x hx with⟨rfl,rfl⟩|⟨sB,hx⟩
  ·exact⟨r,xs',cl',hφ,World.putObj_heap_same aJb,td.mono le (td.nb hr) hr⟩
  ·exact oP.mono (S.oB j x hx) le (fun b hb=>En b (fun e=>by subst e;exact sB (S.apart j l x _ b hx hl hb hbb)))
 ·intro j j' x x' b hx Ea hb sC;rcases oa j x hx with⟨rfl,rfl⟩|⟨sB,hx1⟩<;>rcases oa j' x' Ea with⟨e2,rfl⟩|⟨axc,VV⟩
  ·exact e2.symm
  ·exact S.apart j j' _ x' b hl VV (JD b hb) sC
  ·rw[e2]at sC ⊢;exact S.apart j l x _ b hx1 hl hb (JD b sC)
  ·exact S.apart j j' x x' b hx1 VV hb sC
 ·intro j x b o hx hb;rcases oa j x hx with⟨rfl,rfl⟩|⟨_,hx⟩
  ·exact S.uf j _ b o hl (JD b hb)
  ·exact S.uf j x b o hx hb
 ·intro b hb hm;rw[En b (fun e=>by subst e;exact hm 0 (S.Cl l _ b 0 hl (hmb 0) hb))];exact S.n9 b hb hm
 ·intro j x b o hx hm hb;rcases oa j x hx with⟨rfl,rfl⟩|⟨_,hx⟩
  ·exact S.Cl j _ b o hl (aBN b o hm) hb
  ·exact S.Cl j x b o hx hm hb
 ·intro x hx hm0;rw[<-S.xf x hx hm0]
  grind [World.frozen?,World.putObj_heap_same]
 ·intro j hj;have:=S.mF j hj;rw[hlen j];exact this
def nK.aLq(S:nK C U J a w){r:Nat}{s':ByteArray}{p p':Nat}(hl:J.heap[l]? =some (.iter s p))(hφ:U l=.pointer (some ⟨r,0,none⟩))
 (hw:w.heap[r]? =some (.stringIter s p)):nK C U {J with heap:=J.heap.set l (.iter s' p')} a (w.putObj r (.stringIter s' p')):=by
 have rQ:l<J.heap.length:=(aj.1 hl).1;have aJb:=(aG.1 hw).1
 have oa:∀(j:Nat)(x:j6),(J.heap.set l (.iter s' p'))[j]? =some x->(j=l/\x=.iter s' p')\/(j≠l/\J.heap[j]? =some x):=by
  grind
 have hbb:(j6.iter s p).block (U l) r:=by rw[hφ];rfl
 have hmb:∀o,(j6.iter s p).Bf (U l) r o:=by intro o;rw[hφ];rfl
 have En:∀b,b≠r->(w.putObj r (.stringIter s' p')).heap[b]? =w.heap[b]? :=fun b hb=>World.putObj_heap_other hb
 have ub:∀b o,(w.putObj r (.stringIter s' p')).cell? ⟨b,o,none⟩=w.cell? ⟨b,o,none⟩:=by
  grind [World.cell?,World.putObj_heap_same]
 have JD:∀b,(j6.iter s' p').block (U l) b->(j6.iter s p).block (U l) b:=by intro b hb;rw[hφ]at hb ⊢;exact hb
 have aBN:∀b o,(j6.iter s' p').Bf (U l) b o->(j6.iter s p).Bf (U l) b o:=by intro b o hb;rw[hφ]at hb ⊢;exact hb
 have Ph:∀b o,G9 U (J.heap.set l (.iter s' p')) b o->G9 U J.heap b o:=by
  rintro b o ⟨j,x,hx,hm⟩;rcases oa j x hx with⟨rfl,rfl⟩|⟨_,hx⟩
  ·exact⟨j,_,hl,aBN b o hm⟩
  ·exact⟨j,x,hx,hm⟩
 have hlen:∀j:Nat,mT (J.heap.set l (.iter s' p'))[j]? =mT J.heap[j]? :=by
  intro j;by_cases e:j=l
  ·subst e;rw[aM rQ,hl];rfl
  grind
 have hty:tyk w (w.putObj r (.stringIter s' p')):=azz hw (by intro c t fz h;cases h) En
 have le:(C.env U J.heap w).Le J.heap.length (C.env U (J.heap.set l (.iter s' p')) (w.putObj r (.stringIter s' p'))):=
  qC.CR (by simp) (fun j _=>⟨rfl,hlen j⟩) (fun b o u hm hc=>⟨fun h=>hm (h.imp (Ph b o) id),by rw[ub];exact hc⟩)
 have BY:tf C U (J.heap.set l (.iter s' p')) (w.putObj r (.stringIter s' p')) J.df a.defers:=by
  refine S.defers.step le (fun b _ hno=>En b (fun e=>by subst e;exact hno l _ hl hbb)) (fun j x b hx hb=>?_)
  grind
 refine {kf:=kQ.mono le _ _ (kQ.nb _ _ S.kf) S.kf,defers:=BY,oB:=?_,apart:=?_,uf:=?_,size:=by rw[World.putObj_size];exact S.size,old:=fun b o hb hm=>by rw[ub];exact S.old b o hb hm,n9:=?_,Cl:=?_,xf:=?_,rest:=S.rest,low:=⟨S.low.1,by simpa using S.low.2⟩,mF:=?_}
 ·intro j x hx;rcases oa j x hx with⟨rfl,rfl⟩|⟨sB,hx⟩
  ·exact⟨r,hφ,World.putObj_heap_same aJb⟩
  ·exact oP.mono (S.oB j x hx) le (fun b hb=>En b (fun e=>by subst e;exact sB (S.apart j l x _ b hx hl hb hbb)))
 ·intro j j' x x' b hx Ea hb sC;rcases oa j x hx with⟨rfl,rfl⟩|⟨sB,hx1⟩<;>rcases oa j' x' Ea with⟨e2,rfl⟩|⟨axc,VV⟩
  ·exact e2.symm
  ·exact S.apart j j' _ x' b hl VV (JD b hb) sC
  ·rw[e2]at sC ⊢;exact S.apart j l x _ b hx1 hl hb (JD b sC)
  ·exact S.apart j j' x x' b hx1 VV hb sC
 ·intro j x b o hx hb;rcases oa j x hx with⟨rfl,rfl⟩|⟨_,hx⟩
  ·exact S.uf j _ b o hl (JD b hb)
  ·exact S.uf j x b o hx hb
 ·intro b hb hm;rw[En b (fun e=>by subst e;exact hm 0 (S.Cl l _ b 0 hl (hmb 0) hb))];exact S.n9 b hb hm
 ·intro j x b o hx hm hb;rcases oa j x hx with⟨rfl,rfl⟩|⟨_,hx⟩
  ·exact S.Cl j _ b o hl (aBN b o hm) hb
  ·exact S.Cl j x b o hx hm hb
 ·intro x hx hm0;rw[<-S.xf x hx hm0]
  grind [World.frozen?,World.putObj_heap_same]
 ·intro j hj;have:=S.mF j hj;rw[hlen j];exact this
def aEt(S:nK C U J a w){e:wq}(h:alt l J.heap[l]? =some e)(hv:pz (C.env U J.heap w) (.ptr l 0) v):
 ∃u w',(bR v true ty).run C.P w=.ok u w'/\pz (C.env U (nu J.heap e.up) w') e.val u/\nK C U {J with heap:=nu J.heap e.up} a w'/\e.nw=[]:=by
 unfold alt at h;split at h
 ·rename_i s p hl;obtain⟨b,hφ,hb⟩:=S.oB l _ hl;have hb:w.heap[b]? =some (.stringIter s p):=hb;obtain⟨rQ,b',hφ',rfl⟩:=hv;have hφ':U l=.pointer (some ⟨b',0,none⟩):=hφ';have hbb:b'=b:=by grind
  subst hbb;split at h
  ·rename_i hp;cases h;have hb2:=(aG.1 hb).1;refine⟨.tuple #[.bool true,goInt p,.int .i32 (Utf8.decode s p).1],w.putObj b' (.stringIter s (p+(Utf8.decode s p).2)),?_,?_,S.aLq hl hφ hb,rfl⟩
   ·simp [bR,getObj,setObj,Sem.run,hb,hp,World.putObj,aA]
   ·exact⟨_,rfl,_,_,rfl,rfl,_,_,rfl,rfl,_,_,rfl,rfl,rfl⟩
  ·rename_i hp;cases h;refine⟨.tuple #[.bool false],w,?_,⟨_,rfl,_,_,rfl,rfl,rfl⟩,by simpa [nu] using S,rfl⟩;simp [bR,getObj,Sem.run,hb,hp,aA]
 ·cases h
def aGA{z:AV}(h:tz1 P t=some z):∃v,(zeroValue t).run P w=.ok v w/\∀E,pz E z v:=by
 unfold tz1 at h;cases hi:P.info? t with
 |none=>simp [hi]at h
 |some i=>
  simp only[hi]at h;split at h
  ·rename_i b hz;cases h;exact⟨.bool b,by simp [zeroValue,typeInfo,hi,hz],fun E=>rfl⟩
  ·rename_i k n hz;cases h;exact⟨.int k n,by simp [zeroValue,typeInfo,hi,hz],fun E=>rfl⟩
  ·rename_i s hz;cases h;exact⟨.string s,by simp [zeroValue,typeInfo,hi,hz],fun E=>rfl⟩
  ·rename_i vs hz;cases h;exact⟨.agg vs,by simp [zeroValue,typeInfo,hi,hz],fun E=>⟨vs,rfl,aeQ E _⟩⟩
  ·cases h
def auQ{z:AV}(h:aiu P t=some z):∃k e,P.underlying t=some (.map k e)/\P.underlying k=some .string/\tz1 P e=some z:=by
 grind [aiu]
def aut{E:D4}{s:ByteArray}{v:AV}{u:aTq}(hv:pz E v u): ∀(es:List (AV×AV))(xs:List MapEntry)(i:Nat),Ub es=true->td E es xs->
 (∃j x e,zy s es=some x/\aR .string (.string s) xs i=some (some (i+j,e.val))/\xs[j]? =some e/\e.key=.string s/\pz E x e.val/\td E (Qp s v es) (xs.modify j fun e=>{e with key:=.string s,val:=u}))\/
 (zy s es=none/\aR .string (.string s) xs i=some none/\∀b,td E (Qp s v es) (xs++[{key:=.string s,val:=u,born:=b}]))
 |[],_,i,_,rfl=>.inr ⟨rfl,rfl,fun b=>⟨_,[],rfl,rfl,hv,rfl⟩⟩
 |(k,x)::es,xs,i,hs,⟨e,r,hx,r1,r2,r3⟩=>by
  subst hx;cases k with
  |str b=>
   have hs':Ub es=true:=hs;have hk:e.key=.string b:=r1;cases hb:s==b with
   |true=>
    have hsb:s=b:=(bytes_beq s b).1 hb;subst hsb;refine .inl ⟨0,x,e,?_,?_,rfl,hk,r2,?_⟩
    ·simp only[zy,hb,jF]
    ·grind [aR,bM]
    ·simp only[Qp,hb,jF];exact⟨_,r,rfl,rfl,hv,r3⟩
   |false=>
    rcases aut hv es r (i+1) hs' r3 with⟨j,x',e',h1,h2,h3,h4,h5,h6⟩|⟨h1,h2,h3⟩
    ·refine .inl ⟨j+1,x',e',?_,?_,by simpa using h3,h4,h5,?_⟩
     ·grind [zy]
     ·grind [aR,bM]
     ·simp only[Qp,hb,jG,List.modify_succ_cons];exact⟨e,_,rfl,r1,r2,h6⟩
    ·refine .inr ⟨?_,?_,fun q=>?_⟩
     ·grind [zy]
     ·grind [aR,bM]
     ·simp only[Qp,hb,jG,List.cons_append];exact⟨e,_,rfl,r1,r2,h3 q⟩
  |_=>cases hs
def azI(S:nK C U J a w){z:AV}(ht:aiu C.P t=some z)(hl:J.heap[l]? =some (.map es))(hs:Ub es=true)
 (hv:pz (C.env U J.heap w) (.map l) v):∃u,(aT t v (.string s) false).run C.P w=.ok u w/\pz (C.env U J.heap w) ((zy s es).getD z) u:=by
 obtain⟨kt,et,hu,hk,hz⟩:=auQ ht;obtain⟨zv,hzr,hzE⟩:=aGA (w:=w) hz;obtain⟨r,xs,cl,hφ,hb,uu⟩:=S.oB l _ hl;have hb:w.heap[r]? =some (.map xs cl):=hb;obtain⟨_,rfl,_⟩:=hv;have hφ':(C.env U J.heap w).U l=.map (some r):=hφ;rw[hφ'];have hck:=run_checkKey (P:=C.P) (w:=w) hk (d:=.string) (k:=.string s) trivial xs.isEmpty 9999;rcases aut (s:=s) (v:=.any) (u:=undef) (E:=C.env U J.heap w) trivial es xs.toList 0 hs uu with⟨j,x,e,h1,h2,_,_,h5,_⟩|⟨h1,h2,_⟩
 ·refine⟨e.val,?_,by rw[h1];exact h5⟩;simp [aT,run_underlying hu,aw hb,hck,run_findKey hk h2,aA]
 ·refine⟨zv,?_,by rw[h1];exact hzE _⟩;simp [aT,run_underlying hu,aw hb,hck,run_findKey hk h2,hzr,aA]
def auR(S:nK C U J a w){z:AV}(ht:aiu C.P t=some z)(hl:J.heap[l]? =some (.map es))(hs:Ub es=true)
 (hv:pz (C.env U J.heap w) (.map l) v):∃u,∃_:Unit,(aT t v (.string s) true).run C.P w=.ok u w/\pz (C.env U J.heap w) (ayC z l (zy s es)).val u:=by
 obtain⟨kt,et,hu,hk,hz⟩:=auQ ht;obtain⟨zv,hzr,hzE⟩:=aGA (w:=w) hz;obtain⟨r,xs,cl,hφ,hb,uu⟩:=S.oB l _ hl;have hb:w.heap[r]? =some (.map xs cl):=hb;obtain⟨_,rfl,_⟩:=hv;have hφ':(C.env U J.heap w).U l=.map (some r):=hφ;rw[hφ'];have hck:=run_checkKey (P:=C.P) (w:=w) hk (d:=.string) (k:=.string s) trivial xs.isEmpty 9999;rcases aut (s:=s) (v:=.any) (u:=undef) (E:=C.env U J.heap w) trivial es xs.toList 0 hs uu with⟨j,x,e,h1,h2,_,_,h5,_⟩|⟨h1,h2,_⟩
 ·refine⟨.tuple #[e.val,.bool true],(),?_,by rw[h1];exact⟨_,rfl,_,_,rfl,h5,_,_,rfl,rfl,rfl⟩⟩;simp [aT,run_underlying hu,aw hb,hck,run_findKey hk h2,aA]
 ·refine⟨.tuple #[zv,.bool false],(),?_,by rw[h1];exact⟨_,rfl,_,_,rfl,hzE _,_,_,rfl,rfl,rfl⟩⟩;simp [aT,run_underlying hu,aw hb,hck,run_findKey hk h2,hzr,aA]
def agB(S:nK C U J a w){z:AV}(ht:aiu C.P t=some z)(hl:J.heap[l]? =some (.map es))(hs:Ub es=true)
 (hv:pz (C.env U J.heap w) (.map l) v) (hy:pz (C.env U J.heap w) y u):∃w',(bt t v (.string s) u).run C.P w=.ok () w'/\nK C U {J with heap:=J.heap.set l (.map (Qp s y es))} a w':=by
 obtain⟨kt,et,hu,hk,hz⟩:=auQ ht;obtain⟨r,xs,cl,hφ,hb,uu⟩:=S.oB l _ hl;have hb:w.heap[r]? =some (.map xs cl):=hb;obtain⟨_,rfl,_⟩:=hv;have hφ':(C.env U J.heap w).U l=.map (some r):=hφ;rw[hφ'];have hck:=run_checkKey (P:=C.P) (w:=w) hk (d:=.string) (k:=.string s) trivial false 9999;rcases aut (s:=s) (v:=y) (u:=u) (E:=C.env U J.heap w) hy es xs.toList 0 hs uu with⟨j,x,e,h1,h2,h3,h4,_,h6⟩|⟨h1,h2,h3⟩
 ·have hj:xs[j]? =some e:=by simpa using h3
  have h2':aR .string (.string s) xs.toList 0=some (some (j,e.val)):=by simpa using h2
  refine⟨w.putObj r (.map (xs.modify j fun e=>{e with key:=.string s,val:=u}) cl),?_,S.aJa hl hφ hb ?_⟩
  ·simp [bt,run_underlying hu,aw hb,hck,run_findKey hk h2',hj,h4,run_keyThatStays (d:=.string) (k:=.string s) trivial,run_setObj_map _ hb,aA,World.putObj]
  grind
 ·refine⟨w.putObj r (.map (xs.push {key:=.string s,val:=u,born:=cl}) (cl+1)),?_,S.aJa hl hφ hb ?_⟩
  ·simp [bt,run_underlying hu,aw hb,hck,run_findKey hk h2,run_setObj_map _ hb,aA,World.putObj]
  grind
end
def aHt:∀{ms:List Int}{i:Nat}{m:Int},aoS cs=some ms->ms[i]? =some m->cs[i]? =some (.int .i64 m):=by
 induction cs with
 |nil=>intro ms i m h hm;simp only[aoS,ai]at h;subst h;simp at hm
 |cons c cs ih=>
  intro ms i m h hm;unfold aoS at h;split at h
  ·rename_i h0;cases h0
  ·rename_i n xs h0;cases h0;simp only[Option.map_eq_some_iff]at h;obtain⟨ys,hy,rfl⟩:=h;cases i with
   |zero=>simp only[aD,ai]at hm ⊢;subst hm;rfl
   |succ i=>simp only[aV]at hm ⊢;exact ih hy hm
  ·cases h
def aHu{len:Nat}{ms:List Int}{n m:Int}(ht:aso C.P t=some len)(hi:aoS cs=some ms)(h0:0<=n)(hl:n<len)(hm:ms[n.toNat]? =some m)
 (hx:pz E (.agg cs) v) (hu:pz E (.int k n) u):(bz t v u).run C.P w=.ok (.int .i64 m) w:=by
 obtain⟨vs,rfl,rl⟩:=hx;simp only[pz]at hu;subst hu;obtain⟨x,hx1,VV⟩:=rl.get (aHt hi hm);simp only[pz]at VV;subst VV;unfold aso at ht;split at ht
 ·rename_i n' e hue;split at ht
  ·rename_i hie;simp only[ai]at ht;subst ht;have hg:vs[n.toNat]? =some (.int .i64 m):=by simpa using hx1
   obtain⟨r1,r2⟩:=LG (C:=C) (w:=w) hie;simp [bz,asIntOf,run_underlying hue,h0,hl,part,r1,r2,hg]
  ·cases ht
 ·cases ht
def aEu(hE:E.w=w){s d e:aTu}{bytes:Nat}{n:Int}(ht:mq C.P s=some (e,1,bytes))(he:auH C.P e=some .u8)(hd:pq C.P d=true){z:Nat}(hx:pz E (.kJ tt z [[.int .u8 n]]) v):
 (convert s d v).run C.P w=.ok (.string ⟨[UInt8.ofNat n.toNat].toArray⟩) w:=by
 obtain⟨hu,i,hi,h1,rfl⟩:=MP ht;obtain⟨base,cap,rfl,h2,h3,h4,h5,h6⟩:=hx;cases base with
 |none=>have:=h4 rfl;simp only[aE,bu]at h2;omega
 |some a=>
  have hsp:=h5 a rfl (by simp);obtain⟨hz,⟨⟨_,u,hu1,_,hu2⟩,_⟩,_⟩:=h6 a rfl;simp only[aE,bu]at hz;subst hz;simp only[pz]at hu2;subst hu2;have ha:a=⟨a.block,a.off,none⟩:=by cases a;simp_all
  have hl:=run_loadCells_list (P:=C.P) w a [.int .u8 n] (fun j v hj=>by
   match j,hj with
   |0,hj=>simp only[aD,ai]at hj;subst hj;rw[ha,Aj,bo,<-hE];exact hu1
   |j+1,hj=>simp at hj)
  simp only[aE,bu]at hl ⊢;have hd':=alu hd;have he':=azG he;simp [convert,run_underlying hu,run_underlying hd',run_underlying he',Conv.bytesToString,hl];rfl
section sound
variable {a:Act}
def aBO(S:nK C U J a w)(ht:mS C.P t=some (g,n))(hl:J.heap[l]? =some (.cells cs))(hx:kq g n (cs.drop off)=some x)
 (r:pz (C.env U J.heap w) (.ptr l off) v):∃u,(aK t v).run C.P w=.ok u w/\pz (C.env U J.heap w) x u:=by
 obtain⟨_,b,hφ,rfl⟩:=r;obtain⟨b2,c,t2,hφ2,hh,rl,_⟩:=S.oB l _ hl;have e:b2=b:=by grind [qC.env]
 subst e;have hi:=LG (C:=C) (w:=w) ht;obtain⟨u,hu,ru⟩:=aeP (P:=C.P) (t:=t) (auL hh rl off) hi.1 hi.2 hx
 grind [aK,au,qC.env]
def alv(S:nK C U J a w): ∀{cs ds:List AV}{ns:List Nat}{vs:List aTq},vwL J.heap cs=some (ds,ns)->kQ (C.env U J.heap w) cs vs->kQ (C.env U J.heap w) ds vs
 |[],_,_,_,h,r=>by grind [vwL]
 |c::cs,ds,ns,vs,h,⟨u,us,hv,r1,r2⟩=>by
  unfold vwL at h;split at h
  ·cases ‹_::_=[]›
  ·rename_i l n cs' heq;simp only[aS]at heq;obtain⟨rfl,rfl⟩:=heq;split at h
   ·rename_i tZ sz rows hl;split at h
    ·rename_i hn;split at h
     ·rename_i es ms he;simp only[ai,aX]at h;obtain⟨rfl,_⟩:=h;cases tZ with
      |false=>exact⟨u,us,hv,r1,alv S he r2⟩
      |true=>
       have hu:=Q1 S hl hn r1;subst hu;exact⟨_,us,hv,aix S hl,alv S he r2⟩
     ·cases h
    ·cases h
   ·cases h
  ·rename_i c' cs' _ heq;simp only[aS]at heq;obtain⟨rfl,rfl⟩:=heq;split at h
   ·rename_i es ms he;simp only[ai,aX]at h;obtain⟨rfl,_⟩:=h;exact⟨u,us,hv,r1,alv S he r2⟩
   ·cases h
def aHv(S:nK C U J a w){v:AV}{e:wq}(h:ldV J.heap l v=some e)(r:pz (C.env U J.heap w) v u):e.up=[]/\e.nw=[]/\e.pre=True/\pz (C.env U J.heap w) e.val u:=by
 unfold ldV at h;split at h
 ·split at h
  ·rename_i ds ns he;cases h;obtain⟨vs,hv,rl⟩:=r;exact⟨rfl,rfl,rfl,vs,hv,alv S he rl⟩
  ·cases h
 grind
theorem aLr(ht:mS C.P t=some (g,n))(hx:kq g n cs=some x)
 (r:pz (C.env U J.heap w) (.pp cs) v):∃u,(aK t v).run C.P w=.ok u w/\pz (C.env U J.heap w) x u:=by
 obtain⟨b,off,rfl,rm⟩:=r;have hi:=LG (C:=C) (w:=w) ht;obtain⟨u,hu,ru⟩:=aeP (P:=C.P) (t:=t) (Uc rm) hi.1 hi.2 hx
 grind [aK,au,qC.env]
def aoX{m:Sem W}{f:W->Sem O}{x:W}{r:Result O}(h1:m.run P w=.ok x w)(h2:(f x).run P w=r):(m>>=f).run P w=r:=by
 rw[ah,h1];exact h2
def Ro {t':aTu}{x y:aTp}(ht:aEl P t=true):
 ((∀op,(eqGuard op t x y (.iface t' u) .nilIface).run P w=.ok () w)/\∀op,(eqGuard op t x y .nilIface .nilIface).run P w=.ok () w)/\
 ((binOp .eql t (.iface t' u) .nilIface).run P w=.ok (.bool false) w/\(binOp .neq t (.iface t' u) .nilIface).run P w=.ok (.bool true) w)/\
 (binOp .eql t .nilIface .nilIface).run P w=.ok (.bool true) w/\(binOp .neq t .nilIface .nilIface).run P w=.ok (.bool false) w:=by
 unfold aEl at ht;split at ht
 ·rename_i ms hu;obtain⟨d,hd⟩:∃d,Op.maxDepth=d+1:=⟨_,rfl⟩
  have e1:(Op.equal t (.iface t' u) .nilIface).run P w=.ok false w:=by
   simp_all [Op.equal,Op.equalIn,run_underlying]
  have e2:(Op.equal t .nilIface .nilIface).run P w=.ok true w:=by
   unfold Op.equal;simp_all [Op.equalIn,run_underlying]
  have key:(Op.eqGuardIn Op.maxDepth t .nilIface .nilIface).run P w=.ok false w:=by
   simp_all [Op.eqGuardIn,run_underlying]
  have g1:∀op,(eqGuard op t x y (.iface t' u) .nilIface).run P w=.ok () w:=by
   simp_all [eqGuard]
  have hg:∀op,(eqGuard op t x y .nilIface .nilIface).run P w=.ok () w:=by
   simp_all [eqGuard]
  exact⟨⟨g1,hg⟩,⟨aoX e1 rfl,aoX e1 rfl⟩,aoX e2 rfl,aoX e2 rfl⟩
 ·cases ht
def aLs {y:aTp}{e:wq}{a:Act}(h:anL P op t x y=some e)(r:pz E x v):
 ∃b,a.eval y=.slice none 0 0/\(do eqGuard op t ox y v (.slice none 0 0);binOp op t v (.slice none 0 0):Sem aTq).run P w=.ok (.bool b) w/\e={val:=.bool b}:=by
 have key:∀(base:Option Addr)(n c:Nat),(mq P t).isSome=true->(do eqGuard .eql t ox y (.slice base n c) (.slice none 0 0);binOp .eql t (.slice base n c) (.slice none 0 0):Sem aTq).run P w=.ok (.bool base.isNone) w:=by
  intro base n c ht
  obtain⟨e',he'⟩:∃e',P.underlying t=some (.slice e'):=by
   grind [mq]
  exact aoX rfl (Lib.run_eql_slice_nil w t e' base n c 0 0 he')
 unfold anL at h;split at h
 ·rename_i base n c;split at h
  ·rename_i ht;cases h;have r:v=_:=r;subst r;exact⟨_,rfl,key base n c ht,rfl⟩
  ·cases h
 ·split at h
  ·rename_i ht;cases h;obtain⟨base,cap,rfl,h2,_,h4,_⟩:=r;refine⟨_,rfl,key base _ cap ht.2,?_⟩;cases base with
   |none=>
    simp_all
   |some a=>rfl
  ·cases h
 ·cases h
theorem oU.take:∀{cs:List AV}{off:Nat}(k:Nat),oU E b off cs->oU E b off (cs.take k)
 |[],_,_,_=>by simp [oU]
 |_::_,_,0,_=>by simp [oU]
 |_::_,_,k+1,⟨h,r⟩=>by
  rw[List.take_succ_cons];exact⟨h,oU.take k r⟩
def auS{E:D4}{b sz:Nat}:∀{n:Nat}{cs ds:List AV}{off:Nat},WB sz n cs=some ds->oU E b off cs->oU E b (off+n*sz) ds
 |0,cs,ds,off,h,r=>by
  grind [WB,oU.take]
 |n+1,cs,ds,off,h,r=>by
  have:=auS (n:=n) h (r.drop sz)
  grind
def Ze (S:nK C U J a w) {e:wq} (h:lK C.P J o.op=some e) (hp:e.pre):Ai C J a w o.dst ((execOp a.eval o).run C.P w) e:=by
 cases ho:o.op with
 |move x=>
  rw[ho]at h;cases h;refine Ai.of_eq ?_ (lP (rd:=[]) (p:=True) (m:=pure (a.eval x)) S ⟨_,rfl,S.ev x⟩);simp [execOp,ho]
 |assign x=>
  rw[ho]at h;cases h;refine Ai.of_eq ?_ (lP (rd:=[]) (p:=True) (m:=pure (a.eval x)) S ⟨_,rfl,S.ev x⟩);simp [execOp,ho]
 |pick c x y=>
  rw[ho]at h;have hc:=S.ev c;simp only[lK]at h;split at h
  ·rename_i b hb;rw[hb]at hc;simp only[pz]at hc;cases h;refine Ai.of_eq ?_ (lP (rd:=[]) (p:=True) (m:=pure (bif b then a.eval x else a.eval y)) S ⟨_,rfl,?_⟩)
   ·grind [execOp,asBool]
   ·cases b
    ·exact S.ev y
    ·exact S.ev x
  ·cases h
 |alloc t=>
  rw[ho]at h;simp only[lK]at h;split at h
  ·rename_i z hz;cases h;obtain⟨v,hv,hr,zz⟩:=aEm (w:=w) hz;refine auO (c:=v.cells) S ?_ (aIW _ _ hr) zz;simp only[execOp,ho,Instr.alloc,ah,hv,ae,newVar,newRow,run_newObj,ap];rfl
  ·cases h
 |box t x=>
  rw[ho]at h;simp only[lK]at h;split at h
  ·rename_i cs hc;cases h;refine auO (c:=(a.eval x).cells) (t:=t) S ?_ (aSE hc (S.ev x)).1 (aSE hc (S.ev x)).2;simp only[execOp,ho,Instr.box,ah,ae,newVar,newRow,run_newObj,ap];rfl
  ·cases h
 |build t parts=>
  rw[ho]at h;simp only[lK]at h
  grind [lP,aBJ,execOp]
 |buildSlice t len parts=>
  rw[ho]at h;simp only[lK]at h;split at h
  ·rename_i et sz by' ht;split at h
   ·rename_i z hz;split at h
    ·rename_i hc;split at h
     ·rename_i rows hr;cases aLt:aLg t (ayB (parts.toList.map (·.2)))with
      |true=>
       grind [aoW,execOp]
      |false=>
      rw[aLt]at h;cases h;obtain⟨v,c,vI,uu⟩:=aq7 S ht hz hc hr;refine aHr S (o:=.cells c et) (by grind) (v:=v) ?_ uu;simp [execOp,ho,vI]
     ·cases h
    ·cases h
   ·cases h
  ·cases h
 |load t x=>
  rw[ho]at h;have hx:=S.ev x;simp only[lK]at h;split at h
  ·rename_i g n l off ht hp';rw[hp']at hx;split at h
   ·rename_i cs hl;split at h
    ·rename_i v hv;obtain⟨u,hu,ru⟩:=aBO S ht hl hv hx;obtain⟨h1,h2,h3,h4⟩:=aHv S h ru;obtain⟨val,rd,up,nw,pre⟩:=e;simp only at h1 h2 h3 h4;subst h1 h2 h3;refine Ai.of_eq ?_ (lP (rd:=rd) (p:=True) S ⟨u,hu,h4⟩);simp [execOp,ho]
    ·cases h
   ·cases h
  ·grind [lP,aLr,execOp]
  ·grind [lP,aI7,execOp]
  ·rename_i n rv ht hp';rw[hp']at hx;simp only[pz]at hx;unfold auJ at h;split at h
   case h_2=>cases h
   rename_i b o';split at h
   ·rename_i k hk;rw[Option.bind_eq_some_iff]at h;obtain⟨m,hm,h⟩:=h;cases h;obtain⟨hd,hkv⟩:=aLi hk hm;obtain⟨v,hc,hv,_⟩:=S.know.cell b o' hd;have:=hkv v hv;subst this;have hi:=LG (C:=C) (w:=w) ht;refine Ai.of_eq ?_ (lP (rd:=[]) (p:=True) (m:=aK t (a.eval x)) S ⟨.int k m,?_,rfl⟩)
    ·simp [execOp,ho]
    ·rw[hx]
     have hM:aBH (C.env U J.heap w) b o' [.int k m]:=⟨[.int k m],⟨_,_,rfl,rfl,rfl⟩,fun j u hj=>by
      cases j with
      |zero=>simp at hj;subst hj;exact hc
      |succ j=>simp at hj⟩
     obtain⟨u,hu,ru⟩:=aeP (P:=C.P) (t:=t) hM hi.1 hi.2 (x:=.int k m) rfl;have ru:u=.int k m:=ru
     grind [aK,au,qC.env]
   ·cases h
  ·cases h
 |store t x y=>
  rw[ho]at h;have hx:=S.ev x;simp only[lK]at h;split at h
  ·rename_i g n l off ys ht hp' hc;rw[hp']at hx;split at h
   ·rename_i cs hl;split at h
    ·rename_i aBP;cases h;obtain⟨hr,h1⟩:=aSE hc (S.ev y);obtain⟨w',vI,hS⟩:=aBI S ht hl hr h1 aBP.1 aBP.2 hx;refine⟨.skip,undef,w',U,?_,.inr ⟨rfl,rfl⟩,?_⟩
     ·simp [execOp,ho,vI]
     ·rw[aq9];exact hS.put _ trivial
    ·cases h
   ·cases h
  ·rename_i g n l i m o' sz ys ht hp' hc;rw[hp']at hx;split at h
   ·rename_i aSH rows hl;split at h
    ·rename_i hcc;obtain⟨rfl,hm⟩:=hcc;split at h
     ·rename_i r hr';split at h
      ·rename_i aBP;cases h;obtain⟨hr,h1⟩:=aSE hc (S.ev y);obtain⟨w',vI,hS⟩:=aHp S ht hl hm hr' hr h1 aBP.1 aBP.2 hx;refine⟨.skip,undef,w',U,?_,.inr ⟨rfl,rfl⟩,?_⟩
       ·simp [execOp,ho,vI]
       ·rw[aq9];exact hS.put _ trivial
      ·cases h
     ·cases h
    ·cases h
   ·cases h
  ·cases h
 |nilCheck x=>
  rw[ho]at h;have hx:=S.ev x;simp only[lK]at h;split at h
  ·rename_i l off hp';rw[hp']at hx;cases h;obtain⟨hl,b,hb,hv⟩:=hx;refine Ai.of_eq ?_ (lP (rd:=[]) (p:=True) (m:=pure (a.eval x)) S ⟨_,rfl,hl,b,hb,hv⟩);simp [execOp,ho,hv]
  ·rename_i cs hp';rw[hp']at hx;cases h;obtain⟨b,off,hv,hm⟩:=hx;refine Ai.of_eq ?_ (lP (rd:=[]) (p:=True) (m:=pure (a.eval x)) S ⟨_,rfl,b,off,hv,hm⟩);simp [execOp,ho,hv]
  ·rename_i f fs cs hp';rw[hp']at hx;cases h;obtain⟨f',c',hv,r1,r2⟩:=hx;refine Ai.of_eq ?_ (lP (rd:=[]) (p:=True) (m:=pure (a.eval x)) S ⟨_,rfl,f',c',hv,r1,r2⟩);simp [execOp,ho,hv]
  ·cases h
 |binOp op t x y ty=>
  rw[ho]at h;simp only[lK]at h;split at h
  ·rename_i v hv;cases h;refine Ai.of_eq ?_ (lP (rd:=[]) (p:=True) S (aBM (t:=t) (ox:=x) (oy:=y) (w:=w) hv (S.ev x) (S.ev y)));simp [execOp,ho]
  ·have hx:=S.ev x;have hy:=S.ev y;unfold ayz at h;split at h
   ·rename_i e' he;have hq:=aLs (a:=a) (w:=w) (ox:=x) he hx;cases h;obtain⟨b,hb,hv,he2⟩:=hq;subst he2;refine Ai.of_eq ?_ (lP (rd:=[]) (p:=True) (m:=(do eqGuard op t x y (a.eval x) (a.eval y);binOp op t (a.eval x) (a.eval y):Sem aTq)) S ⟨.bool b,?_,rfl⟩)
    all_goals grind [execOp]
   rename_i hnE;clear hnE;unfold aq4 at h;split at h
   ·rename_i cs ds h1 h2 _;cases h;rw[h1]at hx;rw[h2]at hy;obtain⟨vs,hvs,r1⟩:=hx;obtain⟨us,hus,r2⟩:=hy;refine Ai.of_eq ?_ (lP (rd:=[]) (p:=auI C.P t cs ds) S ⟨.bool (eqB cs ds),(hp _ vs us w x y r1 r2).1,rfl⟩);simp [execOp,ho,hvs,hus]
   ·rename_i cs ds h1 h2 _;cases h;rw[h1]at hx;rw[h2]at hy;obtain⟨vs,hvs,r1⟩:=hx;obtain⟨us,hus,r2⟩:=hy;refine Ai.of_eq ?_ (lP (rd:=[]) (p:=auI C.P t cs ds) S ⟨.bool (!eqB cs ds),(hp _ vs us w x y r1 r2).2,rfl⟩);simp [execOp,ho,hvs,hus]
   ·rename_i p q h1 h2 _;split at h
    ·rename_i ht;cases h;rw[h1]at hx;rw[h2]at hy;simp only[pz]at hx hy;refine Ai.of_eq ?_ (lP (rd:=[]) (p:=True) (m:=pure (.bool (p==q))) S ⟨_,rfl,rfl⟩)
     simp_all [execOp,ayL,aNS]
    ·cases h
   ·rename_i p q h1 h2 _;split at h
    ·rename_i ht;cases h;rw[h1]at hx;rw[h2]at hy;simp only[pz]at hx hy;refine Ai.of_eq ?_ (lP (rd:=[]) (p:=True) (m:=pure (.bool (!(p==q)))) S ⟨_,rfl,rfl⟩)
     simp_all [execOp,ayL,aNT]
    ·cases h
   all_goals first
    |(cases h;done)
    |skip
   ·rename_i t' z h1 h2 _;split at h
    ·rename_i ht;cases h;rw[h1]at hx;rw[h2]at hy;obtain⟨u,hx,_⟩:=hx;have hy:a.eval y=.nilIface:=hy;refine Ai.of_eq ?_ (lP (rd:=[]) (p:=True) (m:=pure (.bool false)) S ⟨_,rfl,rfl⟩);simp [execOp,ho,hx,hy,(Ro (w:=w) (t':=t') (u:=u) (x:=x) (y:=y) ht).1.1,(Ro (w:=w) (t':=t') (u:=u) (x:=x) (y:=y) ht).2.1.1]
    ·cases h
   ·rename_i t' z h1 h2 _;split at h
    ·rename_i ht;cases h;rw[h1]at hx;rw[h2]at hy;obtain⟨u,hx,_⟩:=hx;have hy:a.eval y=.nilIface:=hy;refine Ai.of_eq ?_ (lP (rd:=[]) (p:=True) (m:=pure (.bool true)) S ⟨_,rfl,rfl⟩);simp [execOp,ho,hx,hy,(Ro (w:=w) (t':=t') (u:=u) (x:=x) (y:=y) ht).1.1,(Ro (w:=w) (t':=t') (u:=u) (x:=x) (y:=y) ht).2.1.2]
    ·cases h
   ·rename_i h1 h2 _;split at h
    ·rename_i ht;cases h;rw[h1]at hx;rw[h2]at hy;have hx:a.eval x=.nilIface:=hx;have hy:a.eval y=.nilIface:=hy;refine Ai.of_eq ?_ (lP (rd:=[]) (p:=True) (m:=pure (.bool true)) S ⟨_,rfl,rfl⟩);simp [execOp,ho,hx,hy,(Ro (w:=w) (t':=t) (u:=undef) (x:=x) (y:=y) ht).1.2,(Ro (w:=w) (t':=t) (u:=undef) (x:=x) (y:=y) ht).2.2.1]
    ·cases h
   ·rename_i h1 h2 _;split at h
    ·rename_i ht;cases h;rw[h1]at hx;rw[h2]at hy;have hx:a.eval x=.nilIface:=hx;have hy:a.eval y=.nilIface:=hy;refine Ai.of_eq ?_ (lP (rd:=[]) (p:=True) (m:=pure (.bool false)) S ⟨_,rfl,rfl⟩);simp [execOp,ho,hx,hy,(Ro (w:=w) (t':=t) (u:=undef) (x:=x) (y:=y) ht).1.2,(Ro (w:=w) (t':=t) (u:=undef) (x:=x) (y:=y) ht).2.2.2]
    ·cases h
 |unOp op t x=>
  rw[ho]at h;have hx:=S.ev x;simp only[lK]at h;split at h
  ·rename_i b hb;rw[hb]at hx;simp only[pz]at hx;cases h;refine Ai.of_eq ?_ (lP (rd:=[]) (p:=True) (m:=pure (.bool !b)) S ⟨_,rfl,rfl⟩);simp [execOp,ho,hx,Op.unary]
  ·rename_i k n hb;rw[hb]at hx;simp only[pz]at hx;cases h;refine Ai.of_eq ?_ (lP (rd:=[]) (p:=True) (m:=pure (.int k (k.wrap (0-n)))) S ⟨_,rfl,rfl⟩);simp [execOp,ho,hx,Op.unary,Op.intArith]
  ·rename_i k n hb;rw[hb]at hx;simp only[pz]at hx;cases h;refine Ai.of_eq ?_ (lP (rd:=[]) (p:=True) (m:=Op.intBits .xor k (if k.signed then-1 else k.max) n) S ⟨_,rfl,rfl⟩);simp [execOp,ho,hx,Op.unary]
  ·cases h
 |convert s d x=>
  rw[ho]at h;have hx:=S.ev x;simp only[lK]at h;split at h
  ·rename_i v hv;rw[hv]at hx;simp only[pz]at hx;split at h
   ·rename_i hc;simp only[aP]at hc;cases h;refine Ai.of_eq ?_ (lP (rd:=[]) (p:=True) (m:=pure (.string v)) S ⟨_,rfl,rfl⟩)
    simp_all [execOp,convert,run_underlying,alu]
   ·cases h
  ·rename_i k n hv;rw[hv]at hx;simp only[pz]at hx;split at h
   ·rename_i k1 k2 h1 h2;cases h;refine Ai.of_eq ?_ (lP (rd:=[]) (p:=True) (m:=pure (.int k2 (k2.wrap n))) S ⟨_,rfl,rfl⟩)
    simp_all [execOp,convert,run_underlying,azG,Conv.intToInt]
   ·rename_i k1 h1 h2;split at h
    ·rename_i hs;cases h;refine Ai.of_eq ?_ (lP (rd:=[]) (p:=True) (m:=pure (.string (Utf8.encode n))) S ⟨_,rfl,rfl⟩)
     simp_all [execOp,convert,run_underlying,azG,alu,Conv.intToString]
    ·cases h
   ·cases h
  ·rename_i tt z k n hv;rw[hv]at hx;split at h
   ·rename_i e sz bytes ht;split at h
    ·rename_i hc;obtain⟨rfl,rfl,he,hd⟩:=hc;cases h;refine Ai.of_eq ?_ (lP (rd:=[]) (p:=True) (m:=convert s d (a.eval x)) S ⟨_,aEu rfl ht he hd hx,rfl⟩);simp [execOp,ho]
    ·cases h
   ·cases h
  ·cases h
 |makeInterface t x=>
  rw[ho]at h;simp only[lK]at h;split at h
  ·rename_i hc;cases h;refine Ai.of_eq ?_ (lP (rd:=[]) (p:=True) (m:=pure (.iface t (a.eval x))) S ⟨_,rfl,_,rfl,S.ev x⟩);unfold nA at hc;cases hu:C.P.underlying t with
   |none=>simp [hu]at hc
   |some d=>
    simp only[hu]at hc;cases d<;>simp_all [execOp,Instr.makeInterface,run_underlying hu]
  ·cases h
 |makeFunc fn f c=>
  rw[ho]at h;cases h;refine Ai.of_eq ?_ (lP (rd:=[]) (p:=True) (m:=Instr.makeFunc fn (f.map a.eval) (c.map a.eval)) S ⟨_,rfl,_,_,rfl,?_,?_⟩)
  all_goals simp_all [execOp,Rn]
 |makeSlice t x y=>
  rw[ho]at h;have hx:=S.ev x;have hy:=S.ev y;simp only[lK]at h
  grind [pz,as6,execOp]
 |slice t x lo hi mx=>
  rw[ho]at h;have hx:=S.ev x;simp only[lK]at h
  have hex:(execOp a.eval o).run C.P w=(do pure (.value (<-aQ t (a.eval x) (lo.map a.eval) (hi.map a.eval) (mx.map a.eval))):Sem Next).run C.P w:=by
   simp [execOp,ho]
  refine Ai.of_eq hex ?_;split at h
  ·rename_i et sz by' ht;split at h
   ·cases h
   ·rename_i hmx;have aRp:(mx.isSome&&hi.isNone)=false:=(Bool.not_eq_true _).mp hmx;unfold aoR at h;split at h
    ·grind [lP,ayH]
    ·rename_i k n hv;rw[hv]at hx;split at h
     ·rename_i aSH rows hl;split at h
      ·rename_i l hh m h1 h2 h3;split at h
       ·rename_i hc;obtain⟨rfl,hn,hc⟩:=hc;cases h;have hvv:=Q1 S hl hn hx;have:=ayH (tt:=false) S ht h1 h2 h3 (.inl rfl) hc aRp (aix S hl)
        grind [lP]
       ·cases h
      ·cases h
     ·cases h
    ·cases h
  ·split at h
   ·rename_i s ht hv;rw[hv]at hx;simp only[pz]at hx;split at h
    ·rename_i l hh h1 h2;split at h
     ·rename_i hc;cases h;exact lP S ⟨_,by grind [aHq],rfl⟩
     ·cases h
    ·cases h
   ·cases h
 |fieldAddr t x i=>
  rw[ho]at h;have hx:=S.ev x;simp only[lK]at h
  grind [execOp,lP,as4]
 |field t x i=>
  rw[ho]at h;have hx:=S.ev x;simp only[lK]at h;split at h
  ·rename_i f u cs hf hv;rw[hv]at hx;split at h
   ·rename_i g n ht;split at h
    ·rename_i v hl;cases h;obtain⟨vs,hvs,rl⟩:=hx;obtain⟨fs,fd,j,hu,hfi,hj,_,rfl,rfl⟩:=aGy hf;have hi:=LG (C:=C) (w:=w) ht;refine Ai.of_eq ?_ (lP (rd:=[]) (p:=True) S (aEr hi.1 hi.2 rl hl))
     simp_all [execOp,Instr.field,run_underlying,asAgg]
    ·cases h
   ·cases h
  ·cases h
 |indexAddr t x i=>
  rw[ho]at h;have hx:=S.ev x;have hi:=S.ev i;simp only[lK]at h
  have hex:(execOp a.eval o).run C.P w=(do pure (.value (<-aH t (a.eval x) (a.eval i))):Sem Next).run C.P w:=by
   simp [execOp,ho]
  refine Ai.of_eq hex ?_;split at h
  ·rename_i et sz by' ht;split at h
   ·rename_i tt aSH rows k n hv hn;rw[hv]at hx;rw[hn]at hi;simp only[pz]at hi;split at h
    ·rename_i hc;obtain⟨rfl,hc⟩:=hc;split at h
     ·rename_i r hr;cases h;have:=amH (k:=k) ht hc hr hx
      grind [lP]
     ·cases h
    ·cases h
   ·rename_i l m k n hv hn;rw[hv]at hx;rw[hn]at hi;simp only[pz]at hi;split at h
    ·rename_i aSH rows hl;split at h
     ·rename_i hc;obtain⟨rfl,hc,hm⟩:=hc;split at h
      ·rename_i r hr;cases h;have:=axf (k:=k) S ht hc hl hm hr hx
       grind [lP]
      ·cases h
     ·cases h
    ·rename_i aSH rows hl;split at h
     ·rename_i hc;obtain⟨rfl,hc,hm,rQ⟩:=hc;cases h;obtain⟨hu,ti,hti,rfl,rfl⟩:=MP ht;have hv':=Q1 S hl hm hx;obtain⟨base,cap,hh,h2,h3,h4,h5⟩:=S.oB l _ hl;have hsz:(sizeOf et).run C.P w=.ok ti.size w:=by simp [sizeOf,typeInfo,hti]
      cases base with
      |none=>have:=h3 rfl;omega
      |some b=>
       obtain⟨hsp,_⟩:=h5 b rfl (by omega);have hb:b=⟨b.block,b.off,none⟩:=by cases b;simp_all
       refine lP S ⟨.pointer (some ⟨b.block,b.off+n.toNat*ti.size,none⟩),?_,hx.1,⟨_,rfl⟩,?_⟩
       ·rw[hi,hv',hh];have aNR:0<=n/\n<(rows.length:Int):=⟨hc,by omega⟩;simp only[aH,asIntOf,ah,ap,ae,run_underlying hu,aNR,and_self,jN,hsz];rw[hb,Aj]
       ·intro k' YG;simp only[qC.env,hl,mT,ai]at YG;refine⟨by omega,fun _=>⟨b.block,b.off,rows.length,cap,?_,rfl⟩⟩
        grind [qC.env]
     ·cases h
    ·cases h
   ·cases h
  ·split at h
   ·rename_i len sz ht;split at h
    ·rename_i l off k n hv hn;rw[hv]at hx;rw[hn]at hi;simp only[pz]at hi;split at h
     ·rename_i hc;cases h;unfold axa at ht;split at ht
      ·rename_i n' e hu;split at ht
       ·rename_i ti hti;simp only[ai,aX]at ht;obtain⟨rfl,rfl⟩:=ht;obtain⟨hl,b,hb,hv'⟩:=hx;have hsz:(sizeOf e).run C.P w=.ok ti.size w:=by simp [sizeOf,typeInfo,hti]
        refine lP S ⟨.pointer (some ⟨b,off+n.toNat*ti.size,none⟩),?_,hl,b,hb,rfl⟩;rw[hi,hv'];simp only[aH,asIntOf,ah,ap,ae,run_underlying hu,au,hc,and_self,jN,hsz];rw[Aj]
       ·cases ht
      ·cases ht
     ·cases h
    ·rename_i cs k n hv hn;rw[hv]at hx;rw[hn]at hi;simp only[pz]at hi;split at h
     ·rename_i hc;rw[Option.bind_eq_some_iff]at h;obtain⟨ds,hd,he⟩:=h;obtain rfl:=bQ he;unfold axa at ht;split at ht
      ·rename_i n' e hu;split at ht
       ·rename_i ti hti;simp only[ai,aX]at ht;obtain⟨rfl,rfl⟩:=ht;obtain⟨b,off,hv',rm⟩:=hx;have hsz:(sizeOf e).run C.P w=.ok ti.size w:=by simp [sizeOf,typeInfo,hti]
        refine lP S ⟨.pointer (some ⟨b,off+n.toNat*ti.size,none⟩),?_,b,_,rfl,auS hd rm⟩;rw[hi,hv'];simp only[aH,asIntOf,ah,ap,ae,run_underlying hu,au,hc,and_self,jN,hsz];rw[Aj]
       ·cases ht
      ·cases ht
     ·cases h
    ·rename_i b off k n hv hn;rw[hv]at hx;rw[hn]at hi;simp only[pz]at hi hx;split at h
     ·rename_i hc;cases h;unfold axa at ht;split at ht
      ·rename_i n' e hu;split at ht
       ·rename_i ti hti;simp only[ai,aX]at ht;obtain⟨rfl,rfl⟩:=ht;have hsz:(sizeOf e).run C.P w=.ok ti.size w:=by simp [sizeOf,typeInfo,hti]
        refine lP S ⟨.pointer (some ⟨b,off+n.toNat*ti.size,none⟩),?_,rfl⟩;rw[hi,hx];simp only[aH,asIntOf,ah,ap,ae,run_underlying hu,au,hc,and_self,jN,hsz];rw[Aj]
       ·cases ht
      ·cases ht
     ·cases h
    ·cases h
   ·cases h
 |index t x i=>
  rw[ho]at h;have hx:=S.ev x;have hi:=S.ev i;simp only[lK]at h;split at h
  ·rename_i s k n ht hv hn;rw[hv]at hx;rw[hn]at hi;simp only[pz]at hi hx;split at h
   ·rename_i hc;split at h
    ·rename_i b hb;cases h;refine Ai.of_eq ?_ (lP (rd:=[]) (p:=True) (m:=pure (.int .u8 b.toNat)) S ⟨_,rfl,rfl⟩)
     simp_all [execOp,bz,asIntOf,run_underlying,alu]
    ·cases h
   ·cases h
  ·rename_i cs k n ht hv hn;rw[hv]at hx;rw[hn]at hi;split at h
   ·rename_i len ms h1 h2;split at h
    ·rename_i hc;split at h
     ·rename_i m hm;cases h;refine Ai.of_eq ?_ (lP (rd:=[]) (p:=True) (m:=bz t (a.eval x) (a.eval i)) S ⟨_,aHu h1 h2 hc.1 hc.2 hm hx hi,rfl⟩);simp [execOp,ho]
     ·cases h
    ·cases h
   ·cases h
  ·cases h
 |extract x i=>
  rw[ho]at h;have hx:=S.ev x;simp only[lK]at h;split at h
  ·rename_i vs hv;rw[hv]at hx;split at h
   ·rename_i v hi;cases h;obtain⟨us,hu,rl⟩:=hx;obtain⟨u,hu',ru⟩:=rl.get hi;refine Ai.of_eq ?_ (lP (rd:=[]) (p:=True) (m:=pure u) S ⟨_,rfl,ru⟩)
    grind [execOp,Instr.extract]
   ·cases h
  ·cases h
 |call c=>
  obtain⟨cl,args,ts⟩:=c;cases cl with
  |builtin b=>
   rw[ho]at h;exact axh S ho h hp
  |value f=>rw[ho]at h;cases h
  |invoke r m=>rw[ho]at h;cases h
 |makeMap t r=>
  rw[ho]at h;cases r with
  |some r=>cases h
  |none=>
   cases h;have S':=S.aLp;refine⟨.value (.map (some w.heap.size)),.map (some w.heap.size),World.more w (.map #[] 0),(fun l=>if l=J.heap.length then .map (some w.heap.size)else U l),?_,.inl rfl,?_⟩
   ·simp_all [execOp,Instr.makeMap,World.more]
   ·rw[ara];refine S'.put _ ⟨by simp [qC.env],by simp [qC.env],w.heap.size,by simp [qC.env,hdl]⟩
 |typeAssert x u t ok=>
  rw[ho]at h;cases ok with
  |false=>cases h
  |true=>
   have hx:=S.ev x;simp only[lK]at h;unfold azC at h;split at h
   ·rename_i t' z Ea;split at h
    ·rename_i hc;obtain⟨rfl,hc⟩:=hc;cases h;rw[Ea]at hx;obtain⟨q,hq,hr⟩:=hx;refine Ai.of_eq ?_ (lP (rd:=[]) (p:=True) (m:=pure (.tuple #[q,.bool true])) S ⟨_,rfl,_,rfl,_,_,rfl,hr,_,_,rfl,rfl,rfl⟩);unfold nA at hc;cases hu:C.P.underlying t' with
     |none=>simp [hu]at hc
     |some d=>
      simp only[hu]at hc;cases d<;>simp_all [execOp,Instr.typeAssert,run_underlying hu]
    ·cases h
   ·cases h
 |lookup t x k ok=>
  rw[ho]at h;cases ok with
  |true=>
   have hx:=S.ev x;have hk:=S.ev k;simp only[lK]at h;split at h
   ·rename_i z l s ht Ea YG;rw[Ea]at hx;rw[YG]at hk;have hk:a.eval k=.string s:=hk;unfold aq5 at h;split at h
    ·rename_i es hl;split at h
     ·rename_i hs;cases h;obtain⟨u,b,vI,uu⟩:=auR (s:=s) S ht hl hs hx;have hv:ayC z l (zy s es)={val:=(ayC z l (zy s es)).val,rd:=[l]}:=by cases zy s es<;>rfl
      grind [lP,execOp]
     ·cases h
    ·cases h
   ·cases h
  |false=>
   have hx:=S.ev x;have hk:=S.ev k;simp only[lK]at h;split at h
   ·rename_i z l s ht Ea YG;rw[Ea]at hx;rw[YG]at hk;have hk:a.eval k=.string s:=hk;unfold als at h;split at h
    ·rename_i es hl;split at h
     ·rename_i hs;cases h;obtain⟨u,vI,uu⟩:=azI (s:=s) S ht hl hs hx
      grind [lP,execOp]
     ·cases h
    ·cases h
   ·cases h
 |range t x=>
  rw[ho]at h;have hx:=S.ev x;simp only[lK]at h;split at h
  ·rename_i s ht hv;rw[hv]at hx;simp only[pz]at hx;cases h;have S':=S.aI9 s;refine⟨.value (.pointer (some ⟨w.heap.size,0,none⟩)),.pointer (some ⟨w.heap.size,0,none⟩),World.more w (.stringIter s 0),(fun l=>if l=J.heap.length then .pointer (some ⟨w.heap.size,0,none⟩)else U l),?_,.inl rfl,?_⟩
   ·simp [execOp,ho,hx,Instr.range,run_underlying (alu ht),newObj,Sem.run,World.more,aA]
   ·rw[ara];refine S'.put _ ⟨by simp [qC.env],w.heap.size,by simp [qC.env],rfl⟩
  ·cases h
 |next x st=>
  rw[ho]at h;cases st with
  |false=>cases h
  |true=>
   have hx:=S.ev x;simp only[lK]at h;split at h
   ·rename_i l hv;rw[hv]at hx;obtain⟨u,w',vI,uu,hS,hn⟩:=aEt (ty:=o.type) S h hx;refine⟨.value u,u,w',U,?_,.inl rfl,?_⟩
    ·simp [execOp,ho,vI]
    ·have:=hS.put o.dst uu;cases hd:o.dst<;>simpa [jT.app,jT.put,hn,hd] using this
   ·cases h
 |mapUpdate t x k y=>
  rw[ho]at h;have hx:=S.ev x;have hk:=S.ev k;simp only[lK]at h;split at h
  ·rename_i z l s ht Ea YG;rw[Ea]at hx;rw[YG]at hk;have hk:a.eval k=.string s:=hk;unfold CS at h;split at h
   ·rename_i es hl;split at h
    ·rename_i hs;cases h;obtain⟨w',vI,hS⟩:=agB (s:=s) S ht hl hs hx (S.ev y);refine⟨.skip,undef,w',U,?_,.inr ⟨rfl,rfl⟩,?_⟩
     ·simp [execOp,ho,hk,vI]
     ·rw[aq9];exact hS.put _ trivial
    ·cases h
   ·cases h
  ·cases h
 |insert t x k y=>
  rw[ho]at h;have hx:=S.ev x;have hk:=S.ev k;simp only[lK]at h;split at h
  ·rename_i z l s ht Ea YG;rw[Ea]at hx;rw[YG]at hk;have hk:a.eval k=.string s:=hk;unfold CS at h;split at h
   ·rename_i es hl;split at h
    ·rename_i hs;cases h;obtain⟨w',vI,hS⟩:=agB (s:=s) S ht hl hs hx (S.ev y);refine⟨.skip,undef,w',U,?_,.inr ⟨rfl,rfl⟩,?_⟩
     ·simp [execOp,ho,hk,vI]
     ·rw[aq9];exact hS.put _ trivial
    ·cases h
   ·cases h
  ·cases h
 |_=>rw[ho]at h;cases h
end sound
inductive ot where
 |normal
 |exit (id:Nat)
 |goto (l:Nat)
 |ret
 |panic (x:AV)
inductive vB where
 |ret (r:AV)
 |panic (x:AV)
def vB.rep(E:D4):vB->Ending->Prop
 |.ret r,.returned v=>pz E r v
 |.panic x,.panicked chain=>∃v,chain=[{v,recovered:=false}]/\pz E x v
 |_,_=>False
def enters(P:aTt)(f:aTs):Bool:=
 match P.funcs[f]? with
 |some fn=>fn.body.isSome&&fn.name != "runtime.NumGoroutine"
 |none=>false
def Bt(P:aTt)(f:aTs)(args:List AV)(J:jT)(K:vB->List j6->Prop):Prop:=
 enters P f=true/\∀(C:qC)(U:Nat->aTq)(a:Act)(w:aTr),C.P=P->nK C U J a w->∀vs:Array aTq,kQ (C.env U J.heap w) args vs.toList->
  Calls P f vs w fun e w'=>∃o U' H',K o H'/\nK C U' {J with heap:=H'} a w'/\o.rep (C.env U' H' w') e
def LI(J J':jT):Prop:=∀(C:qC)(U:Nat->aTq)(a:Act)(w:aTr),nK C U J a w->∃U',nK C U' J' a w
theorem LI.refl(J:jT):LI J J:=fun _ U _ _ S=>⟨U,S⟩
def LI.trans {J' σ'':jT}(h:LI J J')(h':LI J' σ''):LI J σ'':=fun C U a w S=>
 let ⟨U',S'⟩:=h C U a w S
 h' C U' a w S'
def nV(J:jT):Op->Option (aTs×List AV)
 | .call {callee:= .value f,args,..}=>match J.ev f with
   |.func (.func fid) first cap=>some (fid,first++args.toList.map J.ev++cap)
   |_=>none
 |_=>none
def IP(J:jT):Op->Option (Nat×List AV)
 | .call {callee:= .value f,args,..}=>match J.ev f with
   |.map l=>some (l,args.toList.map J.ev)
   |_=>none
 |_=>none
def IQ(J:jT):Op->Option (aTs×List AV)
 | .defer {callee:= .value f,args,..}=>match J.ev f with
   |.func (.func fid) first cap=>some (fid,first++args.toList.map J.ev++cap)
   |_=>none
 |_=>none
def aci(J:jT):Op->Option AV
 | .panic x=>match J.ev x with
   |.iface t y=>some (.iface t y)
   |_=>none
 |_=>none
def jT.dfr(J:jT)(p:aTs×List AV)(dst:Option Tmp):jT:={J with df:=p::J.df}.put dst (.sX undef)
def He(ro:Option Nat):Fence:={Fence.wide with round:=ro}
def LJ{args:Array aTq}:CallsIn (He ro) n P f args w R↔Calls P f args w R:=by
 rw[<-callsIn_wide (n:=n)];exact Iff.rfl
def aBQ{tmps:Array aTq}{aTo body:Code}:RoundIn (He ro) n P l f tmps aTo body w R↔RoundIn Fence.wide n P l f tmps aTo body w R:=Iff.rfl
def WC(P:aTt)(h:aTq)(w:aTr)(vs:Array aTq)(R:Ending->aTr->Prop):Prop:=
 ∀ (D:Nat) (rec:Loop),h= .func (.yield (D+1)) #[] #[]->w.heap[D+1]? =some (.loop rec)->
   RoundIn Fence.wide 0 P (D+1) rec.fn ((rec.params.zip vs).foldl (fun tmps (t,a)=>tmps.setIfInBounds t a) rec.tmps) rec.assign rec.body w R
def Qq(P:aTt)(l:Nat)(args:List AV)(J:jT)(K:vB->List j6->Prop):Prop:=
 (∃k kf st uD,J.heap[l]? =some (.loop k kf st uD)/\args.length=k.ps.size)/\∀(C:qC)(U:Nat->aTq)(a:Act)(w:aTr),C.P=P->nK C U J a w->∀vs:Array aTq,kQ (C.env U J.heap w) args vs.toList->
   WC P (U l) w vs fun e w'=>∃o U' H',K o H'/\nK C U' {J with heap:=H'} a w'/\o.rep (C.env U' H' w') e
def qG(kH:Array Oper)(o:Oper)(J:jT):Option Bool:=
 match o.guard with
 |none=>some true
 |some (j,want)=>match (kH[j]?).bind (·.dst)with
  |some d=>match J.kf[d]? with
   |some (.bool b)=>some (b==want)
   |some (.sX (.tuple _))=>some false
   |_=>none
  |none=>none
def aaB (P:aTt) (kH:Array Oper):List Oper->(ot->jT->Prop)->jT->Prop
 |[],Q,J=>Q .normal J
 |o::rest,Q,J=>match qG kH o J with
  |none=>False
  |some b=>(b=true->match nV J o.op with
    |some (f,args)=>Bt P f args J fun o' H'=>match o' with
     |.ret r=>aaB P kH rest Q (jT.put {J with heap:=H'} o.dst r)
     |.panic x=>Q (.panic x) {J with heap:=H'}
    |none=>match IP J o.op with
     |some (l,args)=>Qq P l args J fun o' H'=>match o' with
      |.ret r=>aaB P kH rest Q (jT.put {J with heap:=H'} o.dst r)
      |.panic _=>False
     |none=>match lK P J o.op with
      |some e=>e.pre/\aaB P kH rest Q (J.app o.dst e)
      |none=>match IQ J o.op with
       |some p=>aaB P kH rest Q (J.dfr p o.dst)
       |none=>match aci J o.op with
        |some x=>Q (.panic x) J
        |none=>False)/\
   (b=false->aaB P kH rest Q (J.put o.dst (.sX undef)))
def QC(C:qC)(Q:ot->jT->Prop):Exit->Act->aTr->Prop
 |.normal,a,w=>∃U J,nK C U J a w/\Q .normal J
 |.exit id,a,w=>∃U J,nK C U J a w/\Q (.exit id) J
 |.goto l,a,w=>∃U J,nK C U J a w/\Q (.goto l) J
 |.ret,a,w=>∃U J,nK C U J a w/\Q .ret J
 |.panic chain,a,w=>∃U J x v,nK C U J a w/\Q (.panic x) J/\chain=[{v,recovered:=false}]/\pz (C.env U J.heap w) x v
 |.outgrown,_,_=>False
section sound
variable {a:Act}
theorem Ag(S:nK C U J a w){kH:Array Oper}{b:Bool}(h:qG kH o J=some b):Region.wanted o (yielded kH a.tmps)=b:=by
 unfold qG at h;unfold Region.wanted;split at h
 ·rename_i hg;rw[hg];simpa using h
 ·rename_i j want hg;rw[hg];split at h
  ·rename_i d hd
   have hy:yielded kH a.tmps j=match a.tmps[d]? with|some (.bool b)=>some b|_=>none:=by
    unfold yielded;rw[hd];rfl
   split at h
   ·rename_i b' hs;obtain⟨v,hv,r⟩:=S.kf.get hs
    simp_all [pz]
   ·rename_i vs hs;obtain⟨v,hv,r⟩:=S.kf.get hs
    grind [pz]
   ·cases h
  ·cases h
def MR(S:nK C U J a w)(h:nV J o.op=some (f,args))(hf:enters C.P f=true):
 ∃vs:Array aTq,(execOp a.eval o).run C.P w=.ok (.enter f vs) w/\kQ (C.env U J.heap w) args vs.toList:=by
 unfold nV at h;split at h
 ·rename_i x xs ts ho;split at h
  ·rename_i fid first cap hv
   cases h;have hx:=S.ev x;rw[hv]at hx;obtain⟨f',c',hx,r1,r2⟩:=hx;refine⟨f'++xs.map a.eval++c',?_,?_⟩
   ·unfold enters at hf;split at hf
    ·rename_i fn hfn;simp only[aP,bne_iff_ne,ne_eq]at hf;have ayI:fn.body≠none:=by intro hb;simp [hb]at hf
     simp [execOp,ho,resolve,hx,Deferred.ofValue,invoke,callFunc,hfn,hf.2,ayI]
    ·cases hf
   ·simp only[bO,br];exact(r1.append (Rn S xs.toList)).append r2
  ·cases h
 ·cases h
theorem Rp{o:Op}{q:aTs×List AV}(h:nV J o=some q):∀c,o≠ .defer c:=by
 rintro c rfl;simp [nV]at h
theorem aEv{o:Op}{q:Nat×List AV}(h:IP J o=some q):∀c,o≠ .defer c:=by
 rintro c rfl;simp [IP]at h
theorem aBR{o:Op}{e:wq}(h:lK P J o=some e):∀c,o≠ .defer c:=by
 rintro c rfl;simp [lK]at h
def aBS(S:nK C U J a w){rec:Loop}(h:IP J o.op=some (l,args))(hφ:U l=.func (.yield (D+1)) #[] #[])(hw:w.heap[D+1]? =some (.loop rec))(hn:args.length=rec.params.size):
 ∃vs:Array aTq,(execOp a.eval o).run C.P w=.ok (.round (D+1) rec.fn ((rec.params.zip vs).foldl (fun tmps (t,a)=>tmps.setIfInBounds t a) rec.tmps) rec.assign rec.body) w/\kQ (C.env U J.heap w) args vs.toList:=by
 unfold IP at h;split at h
 ·rename_i x xs ts ho;split at h
  ·rename_i l' hv;cases h;have hx:=S.ev x;rw[hv]at hx;obtain⟨_,hx,_⟩:=hx;have Ea:a.eval x=.func (.yield (D+1)) #[] #[]:=hx.trans hφ;refine⟨xs.map a.eval,?_,?_⟩
   all_goals grind [run_yield,execOp,resolve,Deferred.ofValue,invoke,br,Rn]
  ·cases h
 ·cases h
theorem aJc{o:Op}{q:AV}(h:aci J o=some q):∀c,o≠ .defer c:=by
 rintro c rfl;simp [aci]at h
def aGB:Op->Bool
 |.defer _=>true
 |_=>false
def aBT(S:nK C U J a w){p:aTs×List AV}(h:IQ J o.op=some p):
 ∃d:Deferred,(execOp a.eval o).run C.P w=.ok (.defer d) w/\aoQ d=false/\∃cap,d.target=.fn (.func p.1) cap/\kQ (C.env U J.heap w) p.2 (d.args++cap).toList:=by
 unfold IQ at h;split at h
 ·rename_i x xs ts ho;split at h
  ·rename_i fid first cap hv
   cases h;have hx:=S.ev x;rw[hv]at hx;obtain⟨f',c',hx,r1,r2⟩:=hx;refine⟨{target:=.fn (.func fid) c',args:=f'++xs.map a.eval},?_,rfl,c',rfl,?_⟩
   ·simp [execOp,ho,resolve,hx,Deferred.ofValue]
   ·simp only[bO,br];exact(r1.append (Rn S xs.toList)).append r2
  ·cases h
 ·cases h
def aHw(S:nK C U J a w)(h:aci J o.op=some x):∃v,(execOp a.eval o).run C.P w=.halt (.panic v) w/\pz (C.env U J.heap w) x v:=by
 unfold aci at h;split at h
 ·rename_i y ho;split at h
  ·rename_i t z hv;cases h;have hx:=S.ev y;rw[hv]at hx;obtain⟨u,hu,r⟩:=hx;refine⟨.iface t u,?_,u,rfl,r⟩;simp [execOp,ho,hu,Instr.panic]
  ·cases h
 ·cases h
def nK.dfr(S:nK C U J a w){p:aTs×List AV}{d:Deferred}{cap:Array aTq}(hm:aoQ d=false)(hd:d.target=.fn (.func p.1) cap)(hr:kQ (C.env U J.heap w) p.2 (d.args++cap).toList):
 nK C U (J.dfr p dst) ({a with defers:=d::a.defers}.put dst undef) w:=by
 have S1:nK C U {J with df:=p::J.df} {a with defers:=d::a.defers} w:=by
  refine {S with kf:=S.kf,defers:=⟨?_,?_,?_⟩}
  ·simp only[List.filter_cons,hm,aF,if_false];exact S.defers.1
  ·intro d' hd' hm';rcases aW.1 hd' with rfl|hd'
   ·rw[hm]at hm';cases hm'
   ·exact S.defers.2.1 d' hd' hm'
  ·simp only[List.filter_cons,hm,bD,jN];exact⟨d,_,cap,rfl,hd,hr,S.defers.2.2⟩
 exact S1.put dst rfl
def aoY {ro:Option Nat} {P:aTt} (hP:C.P=P) {kH:Array Oper} {Q:ot->jT->Prop}: ∀ (rest:List Oper) (k:Nat),(ro=none\/rest.all (fun o=> !aGB o.op)=true)->kH.toList.drop k=rest-> ∀ (U:Nat->aTq) (J:jT) (a:Act) (w:aTr),
 aaB P kH rest Q J->nK C U J a w->wpOpsIn (He ro) 0 P kH (QC C Q) (List.range' k rest.length) a w
 |[],k,_,_,U,J,a,w,h,S=>⟨U,J,S,h⟩
 |o::rest,k,hro,hk,U,J,a,w,h,S=>by
  have ho:kH[k]? =some o:=by
   have:=congrArg (fun l:List Oper=>l[0]?) hk;simpa using this
  have yn:kH.toList.drop (k+1)=rest:=by
   grind [bA]
  have ih:=aoY (ro:=ro) hP (Q:=Q) rest (k+1) (hro.imp id fun h=>by grind) yn;simp only[aE,List.range'_succ,wpOpsIn,ho];simp only[aaB]at h;split at h
  ·exact h.elim
  ·rename_i b hb;rw[Ag S hb];cases b with
   |false=>
    simp only[aF,if_false];exact⟨fun _ _=>trivial,ih U _ _ w (h.2 rfl) (S.put o.dst rfl)⟩
   |true=>
    simp only[jN];have h:=h.1 rfl;split at h
    ·rename_i f args hc;obtain⟨he,xR⟩:=h;subst hP;obtain⟨vs,vI,hr⟩:=MR S hc he;refine⟨fun _ _=>trivial,?_⟩;rw[Oper.semAt_eq _ _ _ (Rp hc),vI,Oper.uponIn_enter];refine⟨fun h=>by simp [He,Fence.wide]at h,LJ.2 ?_⟩;refine(xR C U a w rfl S vs hr).mono fun e w' ⟨o',U',H',hK,S',uu⟩=>?_
     cases o' with
     |ret r=>
      cases e with
      |returned v=>exact ih U' _ _ w' hK (S'.put o.dst uu)
      |panicked chain=>exact uu.elim
      |outgrown=>exact uu.elim
     |panic x=>
      cases e with
      |returned v=>exact uu.elim
      |panicked chain=>
       obtain⟨v,hc,hr⟩:=uu;exact⟨U',_,x,v,S',hK,hc,hr⟩
      |outgrown=>exact uu.elim
    ·split at h
     ·rename_i l args hy;obtain⟨⟨k,kf,st,uD,hl,hn⟩,xR⟩:=h;subst hP;obtain⟨D,rec,hφ,hw1,hw2,ahJ,rl⟩:=S.oB l _ hl;obtain⟨vs,vI,hr⟩:=aBS S hy hφ hw1 (by rw[ahJ.1];exact hn);refine⟨fun _ _=>trivial,?_⟩;rw[Oper.semAt_eq _ _ _ (aEv hy),vI,Oper.uponIn_round];refine⟨fun h=>by simp [He,Fence.wide]at h,aBQ.2 ?_⟩;refine(xR C U a w rfl S vs hr D rec hφ hw1).mono fun e w' ⟨o',U',H',hK,S',uu⟩=>?_
      cases o' with
      |ret r=>
       cases e with
       |returned v=>exact ih U' _ _ w' hK (S'.put o.dst uu)
       |panicked chain=>exact uu.elim
       |outgrown=>exact uu.elim
      |panic x=>exact hK.elim
     ·split at h
      ·rename_i e he;obtain⟨n,v,w',U',hr,hn,S'⟩:=Ze S (hP ▸ he) h.1;refine⟨fun _ _=>trivial,?_⟩
       grind [Oper.semAt_eq,aBR,Oper.uponIn_value,Oper.uponIn_skip]
      ·split at h
       ·rename_i p hd;obtain⟨d,vI,hm,cap,aRq,hr⟩:=aBT S hd
        have aRr:ro=none:=by
         rcases hro with hro|hro
         ·exact hro
         ·rw[List.all_cons,aP]at hro;unfold IQ at hd;split at hd
          ·rename_i ho';rw[ho']at hro;cases hro.1
          ·cases hd
        subst aRr;refine⟨fun _ _=>trivial,?_⟩;have aRs:Oper.semAt (He none).round a.eval o=execOp a.eval o:=Oper.semAt_none _ _;rw[aRs,<-hP,vI,Oper.uponIn_defer,hP];exact ih U _ _ w h (S.dfr hm aRq hr)
       ·split at h
        ·rename_i x hx;obtain⟨v,vI,hr⟩:=aHw S hx;refine⟨fun _ _=>trivial,?_⟩;rw[<-hP,Oper.semAt_eq _ _ _ (aJc hx),vI,Oper.uponIn_panic];exact⟨U,J,x,v,S,h,rfl,hr⟩
        ·exact h.elim
end sound
end Go.Abs
