/- A part of the proof: abstract states and the rules for them. -/
import Derived.KernelRfl
import Derived.Calls
import Derived.Orders
import Derived.Laws.Sem
import Derived.Lib.FrozenHead
import Derived.Laws.CopyRow
import Derived.Laws.Cells
import Derived.Laws.Small
import Derived.RangeFuncRecord
import Derived.MapKept
import Derived.Lib.SliceRun
import Derived.Scope
import Derived.Deep.LoopGhost
import Derived.OrdersIn
set_option linter.all false
open Go renaming Operand→aPq,Value→aPr,World→aPs,FuncId→aPt,Program→aPu,TypeId→aPv
open Nat renaming lt_of_lt_of_le→aa,mul_le_mul_right→ay,le_refl→aC,add_mul→aD,add_zero→bB,le_trans→bC,add_assoc→bU,one_mul→b9
open Go.Result renaming andThen_ok→ae,andThen→av
open List renaming eq_nil_of_length_eq_zero→af,getElem?_eq_some_iff→aj,replicate→an,getElem?_append_left→aB,flatten_cons→aF,getElem?_cons_zero→aH,length_cons→aI,getElem?_set_self→aT,append_assoc→aU,drop_drop→aV,drop_take→bb,getElem?_cons_succ→bc,mem_cons→be,take_left'→bh,drop_left'→bi,mem_append→bl,drop_append_of_le_length→bp,flatten_append→br,all_eq_true→bA,length_take→bD,length_nil→bG,drop_of_length_le→bH,tail_drop→bJ,take_take→bK,getElem?_toArray→bL,length_replicate→bO,modify_succ_cons→bP,mem_cons_of_mem→bQ,mem_of_getElem?→bR,map_cons→bT,take_add→bW,replicate_succ→bX
open Option.some renaming injEq→ah,inj→cc
open Go.Sem renaming run_bind→ai,run_pure→au
open Go.MapKept renaming run_getObj_map→ak
open Go.Builtin renaming append_→am,firstCells→aq,nextslicecap→bj,len_→bn,zeroCells→bz,growBy→bN,lenOf→bV
open ByteArray renaming empty→ax
open Go.Instr renaming findNow→az,sureAddr→aA,sliceBound→aE,sliceBounds→aG,lookup→aL,indexAt→aN,buildSlice→aP,loadAt→aQ,fieldAt→aR,mapUpdate→aS,sliceAt→aX,sameNow→aY,makeSlice→bo,storeAt→bu,index→bI,next→cf
open Option renaming map_eq_some_iff→aJ,bind_eq_some_iff→bF,isSome_none→b8
open Bool renaming false_eq_true→aK,and_eq_true→aW,not_false→bM
open Array renaming getElem?_eq_some_iff→aM,length_toList→bq,range→bt,toList_map→bE,toList_append→bY
open Go.Lib renaming strCells→aO,run_append_own_stringF→bw
open List.cons renaming injEq→aZ
open Prod.mk renaming injEq→bf
open Go.Op renaming equal→bg,equalIn→bS,bytesLess→bZ
namespace Go.Abs
variable {parts:Array (Nat×aPq)}{c us:Array aPr}{op:BinOp}{g im tt:Bool}{s:ByteArray}{R:Ending->aPs->Prop}{f:aPt}{m:Int}{k:IntKind}{ms:List (Int×Int)}{ds:List Deferred}{rd:List Nat}{xs:List aPr}{b l n off:Nat}{U U':Nat->aPr}{o:Oper}{ox:aPq}{base:Option Addr}{ro:Option Nat}{hi lo:Option aPq}{dst:Option Tmp}{P:aPu}{p:Prop}{r:Result Next}{W O:Type}{d:TypeDesc}{t ty:aPv}{i:TypeInfo}{h h' u v vx:aPr}{w':aPs}
theorem kP {W:Sort _} (a b:W):cond true a b=a:=rfl
theorem kQ {W:Sort _} (a b:W):cond false a b=b:=rfl
theorem kR [Decidable p] (h:p):decide p=true:=decide_eq_true h
theorem kS [Decidable p] (h:¬p):decide p=false:=decide_eq_false h
def kT [Decidable p] (h:decide p=true):p:=of_decide_eq_true h
def kU [Decidable p]:(decide p=true)=p:=decide_eq_true_eq
theorem kV {W:Type _} [BEq W] [LawfulBEq W] {a b:W}:(a==b)=false↔a≠b:=beq_eq_false_iff_ne
def kW {W:Sort _} {_:Decidable True} (t e:W):(if True then t else e)=t:=if_true t e
theorem kX {W:Sort _} {a b:W} (h:a=b:=by kernel_rfl):a=b:=h
def aoX(o:Nat):Int:=if o=32\/(9<=o/\o<=13)then 1 else 0
def aCJ(o:Nat):Option Int:=if o<256 then some (aoX o)else none
def aFE(b o:Nat):Prop:=(b=0/\o=0)\/(b=1/\o<256)
def aFF(b o:Nat)(v:aPr):Prop:=(b=0->∃m,v=.int .i64 m)/\(b=1->v=.int .u8 (aoX o))
def aIP(t k:Nat):Bool:=bif t==34 then(bif k==5 then false else true)else bif t==35 then(bif k==5 then false else true)else bif t==110 then(bif k==98 then false else bif k==24 then false else bif k==11 then false else bif k==34 then false else bif k==25 then false else true)else true
def aFG(t k:Nat):Bool:=bif t==110 then(bif k==24 then true else bif k==11 then true else bif k==34 then true else bif k==25 then true else false)else bif t==35 then(bif k==46 then true else bif k==9 then true else false)else bif t==23 then(bif k==100 then true else false)else false
def aFH(b:Nat):Option IntKind:=if b=1 then some .u8 else none
def azS(b o:Nat):Option Int:=if b=1 then aCJ o else none
def ako(t:Nat):Bool:=t==141
def Pd:Nat:=5
def aFI {o:Nat}{n:Int}(h:aFH b=some k)(h2:azS b o=some n):aFE b o/\∀v,aFF b o v->v=.int k n:=by
 unfold aFH at h;split at h
 ·rename_i hb;cases h;unfold azS at h2;rw[if_pos hb]at h2;unfold aCJ at h2;split at h2
  ·rename_i ho;cases h2;exact⟨.inr ⟨hb,ho⟩,fun v hv=>hv.2 hb⟩
  ·cases h2
 ·cases h
def aKJ(b:Nat):Prop:=b=3
def aCK:Array aPr:=((List.range 20).map fun i=>Value.int .u64 ((10 ^ i:Nat):Int)).toArray
structure auK(w:aPs)(M:Nat->Nat->Prop):Prop where
 cell:∀b o,aFE b o->∃v,w.cell? ⟨b,o,none⟩=some v/\aFF b o v/\ ¬ M b o
 row:∀b,aKJ b->(∀o,¬ M b o)/\∃t fz,w.heap[b]? =some (.cells aCK t fz)
inductive AV where
 |any
 |bool (b:Bool)
 |int (k:IntKind) (n:Int)
 |str (s:ByteArray)
 |uS (v:aPr)
 |agg (cs:List AV)
 |Mt (cs:List AV)
 |mj (tight:Bool) (sz:Nat) (rows:List (List AV))
 |nW (l n:Nat)
 |own (l off len cap sz:Nat)
 |ptr (l off:Nat)
 |map (l:Nat)
 |pp (cs:List AV)
 |func (fn:Fn) (first captured:List AV)
 |iface (t:aPv) (x:AV)
 |sn (t:aPv) (l:Nat)
variable {x y:AV}{es:List (AV×AV)}{df:List (aPt×List AV)}{rows ys:List (List AV)}{args cs z:List AV}
instance:Inhabited AV:=⟨.any⟩
structure HI where
 w:aPs
 mu:Nat->Nat->Prop
 U:Nat->aPr
 ln:Nat->Option Nat
 n:Nat
variable {E E':HI}
def hdl:aPr->Option Nat
 |.map r=>r
 |.func (.yield r) _ _=>some r
 |_=>none
mutual
def rD(E:HI):AV->aPr->Prop
 |.any,_=>True
 |.bool b,v=>v=.bool b
 |.int k n,v=>v=.int k n
 |.str s,v=>v=.string s
 |.uS u,v=>v=u
 |.agg cs,v=>∃vs:Array aPr,v=.agg vs/\l9 E cs vs.toList
 |.Mt cs,v=>∃vs:Array aPr,v=.tuple vs/\l9 E cs vs.toList
 |.mj t sz rows,v=>∃base cap,v=.slice base rows.length cap/\rows.length<=cap/\(t=true->cap=rows.length)/\(base=none->cap=0)/\
     (∀a,base=some a->(rows≠[]->a.spot=none))/\(∀a,base=some a->qI E sz a.block a.off rows)
 |.nW l n,v=>l<E.n/\(∃b m c,v=.slice b m c)/\∀k,E.ln l=some k->n<=k/\(n=k->v=E.U l)
 |.own l i n o sz,v=>l<E.n/\(∃a,v=.pointer (some a))/\∀k,E.ln l=some k->n<=k/\(n=k->∃b off m c,E.U l=.slice (some ⟨b,off,none⟩) m c/\v=.pointer (some ⟨b,off+i*sz+o,none⟩))
 |.ptr l off,v=>l<E.n/\∃b,E.U l=.pointer (some ⟨b,0,none⟩)/\v=.pointer (some ⟨b,off,none⟩)
 |.map l,v=>l<E.n/\v=E.U l/\∃r,hdl (E.U l)=some r
 |.pp cs,v=>∃b off,v=.pointer (some ⟨b,off,none⟩)/\q5 E b off cs
 |.func fn f c,v=>∃f' c':Array aPr,v=.func fn f' c'/\l9 E f f'.toList/\l9 E c c'.toList
 |.iface t x,v=>∃u,v=.iface t u/\rD E x u
 |.sn t l,v=>l<E.n/\∃b,E.U l=.pointer (some ⟨b,0,none⟩)/\(v=.pointer none\/v=.pointer (some ⟨b,0,none⟩))/\∃c fz,E.w.heap[b]? =some (.cells c t fz)
def l9(E:HI):List AV->List aPr->Prop
 |[],vs=>vs=[]
 |c::cs,vs=>∃u us,vs=u::us/\rD E c u/\l9 E cs us
def q5(E:HI)(b off:Nat):List AV->Prop
 |[]=>True
 |c::cs=>(¬ E.mu b off/\∃u,E.w.cell? ⟨b,off,none⟩=some u/\u.oneCell'=true/\rD E c u)/\q5 E b (off+1) cs
def qI(E:HI)(sz b off:Nat):List (List AV)->Prop
 |[]=>True
 |r::rs=>r.length=sz/\q5 E b off r/\qI E sz b (off+sz) rs
end
def tyk(w w':aPs):Prop:=∀(b:Nat)(c:Array aPr)(t:aPv)(fz:Nat×Nat),w.heap[b]? =some (Obj.cells c t fz)->∃(c':Array aPr)(fz':Nat×Nat),w'.heap[b]? =some (Obj.cells c' t fz')
def GD(w:aPs):tyk w w:=fun _ c _ fz h=>⟨c,fz,h⟩
def tyk.trans {w w'':aPs}(h:tyk w w')(k:tyk w' w''):tyk w w'':=fun b c t fz hc=>by
 obtain⟨c',fz',h'⟩:=h b c t fz hc;exact k b c' t fz' h'
def aoY {w:aPs}(h:∀b,b<w.heap.size->w'.heap[b]? =w.heap[b]?):tyk w w':=fun b c t fz hc=>by
 refine⟨c,fz,?_⟩
 rw[h b (by
  rcases Nat.lt_or_ge b w.heap.size with h'|h'
  ·exact h'
  ·simp [Array.getElem?_eq_none h']at hc)]
 exact hc
def akp{w w1:aPs}(o:Obj)(h:w1.heap=w.heap.push o):tyk w w1:=aoY fun b hb=>by
 rw[h,Array.getElem?_push,if_neg (by omega)]
def as2 {w:aPs}{D:Nat}{o:Obj}(hD:w.heap[D]? =some o)(ho:∀c t fz,o≠ .cells c t fz)(h:∀b,b≠D->w'.heap[b]? =w.heap[b]?):tyk w w':=fun b c t fz hc=>by
 refine⟨c,fz,?_⟩;rw[h b (fun e=>by subst e;rw[hD]at hc;exact ho c t fz (cc hc))];exact hc
structure HI.Le(N:Nat)(E E':HI):Prop where
 n:N<=E'.n
 mZ:∀l,l<N->(E'.U l=E.U l/\(E'.ln l=E.ln l\/E'.ln l=none))\/
  ((∃k,E.ln l=some k/\∀k',E'.ln l=some k'->k<k')/\(∀a,E.U l≠ .pointer a)/\hdl (E.U l)=none)
 mem:∀b o u,¬ E.mu b o->E.w.cell? ⟨b,o,none⟩=some u-> ¬ E'.mu b o/\E'.w.cell? ⟨b,o,none⟩=some u
 ty:tyk E.w E'.w
mutual
def AV.nb(N:Nat):AV->Prop
 |.agg cs|.Mt cs|.pp cs=>yg N cs
 |.mj _ _ rows=>Pe N rows
 |.nW l _|.own l _ _ _ _|.ptr l _|.map l|.sn _ l=>l<N
 |.func _ f c=>yg N f/\yg N c
 |.iface _ x=>x.nb N
 |.any|.bool _|.int _ _|.str _|.uS _=>True
def yg(N:Nat):List AV->Prop
 |[]=>True
 |c::cs=>c.nb N/\yg N cs
def Pe(N:Nat):List (List AV)->Prop
 |[]=>True
 |r::rs=>yg N r/\Pe N rs
end
section
variable {N:Nat}
mutual
def rD.mono(h:E.Le N E'):∀(x:AV)(v:aPr),x.nb N->rD E x v->rD E' x v
 |.any,_,_,_=>trivial
 |.bool _,_,_,r=>r
 |.int _ _,_,_,r=>r
 |.str _,_,_,r=>r
 |.uS _,_,_,r=>r
 |.agg cs,_,hb,⟨vs,hv,hr⟩=>⟨vs,hv,l9.mono h cs _ hb hr⟩
 |.Mt cs,_,hb,⟨vs,hv,hr⟩=>⟨vs,hv,l9.mono h cs _ hb hr⟩
 |.mj _ _ rows,_,hb,⟨base,cap,h1,h2,h3,h4,h5,h6⟩=>⟨base,cap,h1,h2,h3,h4,h5,fun a ha=>qI.mono h rows _ hb (h6 a ha)⟩
 | .nW l n,v,hb,⟨_,hsl,r⟩=>by
   refine⟨aa hb h.n,hsl,fun k' RV=>?_⟩;rcases h.mZ l hb with⟨hφ,hl|hl⟩|⟨⟨k,hk,q9⟩,_⟩
   ·rw[hl]at RV;rw[hφ];exact r k' RV
   ·rw[hl]at RV;cases RV
   ·have:=q9 k' RV;have:=r k hk;exact⟨by omega,fun e=>by omega⟩
 | .own l i n o sz,v,hb,⟨_,hsl,r⟩=>by
   refine⟨aa hb h.n,hsl,fun k' RV=>?_⟩;rcases h.mZ l hb with⟨hφ,hl|hl⟩|⟨⟨k,hk,q9⟩,_⟩
   ·rw[hl]at RV;rw[hφ];exact r k' RV
   ·rw[hl]at RV;cases RV
   ·have:=q9 k' RV;have:=r k hk;exact⟨by omega,fun e=>by omega⟩
 | .ptr l off,v,hb,⟨_,b,hφ,hv⟩=>by
   refine⟨aa hb h.n,b,?_,hv⟩;rcases h.mZ l hb with⟨h1,_⟩|⟨_,h2,_⟩
   ·rw[h1];exact hφ
   ·exact absurd hφ (h2 _)
 | .map l,v,hb,⟨_,hv,r,hφ⟩=>by
   refine⟨aa hb h.n,?_,r,?_⟩
   all_goals rcases h.mZ l hb with⟨h1,_⟩|⟨_,_,h2⟩
   ·rw[h1];exact hv
   ·rw[h2]at hφ;cases hφ
   ·rw[h1];exact hφ
   ·rw[h2]at hφ;cases hφ
 |.pp cs,_,hb,⟨b,off,hv,r⟩=>⟨b,off,hv,q5.mono h cs _ hb r⟩
 |.func _ f c,_,hb,⟨f',c',hv,r1,r2⟩=>⟨f',c',hv,l9.mono h f _ hb.1 r1,l9.mono h c _ hb.2 r2⟩
 |.iface _ x,_,hb,⟨u,hv,r⟩=>⟨u,hv,rD.mono h x _ hb r⟩
 | .sn t l,v,hb,⟨_,b,hφ,hv,c,fz,hc⟩=>by
   refine⟨aa hb h.n,b,?_,hv,h.ty b c t fz hc⟩;rcases h.mZ l hb with⟨h1,_⟩|⟨_,h2,_⟩
   ·rw[h1];exact hφ
   ·exact absurd hφ (h2 _)
def l9.mono(h:E.Le N E'):∀(cs:List AV)(vs:List aPr),yg N cs->l9 E cs vs->l9 E' cs vs
 |[],_,_,r=>r
 |c::cs,_,hb,⟨u,us,hv,r1,r2⟩=>⟨u,us,hv,rD.mono h c _ hb.1 r1,l9.mono h cs _ hb.2 r2⟩
def q5.mono(h:E.Le N E'){b:Nat}:∀(cs:List AV)(off:Nat),yg N cs->q5 E b off cs->q5 E' b off cs
 |[],_,_,_=>trivial
 |c::cs,off,hb,⟨⟨hm,u,hu,h1,r1⟩,r2⟩=>
  let ⟨m,c'⟩:=h.mem b off u hm hu
  ⟨⟨m,u,c',h1,rD.mono h c _ hb.1 r1⟩,q5.mono h cs _ hb.2 r2⟩
def qI.mono(h:E.Le N E'){sz b:Nat}:∀(rs:List (List AV))(off:Nat),Pe N rs->qI E sz b off rs->qI E' sz b off rs
 |[],_,_,_=>trivial
 |r::rs,off,hb,⟨hl,r1,r2⟩=>⟨hl,q5.mono h r _ hb.1 r1,qI.mono h rs _ hb.2 r2⟩
end
mutual
theorem rD.nb:∀(x:AV)(v:aPr),rD E x v->x.nb E.n
 |.any,_,_|.bool _,_,_|.int _ _,_,_|.str _,_,_|.uS _,_,_=>trivial
 |.agg cs,_,⟨_,_,hr⟩=>l9.nb cs _ hr
 |.Mt cs,_,⟨_,_,hr⟩=>l9.nb cs _ hr
 | .mj _ _ rows,_,⟨base,cap,h1,h2,h3,h4,h5,h6⟩=>by
   cases base with
   |none=>
    have:rows.length=0:=by have:=h4 rfl;omega
    have:rows=[]:=af this;subst this;trivial
   |some a=>exact qI.nb rows _ (h6 a rfl)
 |.nW _ _,_,⟨h,_⟩=>h
 |.own _ _ _ _ _,_,⟨h,_⟩=>h
 |.ptr _ _,_,⟨h,_⟩=>h
 |.map _,_,⟨h,_⟩=>h
 |.pp cs,_,⟨_,_,_,r⟩=>q5.nb cs _ r
 |.func _ f c,_,⟨_,_,_,r1,r2⟩=>⟨l9.nb f _ r1,l9.nb c _ r2⟩
 |.iface _ x,_,⟨_,_,r⟩=>rD.nb x _ r
 |.sn _ _,_,⟨h,_⟩=>h
theorem l9.nb:∀(cs:List AV)(vs:List aPr),l9 E cs vs->yg E.n cs
 |[],_,_=>trivial
 |c::cs,_,⟨_,_,_,r1,r2⟩=>⟨rD.nb c _ r1,l9.nb cs _ r2⟩
theorem q5.nb{b:Nat}:∀(cs:List AV)(off:Nat),q5 E b off cs->yg E.n cs
 |[],_,_=>trivial
 |c::cs,_,⟨⟨_,_,_,_,r1⟩,r2⟩=>⟨rD.nb c _ r1,q5.nb cs _ r2⟩
theorem qI.nb{sz b:Nat}:∀(rs:List (List AV))(off:Nat),qI E sz b off rs->Pe E.n rs
 |[],_,_=>trivial
 |r::rs,_,⟨_,r1,r2⟩=>⟨q5.nb r _ r1,qI.nb rs _ r2⟩
end
mutual
def AV.am4{M:Nat}(h:N<=M):∀x:AV,x.nb N->x.nb M
 |.any,_|.bool _,_|.int _ _,_|.str _,_|.uS _,_=>trivial
 |.agg cs,r=>uT h cs r
 |.Mt cs,r=>uT h cs r
 |.pp cs,r=>uT h cs r
 |.mj _ _ rows,r=>as3 h rows r
 |.nW _ _,r=>aa r h
 |.own _ _ _ _ _,r=>aa r h
 |.ptr _ _,r=>aa r h
 |.map _,r=>aa r h
 |.func _ f c,r=>⟨uT h f r.1,uT h c r.2⟩
 |.iface _ x,r=>AV.am4 h x r
 |.sn _ _,r=>aa r h
def uT{M:Nat}(h:N<=M):∀cs:List AV,yg N cs->yg M cs
 |[],_=>trivial
 |c::cs,r=>⟨AV.am4 h c r.1,uT h cs r.2⟩
def as3{M:Nat}(h:N<=M):∀rs:List (List AV),Pe N rs->Pe M rs
 |[],_=>trivial
 |r::rs,q=>⟨uT h r q.1,as3 h rs q.2⟩
end
end
section lists

theorem l9.length:∀{cs:List AV}{vs:List aPr},l9 E cs vs->vs.length=cs.length
 |[],_,rfl=>rfl
 |_::_,_,⟨_,_,rfl,_,r2⟩=>by simp [l9.length r2]
def l9.get:∀{cs:List AV}{vs:List aPr}{i:Nat}{c:AV},l9 E cs vs->cs[i]? =some c->∃v,vs[i]? =some v/\rD E c v
 |c::cs,_,0,_,⟨u,us,rfl,r1,r2⟩,h=>by
  simp at h;subst h;exact⟨u,by simp,r1⟩
 |c::cs,_,i+1,_,⟨u,us,rfl,r1,r2⟩,h=>by
  simp at h;obtain⟨v,hv,r⟩:=l9.get r2 h;exact⟨v,by simpa using hv,r⟩
def l9.set:∀{cs:List AV}{vs:List aPr}{i:Nat}{c:AV}{v:aPr},l9 E cs vs->rD E c v->l9 E (cs.set i c) (vs.set i v)
 |[],_,_,_,_,rfl,_=>rfl
 |_::_,_,0,_,v,⟨_,us,rfl,_,r2⟩,r=>⟨v,us,rfl,r,r2⟩
 |_::_,_,i+1,_,v,⟨u,us,rfl,r1,r2⟩,r=>⟨u,us.set i v,rfl,r1,l9.set r2 r⟩
theorem l9.append:∀{cs ds:List AV}{vs us:List aPr},l9 E cs vs->l9 E ds us->l9 E (cs++ds) (vs++us)
 |[],_,_,_,rfl,r=>r
 |_::_,_,_,_,⟨u,us,rfl,r1,r2⟩,r=>⟨u,us++_,rfl,r1,l9.append r2 r⟩
theorem l9.take:∀{cs:List AV}{vs:List aPr}(k:Nat),l9 E cs vs->l9 E (cs.take k) (vs.take k)
 |[],_,_,rfl=>by simp [l9]
 |_::_,_,0,_=>by simp [l9]
 |_::_,_,k+1,⟨u,us,rfl,r1,r2⟩=>⟨u,us.take k,by simp,r1,l9.take k r2⟩
theorem l9.drop:∀{cs:List AV}{vs:List aPr}(k:Nat),l9 E cs vs->l9 E (cs.drop k) (vs.drop k)
 |[],_,_,rfl=>by simp [l9]
 |_::_,_,0,h=>by simpa using h
 |_::_,_,k+1,⟨u,us,rfl,r1,r2⟩=>by simpa using l9.drop k r2
def l9.JR:∀(vs:List aPr),l9 E (an vs.length .any) vs
 |[]=>rfl
 |v::vs=>⟨v,vs,rfl,trivial,l9.JR vs⟩
theorem q5.drop:∀{cs:List AV}{off:Nat}(k:Nat),q5 E b off cs->q5 E b (off+k) (cs.drop k)
 |[],_,_,_=>by simp [q5]
 |_::_,_,0,h=>by simpa using h
 |_::_,off,k+1,⟨_,r⟩=>by
  have:=q5.drop k r
  grind
def qI.get {sz:Nat}:∀{rs:List (List AV)}{off i:Nat}{r:List AV},qI E sz b off rs->rs[i]? =some r->
 r.length=sz/\q5 E b (off+i*sz) r
 |_::_,off,0,_,⟨hl,m,_⟩,h=>by grind
 |_::_,off,i+1,_,⟨_,_,r⟩,h=>by
  simp at h;obtain⟨h1,h2⟩:=qI.get r h
  grind
theorem qI.drop {sz:Nat}:∀{rs:List (List AV)}{off:Nat}(k:Nat),k<=rs.length->qI E sz b off rs->qI E sz b (off+k*sz) (rs.drop k)
 |[],_,_,_,_=>by simp [qI]
 |_::_,_,0,_,h=>by simpa using h
 |_::_,off,k+1,hk,⟨_,_,r⟩=>by
  have:=qI.drop k (by simpa using hk) r
  grind
theorem qI.take {sz:Nat}:∀{rs:List (List AV)}{off:Nat}(k:Nat),qI E sz b off rs->qI E sz b off (rs.take k)
 |[],_,_,_=>by simp [qI]
 |_::_,_,0,_=>by simp [qI]
 |_::_,_,k+1,⟨h1,h2,r⟩=>⟨h1,h2,qI.take k r⟩
theorem q5.append:∀{cs ds:List AV}{off:Nat},q5 E b off cs->q5 E b (off+cs.length) ds->q5 E b off (cs++ds)
 |[],_,_,_,h=>by simpa using h
 |c::cs,_,off,⟨h1,h3⟩,h=>by
  refine⟨h1,q5.append h3 ?_⟩
  grind
end lists
structure Bz where
 ps:Array Tmp
 assign:Code
 body:Code
 js:List (Int×Code)
def auL:List (Int×Code)->Int->Option Code
 |[],_=>none
 |(k,c)::cs,j=>match cs with
  |[]=>some c
  |_::_=>bif j==k then some c else auL cs j
def sG(js:List (Int×Code))(j:Int):Option Code:=bif j==0 then none else auL js j
inductive lw where
 |cells (cs:List AV)
 |nW (wT:Bool) (sz:Nat) (rows:List (List AV))
 |map (es:List (AV×AV))
 |loop (k:Bz) (lE:List AV) (st:LoopState) (xE:Int)
 |iter (s:ByteArray) (pos:Nat)
 |L8 (s:ByteArray)
 |zU
variable {H H':List lw}
structure k9 where
 lE:List AV
 heap:List lw
 low:Nat:=0
 df:List (aPt×List AV):=[]
variable {J:k9}
def Pf:aPr->AV
 |.int k n=>.int k n
 |.bool b=>.bool b
 |.string s=>.str s
 |.slice none 0 0=>.mj true 0 []
 |v=>.uS v
def k9.ev(J:k9):aPq->AV
 |.tmp t=>J.lE.getD t .any
 |.const v=>Pf v
 |.global g=>.uS (.pointer (some ⟨g,0,none⟩))
 |.func f=>.func (.func f) [] []
def k9.put(J:k9)(dst:Option Tmp)(x:AV):k9:=
 match dst with
 |some d=>{J with lE:=J.lE.set d x}
 |none=>J
def lw.Ew:lw->aPr->Nat->Nat->Prop
 |.cells _,.pointer (some a),b,_=>b=a.block
 |.nW wT sz _,.slice (some a) n cap,b,o=>(b=a.block/\cap≠0)/\(wT=true->a.off+n*sz<=o)
 |.map _,.map (some r),b,_=>b=r
 |.loop _ _ _ _,.func (.yield r) _ _,b,_=>b=r\/b+1=r
 |.iter _ _,.pointer (some a),b,_=>b=a.block
 |.L8 _,h,b,_=>h.ownBlock=some b
 |_,_,_,_=>False
def lw.block:lw->aPr->Nat->Prop
 |.cells _,.pointer (some a),b=>b=a.block
 |.nW _ _ _,.slice (some a) _ cap,b=>b=a.block/\cap≠0
 |.map _,.map (some r),b=>b=r
 |.loop _ _ _ _,.func (.yield r) _ _,b=>b=r\/b+1=r
 |.iter _ _,.pointer (some a),b=>b=a.block
 |.L8 _,h,b=>h.ownBlock=some b
 |_,_,_=>False
theorem lw.qL{x:lw}{o:Nat}(m:x.Ew h b o):x.block h b:=by
 unfold lw.Ew at m;grind [lw.block]
def KR(U:Nat->aPr)(H:List lw)(b o:Nat):Prop:=∃(l:Nat)(x:lw),H[l]? =some x/\x.Ew (U l) b o
def oO:Option lw->Option Nat
 |some (.nW _ _ rows)=>some rows.length
 |some (.L8 s)=>some s.size
 |_=>none
def World.more(w:aPs)(o:Obj):aPs:={w with heap:=w.heap.push o}
def aoZ{w w1:aPs}{o:Obj}(h:w1.heap=w.heap):tyk w (World.more w1 o):=akp o (by show w1.heap.push o=_;rw[h])
def aoL(w:aPs)(b:Nat)(c':Array aPr):tyk w (w.setRow b c'):=fun b' c t fz hc=>by
 by_cases e:b'=b
 ·subst e;exact⟨c',fz,setRow_heap w b' c c' t fz hc⟩
 ·exact⟨c,fz,by rw[setRow_other w b b' c' e];exact hc⟩
def ada {w:aPs}{base e sz:Nat}(h:w.ownsRowF base e sz v n xs)(hs:∀b,v.ownBlock=some b->w'.heap[b]? =w.heap[b]?):w'.ownsRowF base e sz v n xs:=by
 refine⟨h.1,?_⟩;rcases h.2 with hn|⟨g,cap,cur,fz,rfl,hb,hg,rest⟩
 ·exact .inl hn
 ·exact .inr ⟨g,cap,cur,fz,rfl,hb,by rw[hs g rfl];exact hg,rest⟩
structure tC where
 P:aPu
 w0:aPs
 M0:Nat->Nat->Prop
 A:Nat->Nat->Prop
 hA:∀b o,A b o->b<w0.heap.size
 hk:auK w0 M0
 N0:Nat:=0
 U0:Nat->aPr:=fun _=>.tuple #[]
 ln0:Nat->Option Nat:=fun _=>none
variable {C:tC}
def tC.env(C:tC)(U:Nat->aPr)(H:List lw)(w:aPs):HI:=
 {w,mu:=fun b o=>KR U H b o\/C.A b o,U,ln:=fun l=>oO H[l]?,n:=H.length}
def uv(E:HI):List (AV×AV)->List MapEntry->Prop
 |[],es=>es=[]
 |(k,v)::r,es=>∃e s,es=e::s/\rD E k e.key/\rD E v e.val/\uv E r s
def qV(E:HI):lw->aPr->Prop
 |.cells cs,h=>∃b c t,h=.pointer (some ⟨b,0,none⟩)/\E.w.heap[b]? =some (.cells c t (0,0))/\l9 E cs c.toList/\∀u∈c.toList,u.oneCell'=true
 |.nW _ sz rows,h=>∃base cap,h=.slice base rows.length cap/\rows.length<=cap/\(base=none->cap=0)/\(∀r∈rows,r.length=sz)/\
     ∀a,base=some a->cap≠0->a.spot=none/\∃c t,E.w.heap[a.block]? =some (.cells c t (0,0))/\a.off+cap*sz<=c.size/\
      l9 E rows.flatten ((c.toList.drop a.off).take (rows.length*sz))/\∀u∈(c.toList.drop a.off).take (rows.length*sz),u.oneCell'=true
 |.map es,h=>∃r entries clock,h=.map (some r)/\E.w.heap[r]? =some (.map entries clock)/\uv E es entries.toList
 |.loop k lE st xE,h=>∃D rec,h=.func (.yield (D+1)) #[] #[]/\E.w.heap[D+1]? =some (.loop rec)/\E.w.heap[D]? =some (.deferred (some []))/\
     (rec.params=k.ps/\rec.assign=k.assign/\rec.body=k.body/\rec.state=st/\rec.pending=sG k.js xE/\rec.defers=D)/\l9 E lE rec.tmps.toList
 |.iter s p,h=>∃b,h=.pointer (some ⟨b,0,none⟩)/\E.w.heap[b]? =some (.stringIter s p)
 |.L8 s,h=>E.w.ownsRowF 0 Pd 1 h s.size (aO s)
 |.zU,_=>True
def aFJ(C:tC)(U:Nat->aPr)(H:List lw):Prop:=∀l,l<C.N0->(U l=C.U0 l/\(oO H[l]? =C.ln0 l\/oO H[l]? =none))\/
 ((∃k,C.ln0 l=some k/\∀k',oO H[l]? =some k'->k<k')/\(∀a,C.U0 l≠ .pointer a)/\hdl (C.U0 l)=none)
def akq(d:Deferred):Bool:=match d.target with
 |.collected _=>true
 |_=>false
def SQ(E:HI):List (aPt×List AV)->List Deferred->Prop
 |[],ds=>ds=[]
 |(f,xs)::r,ds=>∃d s cap,ds=d::s/\d.target=.fn (.func f) cap/\l9 E xs (d.args++cap).toList/\SQ E r s
def SQ.imp(h:∀(xs:List AV)(vs:List aPr),l9 E xs vs->l9 E' xs vs):∀{df:List (aPt×List AV)}{ds:List Deferred},SQ E df ds->SQ E' df ds
 |[],_,r=>r
 |_::_,_,⟨d,s,cap,h1,h2,h3,h4⟩=>⟨d,s,cap,h1,h2,h _ _ h3,SQ.imp h h4⟩
def SQ.mono(h:E.Le E.n E')(r:SQ E df ds):SQ E' df ds:=
 r.imp fun _ _ r=>l9.mono h _ _ (l9.nb _ _ r) r
theorem SQ.nb:∀{df:List (aPt×List AV)}{ds:List Deferred},SQ E df ds->∀p∈df,yg E.n p.2
 |[],_,_,_,h=>by cases h
 |q::r,_,⟨_,_,_,_,_,h3,h4⟩,p,hp=>by
  rcases be.1 hp with rfl|hp
  ·exact l9.nb _ _ h3
  ·exact SQ.nb h4 p hp
def vW(C:tC)(U:Nat->aPr)(H:List lw)(w:aPs)(df:List (aPt×List AV))(ds:List Deferred):Prop:=
 (ds.filter akq).Nodup/\(∀d∈ds,akq d=true->∃D,d=⟨.collected D,#[]⟩/\w.heap[D]? =some (.deferred (some []))/\C.w0.heap.size<=D/\∀(l:Nat)(x:lw),H[l]? =some x-> ¬ x.block (U l) D)/\
   SQ (C.env U H w) df (ds.filter fun d=> !akq d)
theorem vW.nil{C:tC}{U:Nat->aPr}{H:List lw}{w:aPs}:vW C U H w [] []:=⟨List.nodup_nil,fun _ h _=>(by cases h),rfl⟩
def vW.auM {w:aPs}(h:vW C U H w df ds)
 (hr:∀(xs:List AV)(vs:List aPr),(∃f,(f,xs)∈df)->l9 (C.env U H w) xs vs->l9 (C.env U' H' w') xs vs)
 (MK:∀b,b<w.heap.size->(∀(l:Nat)(x:lw),H[l]? =some x-> ¬ x.block (U l) b)->w'.heap[b]? =w.heap[b]?)
 (Mu:∀(l:Nat)(x:lw)(b:Nat),H'[l]? =some x->x.block (U' l) b->(∃(k:Nat)(y:lw),H[k]? =some y/\y.block (U k) b)\/w.heap.size<=b):vW C U' H' w' df ds:=by
 refine⟨h.1,fun d hd hm=>?_,?_⟩
 ·obtain⟨D,h1,h2,h3,h4⟩:=h.2.1 d hd hm
  grind
 ·have key:∀(df':List (aPt×List AV))(ds':List Deferred),(∀p∈df',p∈df)->SQ (C.env U H w) df' ds'->SQ (C.env U' H' w') df' ds':=by
   intro df';induction df' with
   |nil=>intro _ _ r;exact r
   |cons p r ih=>
    intro ds' hp ⟨d,s,cap,h1,h2,h3,h4⟩;exact⟨d,s,cap,h1,h2,hr _ _ ⟨p.1,hp p (List.mem_cons_self ..)⟩ h3,ih _ (fun q hq=>hp q (bQ _ hq)) h4⟩
  exact key df _ (fun _ h=>h) h.2.2
theorem vW.step {w:aPs}(h:vW C U H w df ds)(le:(C.env U H w).Le H.length (C.env U' H' w'))
 (MK:∀b,b<w.heap.size->(∀(l:Nat)(x:lw),H[l]? =some x-> ¬ x.block (U l) b)->w'.heap[b]? =w.heap[b]?)
 (Mu:∀(l:Nat)(x:lw)(b:Nat),H'[l]? =some x->x.block (U' l) b->(∃(k:Nat)(y:lw),H[k]? =some y/\y.block (U k) b)\/w.heap.size<=b):vW C U' H' w' df ds:=
 h.auM (fun xs vs _ r=>l9.mono le _ _ (l9.nb _ _ r) r) MK Mu
theorem vW.same {w:aPs}(h:vW C U H w df ds)(le:(C.env U H w).Le H.length (C.env U H w'))(MK:∀b,b<w.heap.size->w'.heap[b]? =w.heap[b]?):vW C U H w' df ds:=
 h.step le (fun b hb _=>MK b hb) (fun l x b hx hb=>.inl ⟨l,x,hx,hb⟩)
structure pW(C:tC)(U:Nat->aPr)(J:k9)(a:Act)(w:aPs):Prop where
 lE:l9 (C.env U J.heap w) J.lE a.tmps.toList
 defers:vW C U J.heap w J.df a.defers
 qJ:∀(l:Nat)(x:lw),J.heap[l]? =some x->qV (C.env U J.heap w) x (U l)
 apart:∀(l l':Nat)(x x':lw)(b:Nat),J.heap[l]? =some x->J.heap[l']? =some x'->x.block (U l) b->x'.block (U l') b->l=l'
 wZ:∀(l:Nat)(x:lw)(b o:Nat),J.heap[l]? =some x->x.block (U l) b-> ¬ C.A b o
 size:C.w0.heap.size<=w.heap.size
 old:∀b o,b<C.w0.heap.size-> ¬ C.M0 b o->w.cell? ⟨b,o,none⟩=C.w0.cell? ⟨b,o,none⟩
 qE:∀b,b<C.w0.heap.size->(∀o,¬ C.M0 b o)->w.heap[b]? =C.w0.heap[b]?
 F2:∀(l:Nat)(x:lw)(b o:Nat),J.heap[l]? =some x->x.Ew (U l) b o->b<C.w0.heap.size->C.M0 b o
 AH:∀a,a.block<C.w0.heap.size->(∀o,¬ C.M0 a.block o)->w.frozen? a=C.w0.frozen? a
 rest:w.output=C.w0.output/\w.os=C.w0.os
 low:C.N0=J.low/\J.low<=J.heap.length
 mZ:aFJ C U J.heap
 ty:tyk C.w0 w:=by first|exact S.ty|exact S.ty.trans (by first|exact fun _ c _ fz h=>⟨c,fz,h⟩|exact aoZ rfl|exact aoL _ _ _|exact aoY (by assumption)|assumption)|exact S.ty.trans S'.ty|exact fun _ c _ fz h=>⟨c,fz,h⟩|(rw[h0];exact GD _)
section basics
variable {a:Act} {w:aPs}
def arQ(E:HI)(v:aPr):rD E (Pf v) v:=by
 unfold Pf;split
 ·rfl
 ·rfl
 ·rfl
 ·exact⟨none,0,rfl,aC _,fun _=>rfl,fun _=>rfl,(by intro a h;cases h),(by intro a h;cases h)⟩
 ·rfl
theorem pW.ev(S:pW C U J a w)(x:aPq):rD (C.env U J.heap w) (J.ev x) (a.eval x):=by
 cases x with
 |tmp t=>
  simp only[k9.ev,Act.eval,List.getD];cases h:J.lE[t]? with
  |none=>exact trivial
  |some c=>
   obtain⟨v,hv,r⟩:=S.lE.get h
   simp_all
 |const v=>exact arQ _ v
 |global g=>rfl
 |func f=>exact⟨#[],#[],rfl,rfl,rfl⟩
theorem pW.put(S:pW C U J a w)(dst:Option Tmp)(r:rD (C.env U J.heap w) x v):pW C U (J.put dst x) (a.put dst v) w:=by
 cases dst with
 |none=>exact S
 |some d=>
  refine {S with lE:=?_,defers:=S.defers};have:=S.lE.set (i:=d) r
  grind [k9.put,Act.put]
def tC.GF(hn:H.length<=H'.length)
 (hφ:∀l,l<H.length->U' l=U l/\oO H'[l]? =oO H[l]?)
 (aFK:∀b o u,¬ (KR U H b o\/C.A b o)->w.cell? ⟨b,o,none⟩=some u-> ¬ (KR U' H' b o\/C.A b o)/\w'.cell? ⟨b,o,none⟩=some u) (ht:tyk w w':=by first|exact fun _ c _ fz h=>⟨c,fz,h⟩|exact aoZ rfl|exact aoL _ _ _|exact aoY (by assumption)|assumption):
 (C.env U H w).Le H.length (C.env U' H' w'):=
 ⟨hn,fun l hl=>.inl ⟨(hφ l hl).1,.inl (hφ l hl).2⟩,aFK,ht⟩
theorem Kk{w:aPs}{o:Nat}(h:w.cell? ⟨b,o,none⟩=some u):b<w.heap.size:=by
 grind [World.cell?]
def pW.know(S:pW C U J a w):auK w (KR U J.heap) where
 cell b o h:=by
  obtain⟨v,hc,hv,hm⟩:=C.hk.cell b o h;have hb:=Kk hc;refine⟨v,by rw[S.old b o hb hm];exact hc,hv,?_⟩;rintro⟨l,x,hx,hmu⟩;exact hm (S.F2 l x b o hx hmu hb)
 row b h:=by
  obtain⟨hm,t,fz,hc⟩:=C.hk.row b h;have hb:b<C.w0.heap.size:=(aM.1 hc).1;refine⟨?_,t,fz,by rw[S.qE b hb hm];exact hc⟩;rintro o ⟨l,x,hx,hmu⟩;exact hm o (S.F2 l x b o hx hmu hb)
@[simp] theorem aPa(w:aPs)(o:Obj):(World.more w o).heap.size=w.heap.size+1:=by simp [World.more]
theorem CL(w:aPs)(o:Obj)(h:b<w.heap.size):(World.more w o).heap[b]? =w.heap[b]? :=by
 grind [World.more]
theorem ML(w:aPs)(o:Obj):(World.more w o).heap[w.heap.size]? =some o:=by
 show(w.heap.push o)[w.heap.size]? =some o;simp
theorem JS(w:aPs)(o:Obj){i:Nat}(h:b<w.heap.size):(World.more w o).cell? ⟨b,i,none⟩=w.cell? ⟨b,i,none⟩:=by
 grind [World.cell?,CL]
theorem aqT(w:aPs)(c:Array aPr)(t:aPv)(i:Nat):(World.more w (.cells c t)).cell? ⟨w.heap.size,i,none⟩=c[i]? :=by
 grind [World.cell?,ML]
theorem AJ(w:aPs)(o:Obj)(ho:∀c t lo hi,o=.cells c t (lo,hi)->lo=0/\hi=0)(a:Addr):(World.more w o).frozen? a=w.frozen? a:=by
 grind [World.frozen?,World.more]
def qV.tT{x:lw}(r:qV E x h)(hb:x.block h b):b<E.w.heap.size:=by
 cases x with
 |cells cs=>
  obtain⟨b',c,t,rfl,hh,_⟩:=r
  grind [lw.block]
 |nW wT sz rows=>
  obtain⟨base,cap,rfl,_,_,_,hh⟩:=r;cases base with
  |none=>simp [lw.block]at hb
  |some a0=>
   grind [lw.block]
 |map es=>
  obtain⟨r',en,cl,rfl,hh,_⟩:=r
  grind [lw.block]
 |loop k lE st xE=>
  obtain⟨D,rec,rfl,h1,h2,_⟩:=r
  grind [lw.block]
 |iter s p=>
  obtain⟨b',rfl,hh⟩:=r
  grind [lw.block]
 |L8 s=>exact(World.ownsRowF.lt r b hb).2
 |zU=>simp [lw.block]at hb
def uv.mono{N:Nat}(h:E.Le N E'):∀{es:List (AV×AV)}{xs:List MapEntry},(∀p∈es,p.1.nb N/\p.2.nb N)->uv E es xs->uv E' es xs
 |[],_,_,r=>r
 |(k,v)::_,_,hb,⟨e,s,he,r1,r2,r3⟩=>
  ⟨e,s,he,rD.mono h k _ (hb (k,v) (by simp)).1 r1,rD.mono h v _ (hb (k,v) (by simp)).2 r2,uv.mono h (fun p hp=>hb p (by simp [hp])) r3⟩
theorem uv.nb:∀{es:List (AV×AV)}{xs:List MapEntry},uv E es xs->∀p∈es,p.1.nb E.n/\p.2.nb E.n
 |[],_,_=>by simp
 |(k,v)::_,_,⟨e,s,he,r1,r2,r3⟩=>by
  intro p hp;simp only[be]at hp;rcases hp with rfl|hp
  ·exact⟨rD.nb _ _ r1,rD.nb _ _ r2⟩
  ·exact uv.nb r3 p hp
def qV.mono{x:lw}{hd:aPr}(r:qV E x hd)(h:E.Le E.n E')(hs:∀b,x.block hd b->E'.w.heap[b]? =E.w.heap[b]?):qV E' x hd:=by
 cases x with
 |cells cs=>
  obtain⟨b,c,t,rfl,hh,rl,h1⟩:=r;exact⟨b,c,t,rfl,by rw[hs b rfl,hh],l9.mono h _ _ (l9.nb _ _ rl) rl,h1⟩
 |nW wT sz rows=>
  obtain⟨base,cap,rfl,h1,h2,h3,hh⟩:=r;refine⟨base,cap,rfl,h1,h2,h3,fun a0 ha hc=>?_⟩;obtain⟨h4,c,t,h5,h6,rl,h1⟩:=hh a0 ha hc;subst ha;exact⟨h4,c,t,by rw[hs _ ⟨rfl,hc⟩,h5],h6,l9.mono h _ _ (l9.nb _ _ rl) rl,h1⟩
 |map es=>
  obtain⟨r',en,cl,rfl,hh,rp⟩:=r;exact⟨r',en,cl,rfl,by rw[hs r' rfl,hh],uv.mono h (uv.nb rp) rp⟩
 |loop k lE st xE=>
  obtain⟨D,rec,rfl,h1,h2,h3,rl⟩:=r;exact⟨D,rec,rfl,by rw[hs (D+1) (.inl rfl),h1],by rw[hs D (.inr rfl),h2],h3,l9.mono h _ _ (l9.nb _ _ rl) rl⟩
 |iter s p=>
  obtain⟨b,rfl,hh⟩:=r;exact⟨b,rfl,by rw[hs b rfl,hh]⟩
 |L8 s=>exact ada r hs
 |zU=>trivial
theorem pW.more(S:pW C U J a w)(o:Obj)(ho:∀c t lo hi,o=.cells c t (lo,hi)->lo=0/\hi=0):pW C U J a (World.more w o):=by
 have le:(C.env U J.heap w).Le J.heap.length (C.env U J.heap (World.more w o)):=
  tC.GF (aC _) (fun _ _=>⟨rfl,rfl⟩) (fun b i u hm hc=>⟨hm,by grind [JS,Kk]⟩)
 refine {lE:=l9.mono le _ _ (l9.nb _ _ S.lE) S.lE,defers:=S.defers.same le (fun b hb=>CL w o hb),qJ:=?_,apart:=S.apart,wZ:=S.wZ,size:=?_,old:=?_,qE:=?_,F2:=S.F2,AH:=?_,rest:=S.rest,low:=S.low,mZ:=S.mZ}
 ·intro l x hx;have r:=S.qJ l x hx;exact qV.mono r le (fun b hb=>CL w o (r.tT hb))
 ·have:=S.size;simp;omega
 ·intro b i hb hm;rw[JS w o (aa hb S.size)];exact S.old b i hb hm
 ·intro b hb hm;rw[CL w o (aa hb S.size)];exact S.qE b hb hm
 ·intro x hx;rw[AJ w o ho];exact S.AH x hx
def pW.drew(S:pW C U J a w)(n:Nat):pW C U J a {w with drawn:=n}:=by
 have le:(C.env U J.heap w).Le J.heap.length (C.env U J.heap {w with drawn:=n}):=
  tC.GF (aC _) (fun _ _=>⟨rfl,rfl⟩) (fun b i u hm hc=>⟨hm,hc⟩)
 exact {lE:=l9.mono le _ _ (l9.nb _ _ S.lE) S.lE,defers:=S.defers.same le (fun _ _=>rfl),qJ:=fun l x hx=>qV.mono (S.qJ l x hx) le (fun _ _=>rfl),apart:=S.apart,wZ:=S.wZ,size:=S.size,old:=S.old,qE:=S.qE,F2:=S.F2,AH:=S.AH,rest:=S.rest,low:=S.low,mZ:=S.mZ}
def pW.aFL(_S:pW C U J a w)(o:Obj):(C.env U J.heap w).Le J.heap.length (C.env U J.heap (World.more w o)):=
 tC.GF (aC _) (fun _ _=>⟨rfl,rfl⟩) (fun b i u hm hc=>⟨hm,by grind [JS,Kk]⟩)
def auN(S:pW C U J a w)(hb:w.heap.size<=b)(o:Nat): ¬ (KR U J.heap b o\/C.A b o):=by
 rintro(⟨l,x,hx,hm⟩|hA)
 ·have:=(S.qJ l x hx).tT (lw.qL hm);simp only[tC.env]at this;omega
 ·have:=C.hA _ _ hA;have:=S.size;omega
def ao0(S:pW C U J a w)(c:Array aPr)(t:aPv)(h1: ∀u∈c.toList,u.oneCell'=true): ∀(cs:List AV)(off:Nat),l9 (C.env U J.heap w) cs ((c.toList.drop off).take cs.length)->
 q5 (C.env U J.heap (World.more w (.cells c t))) w.heap.size off cs
 |[],_,_=>trivial
 |x::cs,off,r=>by
  obtain⟨u,us,hu,r1,r2⟩:=r
  have hc:c[off]? =some u:=by
   have:(c.toList.drop off)[0]? =some u:=by
    have:=congrArg (fun l:List aPr=>l[0]?) hu;simpa using this
   simpa using this
  have htl:us=(c.toList.drop (off+1)).take cs.length:=by
   have h1:=congrArg List.tail hu;simp only[List.tail_cons]at h1;rw[<-h1];cases hd:c.toList.drop off with
   |nil=>rw[hd]at hu;simp at hu
   |cons y ys=>
    grind [bJ]
  refine⟨⟨auN S (aC _) _,u,by grind [tC.env,aqT],h1 u (bR (by simpa using hc)),rD.mono (S.aFL _) _ _ (rD.nb _ _ r1) r1⟩,ao0 S c t h1 cs (off+1) (by rw[<-htl];exact r2)⟩
theorem am5(S:pW C U J a w)(c:Array aPr)(t:aPv)(h1:∀u∈c.toList,u.oneCell'=true)(sz:Nat):∀(rs:List (List AV))(off:Nat),(∀r∈rs,r.length=sz)->l9 (C.env U J.heap w) rs.flatten ((c.toList.drop off).take (rs.length*sz))->
 qI (C.env U J.heap (World.more w (.cells c t))) sz w.heap.size off rs
 |[],_,_,_=>trivial
 |r::rs,off,hl,h=>by
  have hr:r.length=sz:=hl r (by simp);simp only[aF]at h;have h3:=l9.take r.length h;have h2:=l9.drop r.length h;simp only[bh,bi,bK,bb,aV]at h3 h2;refine⟨hr,ao0 S c t h1 r off ?_,am5 S c t h1 sz rs (off+sz) (fun q hq=>hl q (by simp [hq])) ?_⟩
  all_goals grind [aD]
def pW.aIp(S:pW C U J a w)(c:Array aPr)(t:aPv)(r:(C.env U J.heap w).Le J.heap.length (C.env (fun l=>if l=J.heap.length then .pointer (some ⟨w.heap.size,0,none⟩)else U l) (J.heap++[.cells cs]) (World.more w (.cells c t)))->l9 (C.env (fun l=>if l=J.heap.length then .pointer (some ⟨w.heap.size,0,none⟩)else U l) (J.heap++[.cells cs]) (World.more w (.cells c t))) cs c.toList)(h1:∀u∈c.toList,u.oneCell'=true):
 pW C (fun l=>if l=J.heap.length then .pointer (some ⟨w.heap.size,0,none⟩)else U l) {J with heap:=J.heap++[.cells cs]} a (World.more w (.cells c t))/\
 (C.env U J.heap w).Le J.heap.length (C.env (fun l=>if l=J.heap.length then .pointer (some ⟨w.heap.size,0,none⟩)else U l) (J.heap++[.cells cs]) (World.more w (.cells c t))):=by
 let U':Nat->aPr:=fun l=>if l=J.heap.length then .pointer (some ⟨w.heap.size,0,none⟩)else U l
 have hφ:∀l,l<J.heap.length->U' l=U l:=fun l hl=>by grind
 have qe:∀(l:Nat)(x:lw),(J.heap++[.cells cs])[l]? =some x->(l<J.heap.length/\J.heap[l]? =some x)\/(l=J.heap.length/\x=.cells cs):=by
  grind
 have QT:∀b o,KR U' (J.heap++[.cells cs]) b o->b=w.heap.size\/KR U J.heap b o:=by
  rintro b o ⟨l,x,hx,hm⟩;rcases qe l x hx with⟨hl,hx⟩|⟨rfl,rfl⟩
  ·rw[hφ l hl]at hm;exact .inr ⟨l,x,hx,hm⟩
  grind [lw.Ew]
 have le:(C.env U J.heap w).Le J.heap.length (C.env U' (J.heap++[.cells cs]) (World.more w (.cells c t))):=by
  refine tC.GF (by simp) (fun l hl=>⟨hφ l hl,by rw[aB hl]⟩) (fun b i u hm hc=>?_)
  grind [Kk,JS]
 have FE:vW C U' (J.heap++[.cells cs]) (World.more w (.cells c t)) J.df a.defers:=by
  refine S.defers.step le (fun b hb _=>CL w _ hb) (fun l x b hx hb=>?_)
  grind [lw.block]
 refine⟨{lE:=l9.mono le _ _ (l9.nb _ _ S.lE) S.lE,defers:=FE,qJ:=?_,apart:=?_,wZ:=?_,size:=?_,old:=?_,qE:=?_,F2:=?_,AH:=?_,rest:=S.rest,low:=⟨S.low.1,by have:=S.low.2;simp;omega⟩,mZ:=?_},le⟩
 ·intro l x hx;rcases qe l x hx with⟨hl,hx⟩|⟨rfl,rfl⟩
  ·have r0:=S.qJ l x hx;have:qV (C.env U' (J.heap++[.cells cs]) (World.more w (.cells c t))) x (U l):=qV.mono r0 le (fun b hb=>CL w _ (r0.tT hb))
   grind
  ·exact⟨w.heap.size,c,t,by simp,ML w _,r le,h1⟩
 ·intro l l' x x' b hx EC hb uD;rcases qe l x hx with⟨hl,hx⟩|⟨rfl,rfl⟩<;>rcases qe l' x' EC with⟨hl',EC⟩|⟨rfl,rfl⟩
  ·rw[show(if l=J.heap.length then _ else U l)=U l from hφ l hl]at hb;rw[show(if l'=J.heap.length then _ else U l')=U l' from hφ l' hl']at uD;exact S.apart l l' x x' b hx EC hb uD
  ·rw[show(if l=J.heap.length then _ else U l)=U l from hφ l hl]at hb;have:=(S.qJ l x hx).tT hb
   grind [lw.block,tC.env]
  ·rw[show(if l'=J.heap.length then _ else U l')=U l' from hφ l' hl']at uD;have:=(S.qJ l' x' EC).tT uD
   grind [lw.block,tC.env]
  ·rfl
 ·intro l x b o hx hb;rcases qe l x hx with⟨hl,hx⟩|⟨rfl,rfl⟩
  ·rw[show(if l=J.heap.length then _ else U l)=U l from hφ l hl]at hb;exact S.wZ l x b o hx hb
  ·simp only[kW,lw.block]at hb;intro hA;have:=C.hA _ _ hA;have:=S.size;omega
 ·have:=S.size;simp;omega
 ·intro b i hb hm;rw[JS w _ (aa hb S.size)];exact S.old b i hb hm
 ·intro b hb hm;rw[CL w _ (aa hb S.size)];exact S.qE b hb hm
 ·intro l x b o hx hm hb;rcases qe l x hx with⟨hl,hx⟩|⟨rfl,rfl⟩
  ·rw[show(if l=J.heap.length then _ else U l)=U l from hφ l hl]at hm;exact S.F2 l x b o hx hm hb
  ·simp only[kW,lw.Ew]at hm;have:=S.size;omega
 ·intro x hx;rw[AJ w _ (by grind)];exact S.AH x hx
 ·intro l hl;have q9:l<J.heap.length:=by have:=S.low;omega
  have:=S.mZ l hl
  grind
def pW.name(S:pW C U J a w)(c:Array aPr)(t:aPv)(r:l9 (C.env U J.heap w) cs c.toList)(h1:∀u∈c.toList,u.oneCell'=true):
 pW C (fun l=>if l=J.heap.length then .pointer (some ⟨w.heap.size,0,none⟩)else U l) {J with heap:=J.heap++[.cells cs]} a (World.more w (.cells c t))/\
 (C.env U J.heap w).Le J.heap.length (C.env (fun l=>if l=J.heap.length then .pointer (some ⟨w.heap.size,0,none⟩)else U l) (J.heap++[.cells cs]) (World.more w (.cells c t))):=
 S.aIp c t (fun le=>l9.mono le _ _ (l9.nb _ _ r) r) h1
end basics
structure yO where
 val:AV
 rd:List Nat:=[]
 up:List (Nat×lw):=[]
 nw:List lw:=[]
 pre:Prop:=True
 whole:Bool:=false
variable {ef:yO}
def pI:List lw->List (Nat×lw)->List lw
 |H,[]=>H
 |H,(l,x)::r=>pI (H.set l x) r
def k9.app(J:k9)(dst:Option Tmp)(e:yO):k9:=
 {J.put dst e.val with heap:=pI J.heap e.up++e.nw}
def o9(P:aPu)(t:aPv):Option (Bool×Nat):=
 match P.info? t with
 |none=>none
 |some i=>match P.underlying t with
  |some (.struct _)=>some (true,i.size)
  |some (.array _ _)=>some (true,i.size)
  |some _=>some (false,i.size)
  |none=>none
def ou(P:aPu)(t:aPv):Option (List AV):=
 match P.info? t with
 |none=>none
 |some i=>match i.zero with
  |some v=>if v.cells.toList.all Value.oneCell' then some (v.cells.toList.map Pf)else none
  |none=>none
def rC(P:aPu)(t:aPv)(i:Nat):Option (Nat×aPv):=
 match P.underlying t with
 |some (.struct fs)=>match fs[i]? with
  |some f=>match P.info? f.type with
   |some j=>if j.size=0 then none else some (f.offset,f.type)
   |none=>none
  |none=>none
 |_=>none
def nY(P:aPu)(t:aPv):Option (aPv×Nat×Nat):=
 match P.underlying t with
 |some (.slice e)=>match P.info? e with
  |some i=>some (e,i.size,i.bytes)
  |none=>none
 |_=>none
def aqU(P:aPu)(t:aPv):Option (Nat×Nat):=
 match P.underlying t with
 |some (.array n e)=>match P.info? e with
  |some i=>some (n,i.size)
  |none=>none
 |_=>none
def rV(P:aPu)(t:aPv):Bool:=
 match P.underlying t with
 |some .string=>true
 |_=>false
def ao1(P:aPu)(t:aPv):Option IntKind:=
 match P.underlying t with
 |some (.int k)=>some k
 |_=>none
def nL(P:aPu)(t:aPv):Bool:=
 match P.underlying t with
 |some (.int _)=>false
 |some _=>true
 |none=>false
def pY(P:aPu)(t:aPv):Bool:=
 match P.underlying t with
 |some (.interface _)=>false
 |some _=>true
 |none=>false
def AV.nT:AV->Bool
 |.any|.agg _|.Mt _|.sn _ _=>false
 |.uS v=>v.oneCell'
 |_=>true
def cellsOf:AV->Option (List AV)
 |.agg cs=>if cs.all AV.nT then some cs else none
 |x=>if x.nT then some [x] else none
def l3(g:Bool)(n:Nat)(cs:List AV):Option AV:=
 match g with
 |true=>if n<=cs.length then some (.agg (cs.take n))else none
 |false=>match cs with
  |c::_=>some c
  |[]=>none
def z1(cs:List AV)(off:Nat)(xs:List AV):List AV:=cs.take off++xs++cs.drop (off+xs.length)
def adb(place:Nat->Option (Nat×Nat))(cs:List AV):List (Nat×AV)->Option (List AV)
 |[]=>some cs
 |(i,x)::rest=>match place i,cellsOf x with
  |some (off,size),some xs=>if xs.length=size/\off+size<=cs.length then adb place (z1 cs off xs) rest else none
  |_,_=>none
def aOX(P:aPu)(t:aPv):Option (Nat->Option (Nat×Nat)):=
 match P.underlying t with
 |some (.array _ e)=>match P.info? e with
  |some ie=>some fun i=>some (i*ie.size,ie.size)
  |none=>none
 |some (.struct fields)=>match fields.toList.mapM (fun f=>(P.info? f.type).map fun i=>(f.offset,i.size))with
  |some places=>some fun i=>places.toArray[i]?
  |none=>none
 |_=>none
def ve(P:aPu)(t:aPv):Bool:=(aOX P t).isSome
def mi(P:aPu)(t:aPv)(i:Nat):Option (Nat×Nat):=
 match aOX P t with
 |some f=>f i
 |none=>none
def ade(sz:Nat)(rows:List (List AV)):List (Nat×AV)->Option (List (List AV))
 |[]=>some rows
 |(i,x)::rest=>match cellsOf x with
  |some xs=>if i<rows.length/\xs.length=sz then ade sz (rows.set i xs) rest else none
  |none=>none
def aCL(k:IntKind)(f:BitVec k.bits->BitVec k.bits->BitVec k.bits)(a b:Int):Int:=k.wrap (f (BitVec.ofInt k.bits a) (BitVec.ofInt k.bits b)).toNat
def akr(op:BinOp)(x y:AV):Option AV:=
 match x,y with
 | .int k a,.int k' b=>
   if k≠k' then none else
   match op with
   |.add=>some (.int k (k.wrap (a+b)))
   |.sub=>some (.int k (k.wrap (a-b)))
   |.mul=>some (.int k (k.wrap (a*b)))
   |.eql=>some (.bool (a==b))
   |.neq=>some (.bool (a !=b))
   |.lss=>some (.bool (decide (a<b)))
   |.leq=>some (.bool (decide (a<=b)))
   |.gtr=>some (.bool (decide (b<a)))
   |.geq=>some (.bool (decide (b<=a)))
   |.quo=>if b=0 then none else some (.int k (k.wrap (a.tdiv b)))
   |.rem=>if b=0 then none else some (.int k (a.tmod b))
   |.and=>some (.int k (aCL k (· &&& ·) a b))
   |.or=>some (.int k (aCL k (· ||| ·) a b))
   |.xor=>some (.int k (aCL k (· ^^^ ·) a b))
   |.andNot=>some (.int k (aCL k (fun x y=>x&&& ~~~y) a b))
   |_=>none
 | .str a,.str b=>
   match op with
   |.eql=>some (.bool (a.toList==b.toList))
   |.neq=>some (.bool (!(a.toList==b.toList)))
   |.add=>if a.size+b.size<=9223372036854775807 then some (.str (a++b))else none
   |.lss=>some (.bool (bZ a.toList b.toList))
   |.leq=>some (.bool (bZ a.toList b.toList||a.toList==b.toList))
   |.gtr=>some (.bool (!(bZ a.toList b.toList||a.toList==b.toList)))
   |.geq=>some (.bool (!bZ a.toList b.toList))
   |_=>none
 |_,_=>none
def eq1:AV->AV->Bool
 |.int _ a,.int _ b=>a==b
 |.str a,.str b=>a.toList==b.toList
 |.bool a,.bool b=>a==b
 |_,_=>false
def eqB:List AV->List AV->Bool
 |[],[]=>true
 |x::xs,y::ys=>eq1 x y&&eqB xs ys
 |_,_=>false
def azT(P:aPu)(t:aPv)(cs ds:List AV):Prop:=
 ∀ (E:HI) (vs us:Array aPr) (w:aPs) (x y:aPq),l9 E cs vs.toList->l9 E ds us.toList->
   (do eqGuard .eql t x y (.agg vs) (.agg us);binOp .eql t (.agg vs) (.agg us):Sem aPr).run P w=.ok (.bool (eqB cs ds)) w/\
   (do eqGuard .neq t x y (.agg vs) (.agg us);binOp .neq t (.agg vs) (.agg us):Sem aPr).run P w=.ok (.bool (!eqB cs ds)) w
def tbl(P:aPu)(t:aPv):Bool:=
 match P.underlying t with
 |some .bool=>true
 |_=>false
def axM(P:aPu)(t:aPv):Bool:=
 match P.underlying t with
 |some (.interface ms)=>ms.isEmpty
 |_=>false
def aAX(P:aPu)(t:aPv):Bool:=
 match P.underlying t with
 |some (.func _ _ _)=>true
 |_=>false
def adf(P:aPu)(op:BinOp)(t:aPv)(x y:AV):Option yO:=
 match op,x,y with
 |.eql,.agg cs,.agg ds=>some {val:=.bool (eqB cs ds),pre:=azT P t cs ds}
 |.neq,.agg cs,.agg ds=>some {val:=.bool (!eqB cs ds),pre:=azT P t cs ds}
 |.eql,.bool a,.bool b=>if tbl P t then some {val:=.bool (a==b)} else none
 |.neq,.bool a,.bool b=>if tbl P t then some {val:=.bool (!(a==b))} else none
 |.eql,.iface _ _,.uS .nilIface=>if axM P t then some {val:=.bool false} else none
 |.neq,.iface _ _,.uS .nilIface=>if axM P t then some {val:=.bool true} else none
 |.eql,.uS .nilIface,.uS .nilIface=>if axM P t then some {val:=.bool true} else none
 |.neq,.uS .nilIface,.uS .nilIface=>if axM P t then some {val:=.bool false} else none
 |.neq,.func _ _ _,.uS .nilFunc=>if aAX P t then some {val:=.bool true} else none
 |.neq,.uS .nilFunc,.uS .nilFunc=>if aAX P t then some {val:=.bool false} else none
 |_,_,_=>none
def ajF(P:aPu)(op:BinOp)(t:aPv)(x:AV)(y:aPq):Option yO:=
 match op,x,y with
 |.eql,.uS (.slice a _ _),.const (.slice none 0 0)=>if (nY P t).isSome then some {val:=.bool a.isNone} else none
 |.eql,.mj _ _ rows,.const (.slice none 0 0)=>if rows.isEmpty=false/\(nY P t).isSome then some {val:=.bool false} else none
 |_,_,_=>none
def arR(P:aPu)(op:BinOp)(t:aPv)(y:aPq)(a b:AV):Option yO:=
 match ajF P op t a y with
 |some e=>some e
 |none=>adf P op t a b
def F0(J:k9)(d:Nat):Option aPq->Option Int
 |none=>some d
 |some x=>match J.ev x with
  |.int _ n=>some n
  |_=>none
def ah3(mx:Option aPq)(t:Bool)(h n m:Int):Bool:=
 match mx with
 |none=>t&&decide (h=n)
 |some _=>decide (h=m)
def aks (J:k9) (sz:Nat) (x:AV) (lo hi mx:Option aPq):Option yO:=
 match x with
 | .mj t VU rows=>
   match F0 J 0 lo,F0 J rows.length hi,F0 J rows.length mx with
   |some l,some h,some m=>if (VU=sz\/rows.length=0)/\0<=l/\l<=h/\h<=m/\m<=rows.length then
     some {val:=.mj (ah3 mx t h rows.length m) sz ((rows.take h.toNat).drop l.toNat)} else none
   |_,_,_=>none
 | .nW k n=>match J.heap[k]? with
   |some (.nW true VU rows)=>
    match F0 J 0 lo,F0 J rows.length hi,F0 J rows.length mx with
    |some l,some h,some m=>if VU=sz/\rows.length=n/\0<=l/\l<=h/\h<=m/\m<=rows.length then
      some {val:=.mj (ah3 mx false h rows.length m) sz ((rows.take h.toNat).drop l.toNat),rd:=[k]} else none
    |_,_,_=>none
   |_=>none
 |_=>none
def adg(J:k9)(sz:Nat):AV->Option (List Nat×List (List AV))
 |.mj _ VU rows=>if VU=sz\/rows.length=0 then some ([],rows)else none
 | .nW l n=>match J.heap[l]? with
   |some (.nW true VU rows)=>if VU=sz/\rows.length=n then some ([l],rows)else none
   |_=>none
 |.uS (.slice _ 0 _)=>some ([],[])
 |_=>none
def room(n bytes:Nat):Prop:=n*bytes<=2 ^ 44
def aPd (im:Bool) (J:k9) (sz bytes:Nat) (x y:AV):Option yO:=
 match adg J sz y with
 |none=>none
 |some (rd,ys)=>match x with
  | .nW l n=>match J.heap[l]? with
    |some (.nW wT VU rows)=>if VU=sz/\rows.length=n then
      some {val:=.nW l (rows++ys).length,rd:=l::rd,up:=[(l,.nW wT sz (rows++ys))],pre:=room (rows.length+ys.length) bytes} else none
    |_=>none
  | .mj true VU rows=>if VU=sz\/rows.length=0 then
      (if rows.length=0\/0<ys.length then some {val:=.nW J.heap.length (rows++ys).length,rd:=rd,nw:=[.nW im sz (rows++ys)],pre:=room (rows.length+ys.length) bytes}
        else some {val:=.mj true VU rows,rd:=rd})else none
  |_=>none
def as4(P:aPu):Bool:=match P.info? Pd with
 |some i=>(match i.zero with
  |some (.int .u8 0)=>true
  |_=>false)&&(i.size==1)&&(i.bytes==1)
 |none=>false
def ah4(J:k9)(e:aPv)(x:AV)(u:ByteArray):Option yO:=match x with
 | .nW l n=>match J.heap[l]? with
   |some (.L8 s)=>if s.size=n/\e=Pd then some {val:=.nW l (s.size+u.size),rd:=[l],up:=[(l,.L8 (s++u))],pre:=room (s.size+u.size) 1} else none
   |_=>none
 |_=>none
def Xa(P:aPu)(u:aPv)(im:Bool)(J:k9)(e:aPv)(sz bytes:Nat)(x y:AV):Option yO:=match y with
 |.str s=>if as4 P=true/\rV P u=true then ah4 J e x s else none
 |_=>aPd im J sz bytes x y
theorem am6{u:aPv}{e:aPv}{sz bytes:Nat}(h: ¬ ∃s,y=.str s):Xa P u im J e sz bytes x y=aPd im J sz bytes x y:=by
 unfold Xa;split
 ·rename_i s;exact absurd ⟨s,rfl⟩ h
 ·rfl
def arS(P:aPu)(J:k9)(t:aPv):AV->Option yO
 |.str s=>if rV P t then some {val:=.int .i64 s.size} else none
 |.mj _ _ rows=>if (nY P t).isSome then some {val:=.int .i64 rows.length} else none
 | .nW l n=>if (nY P t).isSome then match J.heap[l]? with
   |some (.nW _ _ rows)=>if rows.length=n then some {val:=.int .i64 n,rd:=[l]} else none
   |some (.L8 s)=>if s.size=n then some {val:=.int .i64 n,rd:=[l]} else none
   |_=>none else none
 |_=>none
def arT:List aPq->Nat
 |.tmp t::_=>t
 |_=>0
def RW (P:aPu) (J:k9) (b:Builtin) (lR:List aPq) (ts:List aPv) (xs:List AV):Option yO:=
 match b,ts,xs with
 |.len,[t],[x]=>arS P J t x
 | .append,[t,u],[x,y]=>match nY P t,nL P u with
   |some (e,sz,bytes),true=>match ou P e with
    |some z=>if z.length=sz/\0<sz/\0<bytes then Xa P u (aIP t (arT lR)) J e sz bytes x y else none
    |none=>none
   |_,_=>none
 |.max,[_,_],[.int k m,.int _ n]=>some {val:=.int k (if n>m then n else m)}
 |.min,[_,_],[.int k m,.int _ n]=>some {val:=.int k (if n<m then n else m)}
 |_,_,_=>none
def vwL (H:List lw):List AV->Option (List AV×List Nat)
 |[]=>some ([],[])
 | .nW l n::cs=>match H[l]? with
   |some (.nW wT sz rows)=>if rows.length=n then match vwL H cs with
    |some (ds,ns)=>some ((bif wT then .mj false sz rows else .nW l n)::ds,l::ns)
    |none=>none else none
   |_=>none
 |c::cs=>match vwL H cs with
  |some (ds,ns)=>some (c::ds,ns)
  |none=>none
def ldV(H:List lw)(l:Nat):AV->Option yO
 | .agg cs=>match vwL H cs with
   |some (ds,ns)=>some {val:=.agg ds,rd:=l::ns}
   |none=>none
 |v=>some {val:=v,rd:=[l]}
def Xb(sz:Nat):Nat->List AV->Option (List AV)
 |0,cs=>if sz<=cs.length then some (cs.take sz)else none
 |n+1,cs=>Xb sz n (cs.drop sz)
def tz1(P:aPu)(t:aPv):Option AV:=
 match P.info? t with
 |some i=>match i.zero with
  |some (.bool b)=>some (.bool b)
  |some (.int k n)=>some (.int k n)
  |some (.string s)=>some (.str s)
  |some (.agg vs)=>some (.agg (vs.toList.map Pf))
  |_=>none
 |none=>none
def agj(P:aPu)(t:aPv):Option AV:=
 match P.underlying t with
 |some (.map k e)=>match P.underlying k with
  |some .string=>tz1 P e
  |_=>none
 |_=>none
def aON:List (AV×AV)->Bool
 |[]=>true
 |(.str _,_)::es=>aON es
 |_=>false
def C3(s:ByteArray):List (AV×AV)->Option AV
 |(.str k,v)::es=>bif s==k then some v else C3 s es
 |_=>none
def RX(s:ByteArray)(v:AV):List (AV×AV)->List (AV×AV)
 |(.str k,u)::es=>bif s==k then(.str k,v)::es else(.str k,u)::RX s v es
 |_=>[(.str s,v)]
def ah5(z:AV)(l:Nat)(s:ByteArray):Option lw->Option yO
 |some (.map es)=>if aON es=true then some {val:=(C3 s es).getD z,rd:=[l]} else none
 |_=>none
def arU(z:AV)(l:Nat):Option AV->yO
 |some v=>{val:=.Mt [v,.bool true],rd:=[l]}
 |none=>{val:=.Mt [z,.bool false],rd:=[l]}
def al3(z:AV)(l:Nat)(s:ByteArray):Option lw->Option yO
 |some (.map es)=>if aON es=true then some (arU z l (C3 s es))else none
 |_=>none
def ao2(P:aPu)(t:aPv):Bool:=
 match P.underlying t with
 |some (.map k e)=>match P.underlying k,tz1 P e with
  |some (.int .i64),some (.int .i64 0)=>true
  |_,_=>false
 |_=>false
def ajG:List (AV×AV)->Option (List (Int×Int))
 |[]=>some []
 |(.int .i64 a,.int .i64 b)::es=>(ajG es).map ((a,b):: ·)
 |_=>none
def aiV(n:Int):List (Int×Int)->Option Int
 |[]=>none
 |(k,v)::ms=>bif n==k then some v else aiV n ms
def as5(n v:Int):List (Int×Int)->List (Int×Int)
 |[]=>[(n,v)]
 |(k,u)::ms=>bif n==k then(k,v)::ms else(k,u)::as5 n v ms
def aqV:List (Int×Int)->List (AV×AV)
 |[]=>[]
 |(k,v)::ms=>(.int .i64 k,.int .i64 v)::aqV ms
def akt(l:Nat)(n:Int):Option lw->Option yO
 |some (.map es)=>(ajG es).map fun ms=>{val:=.Mt [.int .i64 ((aiV n ms).getD 0),.bool (aiV n ms).isSome],rd:=[l]}
 |_=>none
def adh(l:Nat)(n m:Int):Option lw->Option yO
 |some (.map es)=>(ajG es).map fun ms=>{val:=.any,rd:=[l],up:=[(l,.map (aqV (as5 n m ms)))]}
 |_=>none
def as6(P:aPu)(t:aPv):AV->Option yO
 |.iface t' x=>if t'=t/\pY P t=true then some {val:=.Mt [x,.bool true]} else none
 |_=>none
def GG(l:Nat)(s:ByteArray)(v:AV):Option lw->Option yO
 |some (.map es)=>if aON es=true then some {val:=.any,rd:=[l],up:=[(l,.map (RX s v es))]} else none
 |_=>none
def ao3:aPr->Option yO
 | .pointer (some ⟨b,o,none⟩)=>match aFH b with
   |some k=>(azS b o).bind fun m=>some {val:=.int k m}
   |none=>none
 |_=>none
def ah6(l:Nat):Option lw->Option yO
 |some (.iter s p)=>if p<s.size then some {val:=.Mt [.bool true,.int .i64 p,.int .i32 (Utf8.decode s p).1],rd:=[l],up:=[(l,.iter s (p+(Utf8.decode s p).2))]}
   else some {val:=.Mt [.bool false],rd:=[l]}
 |_=>none
def zB(t:Nat)(z:List AV):List AV:=bif ako t then(match z with
 |x::.mj true 0 []::r=>x::.uS (.slice none 0 0)::r
 |z=>z)else z
def Pg(t l:Nat)(z:List AV):yO:=bif ako t then(match z with
 |.uS (.pointer none)::.uS (.slice none 0 0)::r=>{val:=.ptr (l+1) 0,nw:=[.L8 ax,.cells (.sn t (l+1)::.nW l 0::r)]}
 |_=>{val:=.ptr l 0,nw:=[.cells z]})else {val:=.ptr l 0,nw:=[.cells z]}
theorem arV {t:Nat}:(Pg t l z).nw≠[]:=by
 unfold Pg;cases ako t with
 |false=>simp
 |true=>rw[kP];split<;>simp
def auO {t:Nat}:(Pg t l z).rd=[]/\(Pg t l z).up=[]/\(Pg t l z).pre=True/\(Pg t l z).whole=false:=by
 unfold Pg;cases ako t with
 |false=>simp
 |true=>rw[kP];split<;>simp
def am7(P:aPu)(t:aPv):Option Nat:=
 match P.underlying t with
 |some (.array n e)=>match o9 P e with
  |some (false,1)=>some n
  |_=>none
 |_=>none
def aku:List AV->Option (List Int)
 |[]=>some []
 |.int .i64 n::xs=>(aku xs).map (n:: ·)
 |_=>none
def nf (P:aPu) (J:k9):Op->Option yO
 |.move x=>some {val:=J.ev x}
 |.assign x=>some {val:=J.ev x}
 | .pick c x y=>match J.ev c with
   |.bool b=>some {val:=bif b then J.ev x else J.ev y}
   |_=>none
 | .alloc t=>match ou P t with
   |some z=>some (Pg t J.heap.length (zB t z))
   |none=>none
 | .box t x=>match cellsOf (J.ev x) with
   |some cs=>some (Pg t J.heap.length cs)
   |none=>none
 | .build t parts=>match ve P t,ou P t with
   |true,some z=>match adb (mi P t) (zB t z) (parts.toList.map fun p=>(p.1,J.ev p.2))with
    |some cs=>some {val:=.agg cs}
    |none=>none
   |_,_=>none
 | .buildSlice t len parts=>match nY P t with
   |some (e,sz,_)=>match ou P e with
    |some z=>if z.length=sz/\len*sz<=16777216 then
      match ade sz (an len z) (parts.toList.map fun p=>(p.1,J.ev p.2))with
      |some rows=>bif aFG t (arT (parts.toList.map (·.2)))then some {val:=.nW J.heap.length rows.length,nw:=[.nW (aIP t (arT (parts.toList.map (·.2)))) sz rows]} else some {val:=.mj true sz rows}
      |none=>none
     else none
    |none=>none
   |none=>none
 | .load t x=>match o9 P t,J.ev x with
   |some (g,n),.ptr l off=>match J.heap[l]? with
    |some (.cells cs)=>match l3 g n (cs.drop off)with
     |some v=>ldV J.heap l v
     |none=>none
    |_=>none
   |some (g,n),.pp cs=>match l3 g n cs with
    |some v=>some {val:=v}
    |none=>none
   |some (g,n),.own l i m o sz=>match J.heap[l]? with
    |some (.nW false VU rows)=>if VU=sz/\rows.length=m then match rows[i]? with
     |some r=>match l3 g n (r.drop o)with
      |some v=>some {val:=v,rd:=[l]}
      |none=>none
     |none=>none else none
    |_=>none
   |some (false,_),.uS v=>ao3 v
   |_,_=>none
 | .store t x y=>match o9 P t,J.ev x,cellsOf (J.ev y) with
   |some (_,n),.ptr l off,some ys=>match J.heap[l]? with
    |some (.cells cs)=>if ys.length=n/\off+n<=cs.length then some {val:=.any,rd:=[l],up:=[(l,.cells (z1 cs off ys))]} else none
    |_=>none
   |some (_,n),.own l i m o sz,some ys=>match J.heap[l]? with
    |some (.nW false VU rows)=>if VU=sz/\rows.length=m then match rows[i]? with
     |some r=>if ys.length=n/\o+n<=sz then some {val:=.any,rd:=[l],up:=[(l,.nW false sz (rows.set i (z1 r o ys)))]} else none
     |none=>none else none
    |_=>none
   |_,_,_=>none
 | .binOp op t x y _=>match akr op (J.ev x) (J.ev y) with
   |some v=>some {val:=v}
   |none=>arR P op t y (J.ev x) (J.ev y)
 | .unOp op _ x=>match op,J.ev x with
   |.not,.bool b=>some {val:=.bool (!b)}
   |.neg,.int k n=>some {val:=.int k (k.wrap (0-n))}
   |.xor,.int k n=>some {val:=.int k (aCL k (· ^^^ ·) (if k.signed then-1 else k.max) n)}
   |_,_=>none
 | .fieldAddr t x i=>match rC P t i,J.ev x with
   |some (o,_),.ptr l off=>some {val:=.ptr l (off+o)}
   |some (o,_),.pp cs=>some {val:=.pp (cs.drop o)}
   |some (o,_),.own l i m o' sz=>some {val:=.own l i m (o'+o) sz}
   |_,_=>none
 | .field t x i=>match rC P t i,J.ev x with
   |some (o,u),.agg cs=>match o9 P u with
    |some (g,n)=>match l3 g n (cs.drop o)with
     |some v=>some {val:=v}
     |none=>none
    |none=>none
   |_,_=>none
 | .indexAddr t x i=>match nY P t with
   |some (_,sz,_)=>match J.ev x,J.ev i with
    | .mj _ VU rows,.int _ n=>if VU=sz/\0<=n then match rows[n.toNat]? with
      |some r=>some {val:=.pp r}
      |none=>none else none
    | .nW l m,.int _ n=>match J.heap[l]? with
      |some (.nW true VU rows)=>if VU=sz/\0<=n/\rows.length=m then match rows[n.toNat]? with
       |some r=>some {val:=.pp r,rd:=[l]}
       |none=>none else none
      |some (.nW false VU rows)=>if VU=sz/\0<=n/\rows.length=m/\n<m then some {val:=.own l n.toNat m 0 sz,rd:=[l]} else none
      |_=>none
    |_,_=>none
   |none=>match aqU P t with
    |some (len,sz)=>match J.ev x,J.ev i with
     |.ptr l off,.int _ n=>if 0<=n/\n<len then some {val:=.ptr l (off+n.toNat*sz)} else none
     |.pp cs,.int _ n=>if 0<=n/\n<len then(Xb sz n.toNat cs).bind fun ds=>some {val:=.pp ds} else none
     |.uS (.pointer (some ⟨b,o,none⟩)),.int _ n=>if 0<=n/\n<len then some {val:=.uS (.pointer (some ⟨b,o+n.toNat*sz,none⟩))} else none
     |_,_=>none
    |none=>none
 | .index t x i=>match rV P t,J.ev x,J.ev i with
   |true,.str s,.int _ n=>if 0<=n then match s[n.toNat]? with
    |some b=>some {val:=.int .u8 b.toNat}
    |none=>none else none
   |false,.agg cs,.int _ n=>match am7 P t,aku cs with
    |some len,some ms=>if 0<=n/\n<len then match ms[n.toNat]? with
     |some m=>some {val:=.int .i64 m}
     |none=>none else none
    |_,_=>none
   |_,_,_=>none
 | .slice t x lo hi mx=>match nY P t with
   |some (_,sz,_)=>if mx.isSome&&hi.isNone then none else aks J sz (J.ev x) lo hi mx
   |none=>match rV P t,J.ev x,mx with
    |true,.str s,none=>match F0 J 0 lo,F0 J s.size hi with
     |some l,some h=>if 0<=l/\l<=h/\h<=s.size then some {val:=.str (s.extract l.toNat h.toNat)} else none
     |_,_=>none
    |_,_,_=>none
 | .nilCheck x=>match J.ev x with
   |.ptr l off=>some {val:=.ptr l off}
   |.pp cs=>some {val:=.pp cs}
   |.func (.func f) fs cs=>some {val:=.func (.func f) fs cs}
   |_=>none
 | .convert s d x=>match J.ev x with
   |.str v=>if rV P s&&rV P d then some {val:=.str v} else none
   | .int _ n=>match ao1 P s,ao1 P d with
     |some _,some k=>some {val:=.int k (k.wrap n)}
     |some _,none=>if rV P d then some {val:=.str (Utf8.encode n)} else none
     |_,_=>none
   | .mj _ _ [[.int k n]]=>match nY P s with
     |some (e,sz,_)=>if sz=1/\k=.u8/\ao1 P e=some .u8/\rV P d=true then some {val:=.str ⟨[UInt8.ofNat n.toNat].toArray⟩} else none
     |none=>none
   |_=>none
 |.makeInterface t x=>if pY P t then some {val:=.iface t (J.ev x)} else none
 | .makeSlice t x y=>match nY P t,J.ev x,J.ev y with
   |some (e,sz,bytes),.int .i64 n,.int .i64 m=>match ou P e with
    |some z=>if z.length=sz/\0<sz/\0<=n/\n=m then
      some {val:=.nW J.heap.length n.toNat,nw:=[.nW false sz (an n.toNat z)],pre:=room n.toNat bytes/\n<2 ^ 62} else none
    |none=>none
   |_,_,_=>none
 |.call {callee:=.builtin b,args,argTypes}=>RW P J b args.toList argTypes.toList (args.toList.map J.ev)
 | .extract x i=>match J.ev x with
   | .Mt vs=>match vs[i]? with
     |some v=>some {val:=v}
     |none=>none
   |_=>none
 |.makeFunc fn f c=>some {val:=.func fn (f.toList.map J.ev) (c.toList.map J.ev)}
 | .range t x=>match rV P t,J.ev x with
   |true,.str s=>some {val:=.ptr J.heap.length 0,nw:=[.iter s 0]}
   |_,_=>none
 | .next x true=>match J.ev x with
   |.ptr l 0=>ah6 l J.heap[l]?
   |_=>none
 |.makeMap _ none=>some {val:=.map J.heap.length,nw:=[.map []]}
 | .lookup t x k false=>match agj P t,J.ev x,J.ev k with
   |some z,.map l,.str s=>ah5 z l s J.heap[l]?
   |_,_,_=>none
 | .lookup t x k true=>match agj P t,J.ev x,J.ev k with
   |some z,.map l,.str s=>al3 z l s J.heap[l]?
   |none,.map l,.int .i64 n=>if ao2 P t=true then akt l n J.heap[l]? else none
   |_,_,_=>none
 |.typeAssert x _ t true=>as6 P t (J.ev x)
 | .mapUpdate t x k y=>match agj P t,J.ev x,J.ev k with
   |some _,.map l,.str s=>GG l s (J.ev y) J.heap[l]?
   |none,.map l,.int .i64 n=>match J.ev y with
    |.int .i64 m=>if ao2 P t=true then adh l n m J.heap[l]? else none
    |_=>none
   |_,_,_=>none
 | .insert t x k y=>match agj P t,J.ev x,J.ev k with
   |some _,.map l,.str s=>GG l s (J.ev y) J.heap[l]?
   |none,.map l,.int .i64 n=>match J.ev y with
    |.int .i64 m=>if ao2 P t=true then adh l n m J.heap[l]? else none
    |_=>none
   |_,_,_=>none
 |_=>none
section sound
variable {a:Act} {w:aPs}
def CM(C:tC)(J:k9)(a:Act)(w:aPs)(dst:Option Tmp)(r:Result Next)(e:yO):Prop:=
 ∃n v w' U',r=.ok n w'/\(n=.value v\/(n=.skip/\v=undef))/\pW C U' (J.app dst e) (a.put dst v) w'
def N2(h:o9 C.P t=some (g,n)):(isAgg t).run C.P w=.ok g w/\(sizeOf t).run C.P w=.ok n w:=by
 unfold o9 at h;cases hi:C.P.info? t with
 |none=>simp [hi]at h
 |some i=>
  simp only[hi]at h;cases hu:C.P.underlying t with
  |none=>simp [hu]at h
  |some d=>
   simp only[hu]at h;constructor
   ·cases d<;>simp_all [isAgg,run_underlying hu]
   ·simp only[sizeOf,typeInfo];cases d<;>simp_all
def ao4{c:AV}(h:c.nT=true)(r:rD E c v):v.oneCell'=true:=by
 cases c with
 |any|agg _|Mt _|sn _ _=>simp [AV.nT]at h
 |bool b|int k n|str s=>simp only[rD]at r;subst r;rfl
 |uS u=>simp only[rD]at r;subst r;exact h
 |mj t sz rows=>obtain⟨_,_,rfl,_⟩:=r;rfl
 |nW l n=>obtain⟨_,⟨_,_,_,rfl⟩,_⟩:=r;rfl
 |own l i n o sz=>obtain⟨_,⟨_,rfl⟩,_⟩:=r;rfl
 |ptr l off=>obtain⟨_,_,_,rfl⟩:=r;rfl
 |map l=>
  obtain⟨_,rfl,_,h2⟩:=r;revert h2;generalize E.U l=h;intro h2;unfold hdl at h2;split at h2<;>first|rfl|cases h2
 |pp cs=>obtain⟨_,_,rfl,_⟩:=r;rfl
 |func fn f c=>obtain⟨_,_,rfl,_⟩:=r;rfl
 |iface t x=>obtain⟨_,rfl,_⟩:=r;rfl
def am8{E:HI}:∀{cs:List AV}{vs:List aPr},cs.all AV.nT=true->l9 E cs vs->∀v∈vs,v.oneCell'=true
 |[],_,_,rfl=>by simp
 |c::cs,_,h,⟨u,us,rfl,r1,r2⟩=>by
  simp only[List.all_cons,aW]at h;intro v hv;simp only[be]at hv;rcases hv with rfl|hv
  ·exact ao4 h.1 r1
  ·exact am8 h.2 r2 v hv
end sound
section sound
variable {a:Act} {w:aPs}
def auP(E:HI)(b off:Nat)(cs:List AV):Prop:=∃us:List aPr,l9 E cs us/\∀j u,us[j]? =some u->E.w.cell? ⟨b,off+j,none⟩=some u
def aOO{E:HI}{b:Nat}:∀{cs:List AV}{off:Nat},q5 E b off cs->auP E b off cs
 |[],_,_=>⟨[],rfl,by simp⟩
 |c::cs,off,⟨⟨_,u,hu,_,r⟩,r2⟩=>by
  obtain⟨us,rl,h⟩:=aOO r2;refine⟨u::us,⟨u,us,rfl,r,rl⟩,fun j v hj=>?_⟩
  grind
def ao5{fr:Nat×Nat}(hh:E.w.heap[b]? =some (.cells c t fr))(r:l9 E cs c.toList)(off:Nat):
 auP E b off (cs.drop off):=
 ⟨c.toList.drop off,r.drop off,fun j u hj=>by
   grind [World.cell?]⟩
theorem DC(b off j:Nat):(⟨b,off,none⟩:Addr).add j=⟨b,off+j,none⟩:=by
 unfold Addr.add;split<;>simp_all
theorem aqW{a:Addr}{m:Mode}(h:w.cell? a=some u):(load a m).run P w=.ok u w:=by rw[run_load,h]
def adi(hm:auP E b off cs)(ha:(isAgg t).run P E.w= .ok g E.w)(hs:(sizeOf t).run P E.w= .ok n E.w)(hl:l3 g n cs=some x):
 ∃v,(loadVar t ⟨b,off,none⟩).run P E.w=.ok v E.w/\rD E x v:=by
 obtain⟨us,rl,h⟩:=hm;unfold l3 at hl;cases g with
 |true=>
  simp only at hl;split at hl
  ·rename_i hn;cases hl;have hlen:=rl.length;refine⟨.agg (us.take n).toArray,?_,(us.take n).toArray,rfl,by simpa using rl.take n⟩
   have:=run_loadCells_list (P:=P) E.w ⟨b,off,none⟩ (us.take n) (fun j v hj=>by
    grind [DC])
   simp_all [loadVar]
  ·cases hl
 |false=>
  simp only at hl;split at hl
  ·rename_i c cs;cases hl;obtain⟨u,us',rfl,r1,_⟩:=rl;have:=h 0 u (by simp)
   grind [loadVar,ai,ae,aqW]
  ·cases hl
def MM{xs:List AV}(h:cellsOf x=some xs)(r:rD E x v):l9 E xs v.cells.toList/\∀u∈v.cells.toList,u.oneCell'=true:=by
 unfold cellsOf at h;split at h
 ·rename_i cs;split at h
  ·rename_i hs;cases h;obtain⟨vs,rfl,rl⟩:=r;exact⟨rl,am8 hs rl⟩
  ·cases h
 ·split at h
  ·rename_i hs;cases h;have h1:=ao4 hs r;have:v.cells= #[v]:=by cases v<;>first|rfl|(simp [Value.oneCell']at h1)
   rw[this];exact⟨⟨v,[],rfl,r,rfl⟩,by simpa using h1⟩
  ·cases h
def adk(E:HI):∀vs:List aPr,l9 E (vs.map Pf) vs
 |[]=>rfl
 |v::vs=>⟨v,vs,rfl,arQ E v,adk E vs⟩
def al4(h:ou P t=some z):∃v,(zeroValue t).run P w=.ok v w/\(∀E,l9 E z v.cells.toList)/\∀u∈v.cells.toList,u.oneCell'=true:=by
 unfold ou at h;cases hi:P.info? t with
 |none=>simp [hi]at h
 |some i=>
  simp only[hi]at h;cases hz:i.zero with
  |none=>simp [hz]at h
  |some v=>
   simp only[hz]at h;split at h
   ·rename_i h1;cases h;exact⟨v,by simp [zeroValue,typeInfo,hi,hz],fun E=>adk E _,bA.1 h1⟩
   ·cases h
def axN(h:ou P t=some z):∃v,(zeroValue t).run P w=.ok v w/\z=v.cells.toList.map Pf/\∀u∈v.cells.toList,u.oneCell'=true:=by
 unfold ou at h;cases hi:P.info? t with
 |none=>simp [hi]at h
 |some i=>
  simp only[hi]at h;cases hz:i.zero with
  |none=>simp [hz]at h
  |some v=>
   simp only[hz]at h;split at h
   ·rename_i h1;cases h;exact⟨v,by simp [zeroValue,typeInfo,hi,hz],rfl,bA.1 h1⟩
   ·cases h
def as7(h:Pf v=.mj true 0 []):v=.slice none 0 0:=by
 unfold Pf at h;split at h<;>first|rfl|cases h
def aCM(E:HI)(t:Nat){vs:List aPr}(h:z=vs.map Pf):l9 E (zB t z) vs:=by
 have r0:l9 E z vs:=by rw[h];exact adk E vs
 unfold zB;cases ako t with
 |false=>exact r0
 |true=>
  rw[kP];split
  ·obtain⟨v0,vs',rfl,h0,v1,aOr,rfl,_,h2⟩:=r0;simp only[bT,aZ]at h;exact⟨v0,_,rfl,h0,v1,_,rfl,as7 h.2.1.symm,h2⟩
  ·exact r0
def pW.write(S:pW C U J a w){cs':List AV}{c':Array aPr}(hl:J.heap[l]? =some (.cells cs))(hφ:U l=.pointer (some ⟨b,0,none⟩))
 (hh:w.heap[b]? =some (.cells c t (0,0))) (hr:l9 (C.env U J.heap w) cs' c'.toList) (h1:∀u∈c'.toList,u.oneCell'=true):pW C U {J with heap:=J.heap.set l (.cells cs')} a (w.setRow b c'):=by
 have q9:l<J.heap.length:=(aj.1 hl).1
 have qe:∀(k:Nat)(x:lw),(J.heap.set l (.cells cs'))[k]? =some x->(k=l/\x=.cells cs')\/(k≠l/\J.heap[k]? =some x):=by
  grind
 have QT:∀b' o,KR U (J.heap.set l (.cells cs')) b' o->KR U J.heap b' o:=by
  rintro b' o ⟨k,x,hx,hm⟩;rcases qe k x hx with⟨rfl,rfl⟩|⟨_,hx⟩
  ·exact⟨k,_,hl,by rw[hφ]at hm ⊢;exact hm⟩
  ·exact⟨k,x,hx,hm⟩
 have hmb:∀o,KR U J.heap b o:=fun o=>⟨l,_,hl,by rw[hφ];rfl⟩
 have le:(C.env U J.heap w).Le J.heap.length (C.env U (J.heap.set l (.cells cs')) (w.setRow b c')):=by
  refine tC.GF (by simp) (fun k hk=>⟨rfl,?_⟩) (fun b' o u hm hc=>?_)
  ·by_cases e:k=l
   ·subst e;rw[aT q9,hl];rfl
   grind
  grind [cell_setRow_other]
 have FE:vW C U (J.heap.set l (.cells cs')) (w.setRow b c') J.df a.defers:=by
  refine S.defers.step le (fun b' _ hno=>?_) (fun k x b' hx hb=>?_)
  ·refine setRow_other w b b' c' (fun e=>?_);subst e;exact hno l _ hl (by rw[hφ];rfl)
  ·rcases qe k x hx with⟨rfl,rfl⟩|⟨uP,hx⟩
   ·exact .inl ⟨k,_,hl,by rw[hφ]at hb ⊢;exact hb⟩
   ·exact .inl ⟨k,x,hx,hb⟩
 refine {lE:=l9.mono le _ _ (l9.nb _ _ S.lE) S.lE,defers:=FE,qJ:=?_,apart:=?_,wZ:=?_,size:=by simpa using S.size,old:=?_,qE:=?_,F2:=?_,AH:=?_,rest:=S.rest,low:=⟨S.low.1,by simpa using S.low.2⟩,mZ:=?_}
 ·intro k x hx;rcases qe k x hx with⟨rfl,rfl⟩|⟨uP,hx⟩
  ·exact⟨b,c',t,hφ,setRow_heap w b c c' t _ hh,l9.mono le _ _ (l9.nb _ _ hr) hr,h1⟩
  ·refine qV.mono (S.qJ k x hx) le (fun b' uD=>?_);refine setRow_other w b b' c' (fun e=>?_);subst e;exact uP (S.apart k l x _ b' hx hl uD (by rw[hφ];rfl))
 ·intro k k' x x' b' hx EC hb uD;rcases qe k x hx with⟨rfl,rfl⟩|⟨uP,Z6⟩<;>rcases qe k' x' EC with⟨rfl,rfl⟩|⟨aqX,WH⟩
  ·rfl
  ·exact S.apart k k' _ x' b' hl WH (by rw[hφ]at hb ⊢;exact hb) uD
  ·exact S.apart k k' x _ b' Z6 hl hb (by rw[hφ]at uD ⊢;exact uD)
  ·exact S.apart k k' x x' b' Z6 WH hb uD
 ·intro k x b' o hx hb;rcases qe k x hx with⟨rfl,rfl⟩|⟨uP,hx⟩
  ·exact S.wZ k _ b' o hl (by rw[hφ]at hb ⊢;exact hb)
  ·exact S.wZ k x b' o hx hb
 ·intro b' o uD hm;by_cases e:b'=b
  ·subst e;exact absurd (S.F2 l _ b' o hl (by rw[hφ];rfl) uD) hm
  ·rw[cell_setRow_other w b c' _ e];exact S.old b' o uD hm
 ·intro b' uD hm;by_cases e:b'=b
  ·subst e;exact absurd (S.F2 l _ b' 0 hl (by rw[hφ];rfl) uD) (hm 0)
  ·rw[setRow_other w b b' c' e];exact S.qE b' uD hm
 ·intro k x b' o hx hm uD;rcases qe k x hx with⟨rfl,rfl⟩|⟨uP,hx⟩
  ·exact S.F2 k _ b' o hl (by rw[hφ]at hm ⊢;exact hm) uD
  ·exact S.F2 k x b' o hx hm uD
 ·intro x hx hm0;rw[<-S.AH x hx hm0];by_cases e:x.block=b
  ·simp only[World.frozen?];rw[e,setRow_heap w b c c' t _ hh,hh]
  grind [World.frozen?,setRow_other]
 ·intro k hk;have:=S.mZ k hk;by_cases e:k=l
  ·subst e;rw[aT q9];rw[hl]at this;exact this
  grind
def auQ(S:pW C U J a w){ys:List AV}(ht:o9 C.P t=some (g,n))(hl:J.heap[l]? =some (.cells cs))
 (hr:l9 (C.env U J.heap w) ys v.cells.toList) (h1:∀u∈v.cells.toList,u.oneCell'=true) (hn:ys.length=n) (aM2:off+n<=cs.length) {p:aPr}
 (hp:rD (C.env U J.heap w) (.ptr l off) p):
 ∃w',(bu t p v).run C.P w=.ok () w'/\pW C U {J with heap:=J.heap.set l (.cells (z1 cs off ys))} a w':=by
 obtain⟨_,b,hφ,rfl⟩:=hp;simp only[tC.env]at hφ;obtain⟨b2,c,t2,hφ2,hh,rl,DI⟩:=S.qJ l _ hl;have e:b2=b:=by grind
 subst e;simp only[tC.env]at hh;have hcl:c.size=cs.length:=by have:=rl.length;simpa using this
 have hvl:v.cells.size=n:=by have:=hr.length;simp at this;omega
 have hst:=run_storeCells_at C.P b2 off t2 v.cells.toList 0 c w hh (by simp;omega) h1;refine⟨_,?_,S.write hl hφ hh (c':=(c.toList.take off++v.cells.toList++c.toList.drop (off+v.cells.toList.length)).toArray) ?_ ?_⟩
 ·have hs:=(N2 (C:=C) (w:=w) ht).2
  grind [bu,aA,storeVar,ai,ae]
 ·have e1:v.cells.toList.length=ys.length:=hr.length;rw[e1];exact((rl.take off).append hr).append (rl.drop _)
 grind
theorem akv(off:Nat):∀(xs:List aPr)(k:Nat)(cs:Array aPr),off+k+xs.length<=cs.size->
 (((xs.zipIdx k).foldl (fun cs p=>cs.setIfInBounds (off+p.2) p.1) cs).toList=cs.toList.take (off+k)++xs++cs.toList.drop (off+k+xs.length))
 |[],k,cs,_=>by simp
 |x::xs,k,cs,h=>by
  simp only[List.zipIdx_cons,List.foldl_cons];rw[akv off xs (k+1) _ (by simp at h ⊢;omega)];have e:=list_seg_step cs.toList (off+k) x xs (by simp at h ⊢;omega)
  simp_all [bU]
def ajH{E:HI}(place:Nat->Option (Nat×Nat)): ∀(ps:List (Nat×AV))(qs:List (Nat×aPr))(cs:List AV)(vs:Array aPr)(out:List AV),
 l9 E cs vs.toList->(∀u∈vs.toList,u.oneCell'=true)->qs.map (·.1)=ps.map (·.1)->l9 E (ps.map (·.2)) (qs.map (·.2))->adb place cs ps=some out->
 ∃us,Instr.fill place vs qs=some us/\l9 E out us.toList/\∀u∈us.toList,u.oneCell'=true
 |[],[],cs,vs,out,r,h1,_,_,h=>by
  simp only[adb]at h;cases h;exact⟨vs,rfl,r,h1⟩
 |[],_::_,_,_,_,_,_,h,_,_=>by simp at h
 |_::_,[],_,_,_,_,_,h,_,_=>by simp at h
 |(i,x)::ps,(j,v)::qs,cs,vs,out,r,h1,hi,hr,h=>by
  simp only[bT,aZ]at hi;obtain⟨rfl,hi⟩:=hi;obtain⟨u,us,hus,r1,r2⟩:=hr;simp only[bT,aZ]at hus;obtain⟨rfl,rfl⟩:=hus;simp only[adb]at h;split at h
  ·rename_i off size xs hp hx;split at h
   ·rename_i hc;obtain⟨hrl,DI⟩:=MM hx r1;have hlen:=hrl.length;have hcl:=r.length;have hsz:v.cells.size=size:=by simp at hlen;omega
    have hsp:off+v.cells.size<=vs.size:=by simp at hcl;omega
    have hf:=akv off v.cells.toList 0 vs (by simpa using hsp);simp only[bB]at hf
    have aIQ:(v.cells.zipIdx.foldl (fun cs (c,j)=>cs.setIfInBounds (off+j) c) vs).toList=vs.toList.take off++v.cells.toList++vs.toList.drop (off+v.cells.toList.length):=by
     rw[<-hf,<-Array.foldl_toList];simp
    obtain⟨us',aCN,hr',ho'⟩:=ajH place ps qs (z1 cs off xs) (v.cells.zipIdx.foldl (fun cs (c,j)=>cs.setIfInBounds (off+j) c) vs) out (by
     rw[aIQ,hlen];exact((r.take off).append hrl).append (r.drop _)) (by
     grind) hi r2 h
    grind [Instr.fill]
   ·cases h
  ·cases h
theorem auR(S:pW C U J a w)(hb:ve C.P t=true)(hz:ou C.P t=some z)
 (hf:adb (mi C.P t) (zB t z) (parts.toList.map fun p=>(p.1,J.ev p.2))=some cs):
 ∃v,(Instr.build t (parts.map fun(i,x)=>(i,a.eval x))).run C.P w=.ok v w/\rD (C.env U J.heap w) (.agg cs) v:=by
 have hev:∀ps:List (Nat×aPq),l9 (C.env U J.heap w) ((ps.map fun p=>(p.1,J.ev p.2)).map (·.2)) ((ps.map fun p=>(p.1,a.eval p.2)).map (·.2)):=by
  intro ps;induction ps with
  |nil=>rfl
  |cons p ps ih=>exact⟨_,_,rfl,S.ev p.2,ih⟩
 unfold ou at hz;cases hi:C.P.info? t with
 |none=>simp [hi]at hz
 |some it=>
  simp only[hi]at hz;cases hz0:it.zero with
  |none=>simp [hz0]at hz
  |some zv=>
   simp only[hz0]at hz;split at hz
   case isFalse=>cases hz
   rename_i DI;cases hz;obtain⟨us,hus,hr,_⟩:=ajH (mi C.P t) _ (parts.toList.map fun p=>(p.1,a.eval p.2)) _ zv.cells cs (aCM (C.env U J.heap w) t rfl) (bA.1 DI) (by simp) (hev _) hf;refine⟨.agg us,run_build w t _ us ?_,us,rfl,hr⟩;have axO:(parts.map fun(i,x)=>(i,a.eval x)).toList=parts.toList.map fun p=>(p.1,a.eval p.2):=by simp
   rw[axO];unfold ve at hb;unfold Program.built;cases hu:C.P.underlying t with
   |none=>simp [aOX,hu]at hb
   |some d=>
    cases d<;>try (simp [aOX,hu]at hb;done)
    case array n e=>
     cases he:C.P.info? e with
     |none=>simp [aOX,hu,he]at hb
     |some ie=>
      have:mi C.P t=fun i=>some (i*ie.size,ie.size):=by grind [mi,aOX]
      grind
    case struct fs=>
     cases hp:fs.toList.mapM (fun f=>(C.P.info? f.type).map fun i=>(f.offset,i.size))with
     |none=>simp [aOX,hu,hp]at hb
     |some pl=>
      have:mi C.P t=fun i=>pl.toArray[i]? :=by grind [mi,aOX]
      grind
end sound
section sound
variable {a:Act} {w:aPs}
def Ph {e:aPv}{sz bytes:Nat}(h:nY P t=some (e,sz,bytes)):P.underlying t=some (.slice e)/\∃i,P.info? e=some i/\i.size=sz/\i.bytes=bytes:=by
 grind [nY]
theorem aiW(z:List aPr):∀n,(List.range (n*z.length)).map (fun i=>z.toArray[i % z.length]!)=(an n z).flatten
 |0=>by simp
 |n+1=>by
  rw[aD,b9,Nat.add_comm,List.range_add,List.map_append,List.map_map,bX,aF,<-aiW z n];congr 1
  ·apply List.ext_getElem?
   grind [Nat.mod_eq_of_lt]
  simp_all
theorem GH{W:Type}{sz:Nat}:∀{rows:List (List W)},(∀r∈rows,r.length=sz)->rows.flatten.length=rows.length*sz
 |[],_=>by simp
 |r::rows,h=>by
  simp only[aF,List.length_append,aI,aD,b9];rw[GH (fun q hq=>h q (by simp [hq])),h r (by simp)];omega
theorem am9{sz:Nat}:∀{rows:List (List AV)}{i:Nat}{xs:List AV},(∀r∈rows,r.length=sz)->i<rows.length->xs.length=sz->
 (rows.set i xs).flatten=z1 rows.flatten (i*sz) xs
 |[],_,_,_,h,_=>by simp at h
 |r::rows,0,xs,hl,_,hx=>by
  grind [z1]
 |r::rows,i+1,xs,hl,hi,hx=>by
  have hr:=hl r (by simp);have ih:=am9 (rows:=rows) (i:=i) (xs:=xs) (fun q hq=>hl q (bQ _ hq)) (by simpa using hi) hx;simp only[List.set_cons_succ,aF,ih,z1];have e1:(i+1)*sz=r.length+i*sz:=by rw[aD,hr];omega
  have e2:(i+1)*sz+xs.length=r.length+(i*sz+xs.length):=by omega
  rw[e2,e1,List.take_length_add_append,List.drop_length_add_append];simp
def ana{sz:Nat}: ∀{ps:List (Nat×AV)}{rows out:List (List AV)},(∀r∈rows,r.length=sz)->ade sz rows ps=some out->
 adb (fun i=>some (i*sz,sz)) rows.flatten ps=some out.flatten/\out.length=rows.length/\∀r∈out,r.length=sz
 |[],rows,out,hl,h=>by
  simp only[ade]at h;cases h;exact⟨rfl,rfl,hl⟩
 |(i,x)::ps,rows,out,hl,h=>by
  simp only[ade]at h;split at h
  ·rename_i xs hx;split at h
   ·rename_i hc
    have hl':∀r∈rows.set i xs,r.length=sz:=by
     grind
    obtain⟨h1,h2,h3⟩:=ana hl' h;refine⟨?_,by simpa using h2,h3⟩;simp only[adb,hx];have hfl:=GH hl
    have:i*sz+sz<=rows.length*sz:=by
     have:(i+1)*sz<=rows.length*sz:=ay _ hc.1;rw[aD]at this;omega
    grind [am9]
   ·cases h
  ·cases h
theorem Ih{E:HI}{z:List AV}{vs:List aPr}(r:l9 E z vs):∀n,l9 E (an n z).flatten (an n vs).flatten
 |0=>by simp [l9]
 |n+1=>by
  simp only[bX,aF];exact r.append (Ih r n)
theorem akw(zv:aPr)(n sz:Nat)(hz:zv.cells.size=sz):
 ((bt (n*sz)).map (fun i=>(if n*sz=0 then(#[]:Array aPr)else zv.cells)[i % (if n*sz=0 then(#[]:Array aPr)else zv.cells).size]!)).toList=(an n zv.cells.toList).flatten:=by
 have:=aiW zv.cells.toList n;simp only[bq,hz]at this;rw[<-this];by_cases h:n*sz=0
 ·simp [h]
 ·simp [h,hz]
def agk(S:pW C U J a w){e:aPv}{len sz bytes:Nat}(ht:nY C.P t=some (e,sz,bytes))
 (hz:ou C.P e=some z) (hl:z.length=sz/\len*sz<=16777216) (hf:ade sz (an len z) (parts.toList.map fun p=>(p.1,J.ev p.2))=some rows):
 ∃us:Array aPr,(aP t len (parts.map fun(i,x)=>(i,a.eval x))).run C.P w=.ok (.slice (some ⟨w.heap.size,0,none⟩) len len) (World.more w (.cells us e))/\
  l9 (C.env U J.heap w) rows.flatten us.toList/\(∀u∈us.toList,u.oneCell'=true)/\rows.length=len/\(∀r∈rows,r.length=sz)/\us.toList.length=len*sz:=by
 obtain⟨hu,i,hi,rfl,rfl⟩:=Ph ht
 have hev:∀ps:List (Nat×aPq),l9 (C.env U J.heap w) ((ps.map fun p=>(p.1,J.ev p.2)).map (·.2)) ((ps.map fun p=>(p.1,a.eval p.2)).map (·.2)):=by
  intro ps;induction ps with
  |nil=>rfl
  |cons p ps ih=>exact⟨_,_,rfl,S.ev p.2,ih⟩
 obtain⟨zv,hzr,aCO,aKK⟩:=al4 (w:=w) hz;have hzl:zv.cells.size=i.size:=by have:=(aCO (C.env U J.heap w)).length;simp at this;omega
 have hrl:∀r∈an len z,r.length=i.size:=by
  grind
 obtain⟨h1,h2,h3⟩:=ana hrl hf
 have agl:l9 (C.env U J.heap w) (an len z).flatten ((bt (len*i.size)).map (fun j=>(if len*i.size=0 then(#[]:Array aPr)else zv.cells)[j % (if len*i.size=0 then(#[]:Array aPr)else zv.cells).size]!)).toList:=by
  grind [akw,Ih]
 obtain⟨us,hus,hr,DI⟩:=ajH (fun j=>some (j*i.size,i.size)) _ (parts.toList.map fun p=>(p.1,a.eval p.2)) _ _ rows.flatten agl (by
  grind [akw,List.mem_flatten]) (by simp) (hev _) h1
 have hlen:rows.length=len:=by simpa using h2
 have aCN:us.toList.length=len*i.size:=by
  rw[hr.length,GH h3,hlen]
 refine⟨us,?_,hr,DI,hlen,h3,aCN⟩;have axO:(parts.map fun(i,x)=>(i,a.eval x)).toList=parts.toList.map fun p=>(p.1,a.eval p.2):=by simp
 have hsz:(sizeOf e).run C.P w=.ok i.size w:=by simp [sizeOf,typeInfo,hi]
 by_cases h0:len*i.size=0
 ·simp only[h0,kW]at hus;simp only[aP,ai,run_underlying hu,ae,hsz,h0,kW,axO];simp only[Nat.not_lt_zero,if_false,gt_iff_lt];simp only[hus,newRow,ai,run_newObj,ae,au];rfl
 ·simp only[h0,if_false]at hus;have hle: ¬ (len*i.size>2 ^ 24):=by omega
  simp only[aP,ai,run_underlying hu,ae,hsz,h0,if_false,au,axO,hle,hzr];simp only[hus,newRow,ai,run_newObj,ae,au];rfl
def al5(S:pW C U J a w){e:aPv}{len sz bytes:Nat}(ht:nY C.P t=some (e,sz,bytes))
 (hz:ou C.P e=some z) (hl:z.length=sz/\len*sz<=16777216) (hf:ade sz (an len z) (parts.toList.map fun p=>(p.1,J.ev p.2))=some rows):
 ∃v c,(aP t len (parts.map fun(i,x)=>(i,a.eval x))).run C.P w=.ok v (World.more w (.cells c e))/\
  rD (C.env U J.heap (World.more w (.cells c e))) (.mj true sz rows) v:=by
 obtain⟨us,xF,hr,DI,hlen,h3,aCN⟩:=agk S ht hz hl hf;refine⟨.slice (some ⟨w.heap.size,0,none⟩) len len,us,xF,some ⟨w.heap.size,0,none⟩,len,by rw[hlen],by omega,fun _=>hlen.symm,by simp,by simp,?_⟩
 grind [am5]
end sound
section sound
variable {a:Act} {w:aPs}
def aOP {u e:aPv}{sLen sCap:Nat}{x:aPr}(hu:P.underlying t=some (.slice e))(hi:P.info? e=some i)
 (hd:P.underlying u=some d) (hni:∀k,d≠ .int k) (hlen:(bV x).run P w=.ok n w) (aqY:(aq i.size n x).run P w=.ok us w) (al6:sLen+n<=sCap):
 (am #[t,u] ty #[.slice base sLen sCap,x]).run P w=
   (match base with|some a=>(storeCells (a.add (sLen*i.size)) us.toList).run P w|none=>.ok () w).andThen fun _ w'=>.ok (.slice base (sLen+n) sCap) w':=by
 have hsz:(sizeOf e).run P w=.ok i.size w:=by simp [sizeOf,typeInfo,hi]
 cases d<;>try (exact absurd rfl (hni _))
 all_goals
  simp only[am,bL,aH,bc,ai,run_underlying hu,run_underlying hd,ae,hsz,hlen,al6,kW,au,aK,if_false,bM,aqY];cases base with
  |none=>rfl
  |some b=>simp only[ai,au]
theorem arW(aCP:Nat):∀(r c:Nat),256<=c->bN aCP r c<=2 ^ r*c
 |0,c,_=>by simp [bN]
 |r+1,c,h=>by
  unfold bN;split
  ·have:1<=2 ^ (r+1):=Nat.one_le_two_pow
   calc c=1*c:=by omega
    _<=_:=ay _ this
  ·have h1:=arW aCP r (c+(c+768) / 4) (by omega);have h2:c+(c+768) / 4<=2*c:=by omega
   calc _<=2 ^ r*(c+(c+768) / 4):=h1
    _<=2 ^ r*(2*c):=Nat.mul_le_mul_left _ h2
    _=2 ^ (r+1)*c:=by grind
def axP{nR cap:Nat}(h:cap<nR):bj nR cap<=16*nR:=by
 grind [bj,arW]
def abo {u e:aPv}{sLen sCap:Nat}{x zv:aPr}{old:Array aPr}(hu:P.underlying t=some (.slice e))(hi:P.info? e=some i)
 (hd:P.underlying u=some d) (hni:∀k,d≠ .int k) (hlen:(bV x).run P w=.ok n w) (aqY:∀k,(aq i.size n x).run P {w with drawn:=k}=.ok us {w with drawn:=k})
 (hold:∀k,(aq i.size sLen (.slice base sLen sCap)).run P {w with drawn:=k}=.ok old {w with drawn:=k}) (hz:i.zero=some zv)
 (aM3:sCap<sLen+n) (SR:(sLen+n)*i.bytes<=2 ^ 44) (hb:0<i.bytes):
 ∃cap,sLen+n<=cap/\(am #[t,u] ty #[.slice base sLen sCap,x]).run P w=
  .ok (.slice (some ⟨w.heap.size,0,none⟩) (sLen+n) cap) (World.more {w with drawn:=w.drawn+1} (.cells (old++us++bz zv.cells (cap-(sLen+n))) e)):=by
 have hsz:∀w:aPs,(sizeOf e).run P w=.ok i.size w:=fun w=>by simp [sizeOf,typeInfo,hi]
 have hti:∀w:aPs,(typeInfo e).run P w=.ok i w:=fun w=>by simp [typeInfo,hi]
 have hzv:∀w:aPs,(zeroValue e).run P w=.ok zv w:=fun w=>by simp [zeroValue,typeInfo,hi,hz]
 have aOl:sLen+n<=2 ^ 44:=bC (Nat.le_mul_of_pos_right _ hb) SR
 have GI: ¬ (bj (sLen+n) sCap*i.bytes>2 ^ 48):=by
  have h1:=ay i.bytes (axP aM3);rw[Nat.mul_assoc]at h1;omega
 have hb0:i.bytes≠0:=by omega
 have al6: ¬ (sLen+n<=sCap):=by omega
 refine⟨(sLen+n)+w.tape w.drawn (.appendCap (sLen+n) sCap e) % (2 ^ 63-(sLen+n)),by omega,?_⟩;cases d<;>try (exact absurd rfl (hni _))
 all_goals
  simp only[am,bL,aH,bc,ai,run_underlying hu,run_underlying hd,ae,hsz,hlen,al6,if_false,au,hti,aK,hb0,or_self,and_false,GI,run_choose,Question.forced,Question.cut,run_askRoom,hold,aqY,hzv,bM,kW,newRow,run_newObj];rfl
def pW.axQ(S:pW C U J a w){sz:Nat}{wT:Bool}(hl:J.heap[l]? =some (.nW wT sz rows))(hys:0<ys.length\/h'=U l)
 (abp:w.heap.size<=w'.heap.size)
 (wU:∀b o,b<w.heap.size-> ¬ (lw.nW wT sz rows).Ew (U l) b o->w'.cell? ⟨b,o,none⟩=w.cell? ⟨b,o,none⟩)
 (MK:∀b,b<w.heap.size-> ¬ (lw.nW wT sz rows).block (U l) b->w'.heap[b]? =w.heap[b]?)
 (aCQ:∀x,w'.frozen? x=w.frozen? x) (xn:w'.output=w.output/\w'.os=w.os)
 (JW:∀b,(lw.nW wT sz (rows++ys)).block h' b->(lw.nW wT sz rows).block (U l) b\/w.heap.size<=b)
 (anb:∀b o,(lw.nW wT sz (rows++ys)).Ew h' b o->(lw.nW wT sz rows).Ew (U l) b o\/w.heap.size<=b)
 (aOQ:∀E',(C.env U J.heap w).Le J.heap.length E'->E'.w=w'->qV E' (.nW wT sz (rows++ys)) h') (hty:tyk w w':=by first|exact fun _ c _ fz h=>⟨c,fz,h⟩|exact aoZ rfl|exact aoL _ _ _|exact aoY (by assumption)|assumption):
 pW C (fun k=>if k=l then h' else U k) {J with heap:=J.heap.set l (.nW wT sz (rows++ys))} a w':=by
 have q9:l<J.heap.length:=(aj.1 hl).1
 let U':Nat->aPr:=fun k=>if k=l then h' else U k
 have hφl:U' l=h':=by simp [U']
 have hφk:∀k,k≠l->U' k=U k:=fun k hk=>by simp [U',hk]
 have qe:∀(k:Nat)(x:lw),(J.heap.set l (.nW wT sz (rows++ys)))[k]? =some x->(k=l/\x=.nW wT sz (rows++ys))\/(k≠l/\J.heap[k]? =some x):=by
  grind
 have aM4:∀a,U l≠ .pointer a:=by
  obtain⟨base,cap,hh,_⟩:=S.qJ l _ hl;intro a;rw[hh];simp
 have aKL:hdl (U l)=none:=by
  obtain⟨base,cap,hh,_⟩:=S.qJ l _ hl;rw[hh];rfl
 have QT:∀b o,KR U' (J.heap.set l (.nW wT sz (rows++ys))) b o->KR U J.heap b o\/w.heap.size<=b:=by
  rintro b o ⟨k,x,hx,hm⟩;rcases qe k x hx with⟨rfl,rfl⟩|⟨uP,hx⟩
  ·rw[hφl]at hm;exact(anb b o hm).imp (fun h=>⟨k,_,hl,h⟩) id
  ·rw[hφk k uP]at hm;exact .inl ⟨k,x,hx,hm⟩
 have le:(C.env U J.heap w).Le J.heap.length (C.env U' (J.heap.set l (.nW wT sz (rows++ys))) w'):=by
  refine⟨by simp [tC.env],fun k hk=>?_,fun b o u hm hc=>?_,hty⟩
  ·grind [tC.env,oO]
  ·have hb:=Kk hc;simp only[tC.env]at hb hm ⊢;refine⟨fun h=>?_,?_⟩
   ·grind
   ·rw[wU b o hb (fun h=>hm (.inl ⟨l,_,hl,h⟩))];exact hc
 have FE:vW C U' (J.heap.set l (.nW wT sz (rows++ys))) w' J.df a.defers:=by
  refine S.defers.step le (fun b hb hno=>MK b hb (hno l _ hl)) (fun k x b hx hb=>?_)
  grind
 refine {lE:=l9.mono le _ _ (l9.nb _ _ S.lE) S.lE,defers:=FE,qJ:=?_,apart:=?_,wZ:=?_,size:=bC S.size abp,old:=?_,qE:=?_,F2:=?_,AH:=fun x hx=>by rw[aCQ];exact S.AH x hx,rest:=⟨by rw[xn.1];exact S.rest.1,by rw[xn.2];exact S.rest.2⟩,low:=⟨S.low.1,by simpa using S.low.2⟩,mZ:=?_}
 ·intro k x hx;rcases qe k x hx with⟨rfl,rfl⟩|⟨uP,hx⟩
  ·have:=aOQ _ le rfl;simpa using this
  ·have r0:=S.qJ k x hx
   have:qV (C.env U' (J.heap.set l (.nW wT sz (rows++ys))) w') x (U k):=by
    refine qV.mono r0 le (fun b hb=>MK b (r0.tT hb) (fun h=>?_));exact uP (S.apart k l x _ b hx hl hb h)
   simpa [uP] using this
 ·intro k k' x x' b hx EC hb uD;rcases qe k x hx with⟨rfl,rfl⟩|⟨uP,Z6⟩<;>rcases qe k' x' EC with⟨rfl,rfl⟩|⟨aqX,WH⟩
  ·rfl
  ·simp only[kW]at hb;simp only[aqX,if_false]at uD;rcases JW b hb with h|h
   ·exact S.apart k k' _ x' b hl WH h uD
   ·have:=(S.qJ k' x' WH).tT uD;simp only[tC.env]at this;omega
  ·simp only[kW]at uD;simp only[uP,if_false]at hb;rcases JW b uD with h|h
   ·exact S.apart k k' x _ b Z6 hl hb h
   ·have:=(S.qJ k x Z6).tT hb;simp only[tC.env]at this;omega
  ·simp only[uP,aqX,if_false]at hb uD;exact S.apart k k' x x' b Z6 WH hb uD
 ·intro k x b o hx hb;rcases qe k x hx with⟨rfl,rfl⟩|⟨uP,Z6⟩
  ·simp only[kW]at hb;rcases JW b hb with h|h
   ·exact S.wZ k _ b o hl h
   ·intro hA;have:=C.hA _ _ hA;have:=S.size;omega
  ·simp only[uP,if_false]at hb;exact S.wZ k x b o Z6 hb
 ·intro b o hb hm;rw[wU b o (aa hb S.size) (fun h=>hm (S.F2 l _ b o hl h hb))];exact S.old b o hb hm
 ·intro b hb hm;rw[MK b (aa hb S.size) (fun h=>?_)]
  ·exact S.qE b hb hm
  ·obtain⟨base,cap,hh,_⟩:=S.qJ l _ hl;rw[hh]at h;cases base with
   |none=>simp [lw.block]at h
   |some a0=>
    simp only[lw.block]at h;exact hm (a0.off+rows.length*sz) (S.F2 l _ b _ hl (by rw[hh];exact⟨h,fun _=>aC _⟩) hb)
 ·intro k x b o hx hm hb;rcases qe k x hx with⟨rfl,rfl⟩|⟨uP,Z6⟩
  ·simp only[kW]at hm;rcases anb b o hm with h|h
   ·exact S.F2 k _ b o hl h hb
   ·have:=S.size;omega
  ·simp only[uP,if_false]at hm;exact S.F2 k x b o Z6 hm hb
 ·intro k hk;have:=S.mZ k hk
  grind [oO]
def pW.adl(S:pW C U J a w){wT:Bool}{sz:Nat}
 (abp:w.heap.size<=w'.heap.size) (MK:∀b,b<w.heap.size->w'.heap[b]? =w.heap[b]?)
 (aCQ:∀x,w'.frozen? x=w.frozen? x) (xn:w'.output=w.output/\w'.os=w.os)
 (JW:∀b,(lw.nW wT sz rows).block h' b->w.heap.size<=b)
 (aOQ:∀E',(C.env U J.heap w).Le J.heap.length E'->E'.w=w'->qV E' (.nW wT sz rows) h'):
 pW C (fun k=>if k=J.heap.length then h' else U k) {J with heap:=J.heap++[.nW wT sz rows]} a w':=by
 let U':Nat->aPr:=fun k=>if k=J.heap.length then h' else U k
 have hφ:∀l,l<J.heap.length->U' l=U l:=fun l hl=>by grind
 have qe:∀(l:Nat)(x:lw),(J.heap++[.nW wT sz rows])[l]? =some x->(l<J.heap.length/\J.heap[l]? =some x)\/(l=J.heap.length/\x=.nW wT sz rows):=by
  grind
 have wU:∀b o,b<w.heap.size->w'.cell? ⟨b,o,none⟩=w.cell? ⟨b,o,none⟩:=by
  grind [World.cell?]
 have QT:∀b o,KR U' (J.heap++[.nW wT sz rows]) b o->w.heap.size<=b\/KR U J.heap b o:=by
  rintro b o ⟨l,x,hx,hm⟩;rcases qe l x hx with⟨hl,hx⟩|⟨rfl,rfl⟩
  ·rw[hφ l hl]at hm;exact .inr ⟨l,x,hx,hm⟩
  ·simp only[U',kW]at hm;exact .inl (JW b (lw.qL hm))
 have le:(C.env U J.heap w).Le J.heap.length (C.env U' (J.heap++[.nW wT sz rows]) w'):=by
  refine tC.GF (by simp) (fun l hl=>⟨hφ l hl,by rw[aB hl]⟩) (fun b i u hm hc=>?_)
  grind [Kk]
 have FE:vW C U' (J.heap++[.nW wT sz rows]) w' J.df a.defers:=by
  refine S.defers.step le (fun b hb _=>MK b hb) (fun l x b hx hb=>?_)
  grind
 refine {lE:=l9.mono le _ _ (l9.nb _ _ S.lE) S.lE,defers:=FE,qJ:=?_,apart:=?_,wZ:=?_,size:=bC S.size abp,old:=?_,qE:=?_,F2:=?_,AH:=fun x hx=>by rw[aCQ];exact S.AH x hx,rest:=⟨by rw[xn.1];exact S.rest.1,by rw[xn.2];exact S.rest.2⟩,low:=⟨S.low.1,by have:=S.low.2;simp;omega⟩,mZ:=?_}
 ·intro l x hx;rcases qe l x hx with⟨hl,hx⟩|⟨rfl,rfl⟩
  ·have r0:=S.qJ l x hx;have:qV (C.env U' (J.heap++[.nW wT sz rows]) w') x (U l):=qV.mono r0 le (fun b hb=>MK b (r0.tT hb))
   grind
  ·have:=aOQ _ le rfl;simpa using this
 ·intro l l' x x' b hx EC hb uD;rcases qe l x hx with⟨hl,Z6⟩|⟨rfl,rfl⟩<;>rcases qe l' x' EC with⟨hl',WH⟩|⟨rfl,rfl⟩
  ·rw[show(if l=J.heap.length then _ else U l)=U l from hφ l hl]at hb;rw[show(if l'=J.heap.length then _ else U l')=U l' from hφ l' hl']at uD;exact S.apart l l' x x' b Z6 WH hb uD
  ·rw[show(if l=J.heap.length then _ else U l)=U l from hφ l hl]at hb;have:=(S.qJ l x Z6).tT hb
   grind [tC.env]
  ·rw[show(if l'=J.heap.length then _ else U l')=U l' from hφ l' hl']at uD;have:=(S.qJ l' x' WH).tT uD
   grind [tC.env]
  ·rfl
 ·intro l x b o hx hb;rcases qe l x hx with⟨hl,Z6⟩|⟨rfl,rfl⟩
  ·rw[show(if l=J.heap.length then _ else U l)=U l from hφ l hl]at hb;exact S.wZ l x b o Z6 hb
  ·simp only[kW]at hb;intro hA;have:=C.hA _ _ hA;have:=JW b hb;have:=S.size;omega
 ·intro b i hb hm;rw[wU b i (aa hb S.size)];exact S.old b i hb hm
 ·intro b hb hm;rw[MK b (aa hb S.size)];exact S.qE b hb hm
 ·intro l x b o hx hm hb;rcases qe l x hx with⟨hl,Z6⟩|⟨rfl,rfl⟩
  ·rw[show(if l=J.heap.length then _ else U l)=U l from hφ l hl]at hm;exact S.F2 l x b o Z6 hm hb
  ·simp only[kW]at hm;have:=JW b (lw.qL hm);have:=S.size;omega
 ·intro l hl;have q9:l<J.heap.length:=by have:=S.low;omega
  have:=S.mZ l hl
  grind
end sound
section sound
variable {a:Act} {w:aPs}
def agm{E:HI}{sz b:Nat}:∀{rows:List (List AV)}{off:Nat},qI E sz b off rows->q5 E b off rows.flatten/\∀r∈rows,r.length=sz
 |[],_,_=>⟨trivial,by simp⟩
 |r::rows,off,⟨h1,h2,h3⟩=>by
  obtain⟨m,hl⟩:=agm h3
  grind [q5.append]
def aiX{E:HI}{b:Nat}:∀{cs:List AV}{off:Nat}{us:List aPr},q5 E b off cs->l9 E cs us->(∀j u,us[j]? =some u->E.w.cell? ⟨b,off+j,none⟩=some u)->∀u∈us,u.oneCell'=true
 |[],_,_,_,rfl,_=>by simp
 |c::cs,off,_,⟨⟨_,u,hu,h1,_⟩,r2⟩,⟨u',us,rfl,_,rl⟩,hc=>by
  intro v hv;simp only[be]at hv;rcases hv with rfl|hv
  ·have:=hc 0 v (by simp)
   grind
  ·exact aiX r2 rl (fun j w hj=>by rw[<-hc (j+1) w (by simpa using hj)];congr 2;omega) v hv
def aCR(P:aPu)(E:HI)(sz:Nat)(rows:List (List AV))(v:aPr):Prop:=
 ∃us:List aPr,l9 E rows.flatten us/\us.length=rows.length*sz/\(∀r∈rows,r.length=sz)/\(∀u∈us,u.oneCell'=true)/\
  ∀k,(aq sz rows.length v).run P {E.w with drawn:=k}=.ok us.toArray {E.w with drawn:=k}
def arX{sz VU:Nat}{t:Bool}(h:VU=sz\/rows.length=0)(r:rD E (.mj t VU rows) v):aCR P E sz rows v:=by
 obtain⟨base,cap,rfl,h2,h3,h4,h5,h6⟩:=r;cases base with
 |none=>
  have h0:rows.length=0:=by have:=h4 rfl;omega
  have:rows=[]:=af h0;subst this;exact⟨[],rfl,by simp,by simp,by simp,fun k=>by simp [aq]⟩
 |some a=>
  by_cases hr:rows=[]
  ·subst hr;exact⟨[],rfl,by simp,by simp,by simp,fun k=>by simp [aq,loadCells,loadCellsFrom]⟩
  ·have hsz:VU=sz:=by
    grind
   subst hsz;obtain⟨m,hl⟩:=agm (h6 a rfl);obtain⟨us,rl,hc⟩:=aOO m;have DI:=aiX m rl hc;have hlen:us.length=rows.length*VU:=by rw[rl.length,GH hl]
   refine⟨us,rl,hlen,hl,DI,fun k=>?_⟩;have hsp:=h5 a rfl hr;have ha:a=⟨a.block,a.off,none⟩:=by cases a;simp_all
   have:=run_loadCells_list (P:=P) {E.w with drawn:=k} a us (fun j v hj=>by
    rw[ha,DC];exact hc j v hj)
   grind [aq]
def arY(S:pW C U J a w){sz:Nat}{wT:Bool}(hl:J.heap[l]? =some (.nW wT sz rows)):aCR P (C.env U J.heap w) sz rows (U l):=by
 obtain⟨base,cap,hh,h2,h3,h4,h5⟩:=S.qJ l _ hl;rw[hh];cases base with
 |none=>
  have h0:rows.length=0:=by have:=h3 rfl;omega
  have:rows=[]:=af h0;subst this;exact⟨[],rfl,by simp,by simp,by simp,fun k=>by simp [aq]⟩
 |some b=>
  by_cases GI:cap=0
  ·have h0:rows.length=0:=by omega
   have:rows=[]:=af h0;subst this;exact⟨[],rfl,by simp,by simp,by simp,fun k=>by simp [aq,loadCells,loadCellsFrom]⟩
  ·obtain⟨hsp,c,t,hc,hsz,rl,DI⟩:=h5 b rfl GI;have hle:rows.length*sz<=cap*sz:=ay _ h2
   have hlen:((c.toList.drop b.off).take (rows.length*sz)).length=rows.length*sz:=by
    grind
   refine⟨_,rl,hlen,h4,DI,fun k=>?_⟩;have ha:b=⟨b.block,b.off,none⟩:=by cases b;simp_all
   grind [run_loadCells_list,DC,World.cell?,aq]
def SA(_S:pW C U J a w){sz:Nat}{wT:Bool}(hl:J.heap[l]? =some (.nW wT sz rows))(hn:rows.length=n)
 (r:rD (C.env U J.heap w) (.nW l n) v):v=U l:=by
 obtain⟨_,_,h⟩:=r
 grind [tC.env,oO]
def agn (S:pW C U J a w){sz:Nat} (hl:J.heap[l]? =some (.nW true sz rows)):rD (C.env U J.heap w) (.mj false sz rows) (U l):=by
 obtain⟨base,cap,hh,h2,h3,h4,h5⟩:=S.qJ l _ hl;refine⟨base,cap,hh,h2,(by intro h;cases h),h3,?_,?_⟩
 ·intro b hb uP;have hc:cap≠0:=fun h0=>uP (af (by omega))
  exact(h5 b hb hc).1
 ·intro b hb;by_cases hc:cap=0
  ·have:rows=[]:=af (by omega);subst this;trivial
  ·obtain⟨hsp,c,t,hcb,hsz,rl,DI⟩:=h5 b hb hc;subst hb;have hle:rows.length*sz<=cap*sz:=ay _ h2
   have hnm:∀o,o<b.off+rows.length*sz-> ¬ (KR U J.heap b.block o\/C.A b.block o):=by
    intro o ho hmu;have hbl:(lw.nW true sz rows).block (U l) b.block:=by rw[hh];exact⟨rfl,hc⟩
    rcases hmu with⟨l',x,hx,hm⟩|hA
    ·have e:=S.apart l' l x _ b.block hx hl (lw.qL hm) hbl;subst e;rw[hl]at hx;cases hx;rw[hh]at hm;have:=hm.2 rfl;omega
    ·exact S.wZ l _ b.block o hl hbl hA
   have key: ∀ (rs:List (List AV)) (off:Nat),(∀r∈rs,r.length=sz)->off+rs.length*sz<=b.off+rows.length*sz->
    l9 (C.env U J.heap w) rs.flatten ((c.toList.drop off).take (rs.length*sz))->(∀u∈(c.toList.drop off).take (rs.length*sz),u.oneCell'=true)->qI (C.env U J.heap w) sz b.block off rs:=by
    have mem:∀(cs:List AV)(off:Nat),off+cs.length<=b.off+rows.length*sz->l9 (C.env U J.heap w) cs ((c.toList.drop off).take cs.length)->(∀u∈(c.toList.drop off).take cs.length,u.oneCell'=true)->
     q5 (C.env U J.heap w) b.block off cs:=by
     intro cs;induction cs with
     |nil=>intro _ _ _ _;trivial
     |cons x cs ih=>
      intro off ho r h1;obtain⟨u,us,hu,r1,r2⟩:=r
      have hcu:c[off]? =some u:=by
       have:(c.toList.drop off)[0]? =some u:=by
        have:=congrArg (fun l:List aPr=>l[0]?) hu;simpa using this
       simpa using this
      have htl:us=(c.toList.drop (off+1)).take cs.length:=by
       have h1:=congrArg List.tail hu;simp only[List.tail_cons]at h1;rw[<-h1];cases hd:c.toList.drop off with
       |nil=>rw[hd]at hu;simp at hu
       |cons y ys=>
        grind [bJ]
      simp only[aI]at ho;simp only[tC.env]at hcb;refine⟨⟨hnm off (by omega),u,by grind [tC.env,World.cell?],h1 u (by rw[hu];simp),r1⟩,ih (off+1) (by omega) (by rw[<-htl];exact r2) (fun v hv=>h1 v (by rw[hu,htl];simp [hv]))⟩
    intro rs;induction rs with
    |nil=>intro _ _ _ _ _;trivial
    |cons r rs ih=>
     intro off hl' ho h h1;have hr:r.length=sz:=hl' r (by simp);simp only[aF]at h;have h3:=l9.take r.length h;have h2:=l9.drop r.length h;simp only[bh,bi,bK,bb,aV]at h3 h2
     have e1:min r.length ((r::rs).length*sz)=r.length:=by
      grind [aD]
     have e2:(r::rs).length*sz-r.length=rs.length*sz:=by grind [aD]
     simp only[aI,aD,b9]at ho;rw[e1]at h3;rw[e2,hr]at h2;refine⟨hr,mem r off (by omega) h3 (fun u hu=>h1 u ?_),ih (off+sz) (fun q hq=>hl' q (by simp [hq])) (by omega) h2 (fun u hu=>h1 u ?_)⟩
     ·have:(c.toList.drop off).take r.length=((c.toList.drop off).take ((r::rs).length*sz)).take r.length:=by rw[bK,e1]
      grind
     ·have:(c.toList.drop (off+sz)).take (rs.length*sz)=((c.toList.drop off).take ((r::rs).length*sz)).drop sz:=by
       grind [bb,aV]
      grind
   grind
def aqZ(S:pW C U J a w){sz:Nat}(h:adg J sz y=some (rd,ys))(r:rD (C.env U J.heap w) y v):
 aCR P (C.env U J.heap w) sz ys v/\(bV v).run P w=.ok ys.length w:=by
 unfold adg at h;split at h
 ·split at h
  ·rename_i hc;cases h;refine⟨arX hc r,?_⟩;obtain⟨_,_,rfl,_⟩:=r;rfl
  ·cases h
 ·split at h
  ·rename_i hl;split at h
   ·rename_i hc;cases h;have hv:=SA S hl hc.2 r;subst hv;refine⟨hc.1 ▸ arY S hl,?_⟩;obtain⟨base,cap,hh,_⟩:=S.qJ _ _ hl;rw[hh];rfl
   ·cases h
  ·cases h
 ·cases h;have r:v=_:=r;subst r;exact⟨⟨[],rfl,by simp,by simp,by simp,fun k=>by rename_i base cap;cases base<;>simp [aq,loadCells,loadCellsFrom]⟩,rfl⟩
 ·cases h
theorem ago(z:Array aPr)(n:Nat):(bz z n).size=n*z.size:=by simp [bz]
def ao6 {sz cap:Nat}{e:aPv}{us:List aPr}{zs:Array aPr}{wT:Bool}(Q3:∀r∈rows,r.length=sz)
 (hr:l9 E' rows.flatten us) (DI:∀u∈us,u.oneCell'=true) (hw:E'.w.heap[b]? =some (.cells c e (0,0))) (hc:c.toList=us++zs.toList) (hz:zs.size=(cap-rows.length)*sz) (hle:rows.length<=cap):
 qV E' (.nW wT sz rows) (.slice (some ⟨b,0,none⟩) rows.length cap):=by
 have hus:us.length=rows.length*sz:=by rw[hr.length,GH Q3]
 refine⟨some ⟨b,0,none⟩,cap,rfl,hle,by simp,Q3,fun a ha _=>?_⟩;simp only[ah]at ha;subst ha;refine⟨rfl,c,e,hw,?_,?_⟩
 ·have:c.size=rows.length*sz+(cap-rows.length)*sz:=by grind [bq]
  rw[this,<-aD]
  grind
 grind
theorem agp(J:k9)(dst:Option Tmp)(x:AV)(rd:List Nat)(l:Nat)(o:lw)(p:Prop):
 J.app dst {val:=x,rd,up:=[(l,o)],pre:=p}=k9.put {J with heap:=J.heap.set l o} dst x:=by
 cases dst<;>simp [k9.app,pI,k9.put]
theorem al7(J:k9)(dst:Option Tmp)(x:AV)(rd:List Nat)(o:lw)(p:Prop):
 J.app dst {val:=x,rd,nw:=[o],pre:=p}=k9.put {J with heap:=J.heap++[o]} dst x:=by
 cases dst<;>simp [k9.app,pI,k9.put]
def as8 (S:pW C U J a w){u e:aPv} {sz bytes:Nat}{vy:aPr} (ht:nY C.P t=some (e,sz,bytes)) (hu:nL C.P u=true)
 (hz:ou C.P e=some z) (hzl:z.length=sz/\0<sz/\0<bytes) (h:aPd im J sz bytes x y=some ef) (hp:ef.pre)
 (rx:rD (C.env U J.heap w) x vx) (ry:rD (C.env U J.heap w) y vy):
 ∃v w' U',(am #[t,u] ty #[vx,vy]).run C.P w=.ok v w'/\pW C U' (J.app dst ef) (a.put dst v) w':=by
 obtain⟨hut,i,hi,rfl,rfl⟩:=Ph ht
 obtain⟨d,hd,hni⟩:∃d,C.P.underlying u=some d/\∀k,d≠ .int k:=by
  grind [nL]
 obtain⟨zv,hzi,hzs⟩:∃zv,i.zero=some zv/\zv.cells.size=i.size:=by
  grind [ou]
 unfold aPd at h;split at h
 ·cases h
 rename_i rd ys aqY;obtain⟨⟨us,rus,lus,aKM,azU,aFM⟩,auS⟩:=aqZ (P:=C.P) S aqY ry;simp only[tC.env]at aFM;have aCS:(aq i.size ys.length vy).run C.P w=.ok us.toArray w:=aFM w.drawn;split at h
 ·
  rename_i l n;split at h
  ·rename_i wT VU rows hl;split at h
   ·rename_i hc;obtain⟨rfl,hn⟩:=hc;cases h;simp only at hp;have hvx:=SA S hl hn rx;subst hvx;obtain⟨base,cap,hh,h2,h3,h4,h5⟩:=S.qJ l _ hl
    have Q3:∀r∈rows++ys,r.length=i.size:=by
     grind
    have q9:l<J.heap.length:=(aj.1 hl).1
    have CF:∀{h':aPr}{w':aPs},(∃b m c,h'=.slice b m c)->(am #[t,u] ty #[U l,vy]).run C.P w=.ok h' w'->
     pW C (fun k=>if k=l then h' else U k) {J with heap:=J.heap.set l (.nW wT i.size (rows++ys))} a w'->
     ∃v w' U',(am #[t,u] ty #[U l,vy]).run C.P w=.ok v w'/\
      pW C U' (J.app dst {val:=.nW l (rows++ys).length,rd:=l::rd,up:=[(l,.nW wT i.size (rows++ys))],pre:=room (rows.length+ys.length) i.bytes}) (a.put dst v) w':=by
     intro h' w' hsl xF hS;refine⟨h',w',(fun k=>if k=l then h' else U k),xF,?_⟩
     have:=hS.put dst (x:=.nW l (rows++ys).length) (v:=h') ⟨by simpa [tC.env] using q9,hsl,fun k hk=>by
      grind [tC.env,oO]⟩
     rw[agp];exact this
    by_cases al6:rows.length+ys.length<=cap
    ·have xF:=aOP (w:=w) (ty:=ty) (base:=base) (sLen:=rows.length) (sCap:=cap) hut hi hd hni auS aCS al6;by_cases GI:cap=0
     ·
      have hr0:rows=[]:=af (by omega);have hy0:ys=[]:=af (by omega);subst hr0 hy0;have hu0:us=[]:=by simpa using lus
      subst hu0;rw[<-hh]at xF
      have ao7:(am #[t,u] ty #[U l,vy]).run C.P w=.ok (U l) w:=by
       rw[xF,hh];cases base<;>simp [storeCells]
      refine CF ⟨_,_,_,hh⟩ ao7 (S.axQ hl (.inr rfl) (aC _) (fun _ _ _ _=>rfl) (fun _ _ _=>rfl) (fun _=>rfl) ⟨rfl,rfl⟩ (fun b hb=>.inl (by simpa using hb)) (fun b o hm=>.inl (by simpa using hm)) ?_);intro E' hle hw;rw[hh];exact⟨base,cap,by simp,by simp,h3,by simp,fun b hb hc=>absurd GI hc⟩
     ·cases base with
      |none=>exact absurd (h3 rfl) GI
      |some b=>
       obtain⟨hsp,c,tc,hcb,hsz,rl,aKN⟩:=h5 b rfl GI;simp only[tC.env]at hcb;have hb:b=⟨b.block,b.off,none⟩:=by cases b;simp_all
       have e1:(rows.length+ys.length)*i.size<=cap*i.size:=ay _ al6;have e2:(rows.length+ys.length)*i.size=rows.length*i.size+ys.length*i.size:=aD ..
       have hst:=run_storeCells_at C.P b.block (b.off+rows.length*i.size) tc us 0 c w hcb (by omega) azU;simp only[bB]at hst
       let c':Array aPr:=(c.toList.take (b.off+rows.length*i.size)++us++c.toList.drop (b.off+rows.length*i.size+us.length)).toArray
       have ao7:(am #[t,u] ty #[U l,vy]).run C.P w=.ok (.slice (some b) (rows.length+ys.length) cap) (w.setRow b.block c'):=by
        grind [DC,ae]
       have aFN:∀o,o<b.off+rows.length*i.size->c'[o]? =c[o]? :=by
        grind [aB]
       refine CF ⟨_,_,_,rfl⟩ ao7 (S.axQ hl ?_ (by simp) ?_ ?_ ?_ ⟨rfl,rfl⟩ ?_ ?_ ?_)
       ·grind
       ·intro b' o uD hm;by_cases e:b'=b.block
        ·subst e;simp only[World.cell?];rw[setRow_heap w b.block c c' tc _ hcb,hcb];simp only[b8,aK,if_false];apply aFN;rw[hh]at hm;cases wT with
         |false=>exact absurd ⟨⟨rfl,GI⟩,fun h=>by cases h⟩ hm
         |true=>
          by_cases ho:o<b.off+rows.length*i.size
          ·exact ho
          ·exact absurd ⟨⟨rfl,GI⟩,fun _=>by omega⟩ hm
        grind [cell_setRow_other]
       ·intro b' uD hbl;rw[hh]at hbl;exact setRow_other w b.block b' c' (fun e=>hbl ⟨e,GI⟩)
       ·intro x;by_cases e:x.block=b.block
        ·simp only[World.frozen?];rw[e,setRow_heap w b.block c c' tc _ hcb,hcb]
        grind [World.frozen?,setRow_other]
       ·intro b' uD;left;rw[hh];exact uD
       ·intro b' o hm;left;rw[hh];refine⟨hm.1,fun hi'=>?_⟩;have:=hm.2 hi';omega
       ·intro E' hle hw;refine⟨some b,cap,by simp,by simpa using al6,by simp,Q3,fun b0 hb0 _=>?_⟩;simp only[ah]at hb0;subst hb0;refine⟨hsp,c',tc,by rw[hw];exact setRow_heap w b.block c c' tc _ hcb,?_,?_⟩
        ·have:c'.size=c.size:=by simp [c'];omega
         omega
        ·have rl':=l9.mono hle _ _ (l9.nb _ _ rl) rl;have ru':=l9.mono hle _ _ (l9.nb _ _ rus) rus;have:=rl'.append ru';rw[br]
         have e3:(c'.toList.drop b.off).take ((rows++ys).length*i.size)=(c.toList.drop b.off).take (rows.length*i.size)++us:=by
          have hcl:b.off+rows.length*i.size<=c.toList.length:=by simp;omega
          have e4:c'.toList=c.toList.take b.off++((c.toList.drop b.off).take (rows.length*i.size)++(us++c.toList.drop (b.off+rows.length*i.size+us.length))):=by
           simp only[c',aU];rw[<-aU (c.toList.take b.off),<-bW]
          rw[e4,bp (by simp;omega),bb];simp only[Nat.sub_self,List.take_zero,List.nil_append];rw[<-aU];apply bh;simp only[List.length_append,bD,List.length_drop,lus,aD];omega
         rw[e3];exact⟨this,fun v hv=>(bl.1 hv).elim (aKN v) (azU v)⟩
    ·
     have hold:=(arY (P:=C.P) S hl);obtain⟨os,ros,los,_,aCT,aAY⟩:=hold;rw[hh]at aAY;simp only[tC.env]at aAY;obtain⟨aM5,hle,xF⟩:=abo (w:=w) (ty:=ty) hut hi hd hni auS aFM aAY hzi (by omega) hp hzl.2.2;rw[<-hh]at xF;refine CF ⟨_,_,_,rfl⟩ xF (S.axQ hl (.inl (by omega)) (by simp) ?_ ?_ ?_ ⟨rfl,rfl⟩ ?_ ?_ ?_)
     ·intro b o hb _;exact JS {w with drawn:=w.drawn+1} _ hb
     ·intro b hb _;exact CL {w with drawn:=w.drawn+1} _ hb
     ·intro x;rw[AJ {w with drawn:=w.drawn+1} _ (by intro c' t' lo hi h;cases h;exact⟨rfl,rfl⟩)];rfl
     ·intro b hb;right;have:b=w.heap.size:=hb.1;omega
     ·intro b o hm;right;have:b=w.heap.size:=hm.1.1;omega
     ·intro E' aCU hw;have ro':=l9.mono aCU _ _ (l9.nb _ _ ros) ros;have ru':=l9.mono aCU _ _ (l9.nb _ _ rus) rus;have hll:(rows++ys).length=rows.length+ys.length:=by simp
      rw[<-hll];refine ao6 (us:=os++us) Q3 (by rw[br];exact ro'.append ru') (fun v hv=>(bl.1 hv).elim (aCT v) (azU v)) (by rw[hw];exact ML {w with drawn:=w.drawn+1} _) (by simp;rfl) ?_ (by omega);rw[ago,hzs,hll]
   ·cases h
  ·cases h
 ·
  rename_i VU rows;split at h
  ·rename_i hc;split at h
   case isFalse uP=>
    cases h;have hy0:ys=[]:=af (by omega);subst hy0;have hu0:us=[]:=by simpa using lus
    subst hu0;obtain⟨base,cap,rfl,h2,h3,h4,h5,h6⟩:=id rx;have GI:=h3 rfl;subst GI;have xF:=aOP (w:=w) (ty:=ty) (base:=base) (sLen:=rows.length) (sCap:=rows.length) hut hi hd hni auS aCS (by simp)
    have ao7:(am #[t,u] ty #[.slice base rows.length rows.length,vy]).run C.P w=.ok (.slice base rows.length rows.length) w:=by
     rw[xF];cases base<;>simp [storeCells]
    refine⟨_,w,U,ao7,?_⟩;have:=S.put dst rx;simpa [k9.app,pI,k9.put] using (by cases dst<;>simpa [k9.put] using this)
   rename_i uP;cases h;have SR:=hp;obtain⟨os,ros,los,aKO,aCT,aAY⟩:=arX (P:=C.P) hc rx;obtain⟨base,cap,rfl,h2,h3,h4,h5,h6⟩:=rx;have GI:=h3 rfl;subst GI;simp only[tC.env]at aAY
   have Q3:∀r∈rows++ys,r.length=i.size:=by
    intro r hr;rcases bl.1 hr with hr|hr
    ·exact aKO r hr
    ·exact aKM r hr
   have CF:∀{h':aPr}{w':aPs},(∃b m c,h'=.slice b m c)->(am #[t,u] ty #[.slice base rows.length rows.length,vy]).run C.P w=.ok h' w'->
    pW C (fun k=>if k=J.heap.length then h' else U k) {J with heap:=J.heap++[.nW im i.size (rows++ys)]} a w'->
    ∃v w' U',(am #[t,u] ty #[.slice base rows.length rows.length,vy]).run C.P w=.ok v w'/\
     pW C U' (J.app dst {val:=.nW J.heap.length (rows++ys).length,rd:=rd,nw:=[.nW im i.size (rows++ys)],pre:=room (rows.length+ys.length) i.bytes}) (a.put dst v) w':=by
    intro h' w' hsl xF hS;refine⟨h',w',(fun k=>if k=J.heap.length then h' else U k),xF,?_⟩
    have:=hS.put dst (x:=.nW J.heap.length (rows++ys).length) (v:=h') ⟨by simp [tC.env],hsl,fun k hk=>by
     simp only[tC.env,List.getElem?_append_right (aC _),Nat.sub_self,aH,oO,ah]at hk;exact⟨by omega,fun _=>by simp [tC.env]⟩⟩
    rw[al7];exact this
   by_cases al6:rows.length+ys.length<=rows.length
   ·have hy0:ys=[]:=af (by omega);subst hy0
    have hr0:rows=[]:=by
     rcases uP with h|h
     ·exact af h
     ·simp at h
    subst hr0;have hu0:us=[]:=by simpa using lus
    subst hu0;have xF:=aOP (w:=w) (ty:=ty) (base:=base) (sLen:=0) (sCap:=0) hut hi hd hni auS aCS (by simp)
    have ao7:(am #[t,u] ty #[.slice base 0 0,vy]).run C.P w=.ok (.slice base 0 0) w:=by
     rw[xF];cases base<;>simp [storeCells]
    refine CF ⟨_,_,_,rfl⟩ ao7 (S.adl (aC _) (fun _ _=>rfl) (fun _=>rfl) ⟨rfl,rfl⟩ ?_ ?_)
    ·intro b hb;cases base<;>simp [lw.block]at hb
    ·intro E' _ _;exact⟨base,0,rfl,by simp,fun _=>rfl,by simp,fun b _ h0=>absurd rfl h0⟩
   ·obtain⟨aM5,hle,xF⟩:=abo (w:=w) (ty:=ty) hut hi hd hni auS aFM aAY hzi (by omega) SR hzl.2.2;refine CF ⟨_,_,_,rfl⟩ xF (S.adl (by simp) ?_ ?_ ⟨rfl,rfl⟩ ?_ ?_)
    ·intro b hb;exact CL {w with drawn:=w.drawn+1} _ hb
    ·intro x;rw[AJ {w with drawn:=w.drawn+1} _ (by intro c' t' lo hi h;cases h;exact⟨rfl,rfl⟩)];rfl
    ·intro b hb;have:b=w.heap.size:=hb.1;omega
    ·intro E' aCU hw;have ro':=l9.mono aCU _ _ (l9.nb _ _ ros) ros;have ru':=l9.mono aCU _ _ (l9.nb _ _ rus) rus;have hll:(rows++ys).length=rows.length+ys.length:=by simp
     rw[<-hll];refine ao6 (us:=os++us) Q3 (by rw[br];exact ro'.append ru') (fun v hv=>(bl.1 hv).elim (aCT v) (azU v)) (by rw[hw];exact ML {w with drawn:=w.drawn+1} _) (by simp;rfl) ?_ (by omega);rw[ago,hzs,hll]
  ·cases h
 ·cases h
end sound
section sound
variable {a:Act} {w:aPs}
theorem Pj(J:k9)(dst:Option Tmp)(x:AV)(rd:List Nat)(p:Prop):J.app dst {val:=x,rd,pre:=p}=J.put dst x:=by
 cases dst<;>simp [k9.app,pI,k9.put]
theorem mX(S:pW C U J a w){m:Sem aPr}(h:∃v,m.run C.P w=.ok v w/\rD (C.env U J.heap w) x v):
 CM C J a w dst ((do pure (.value (<-m)):Sem Next).run C.P w) {val:=x,rd,pre:=p}:=by
 obtain⟨v,hr,rep⟩:=h;refine⟨.value v,v,w,U,by simp [hr],.inl rfl,?_⟩;rw[Pj];exact S.put dst rep
def azV {u:aPv}{i o:Nat}(h:rC P t i=some (o,u)):∃fs f j,P.underlying t=some (.struct fs)/\fs[i]? =some f/\P.info? f.type=some j/\j.size≠0/\f.offset=o/\f.type=u:=by
 grind [rC]
def pW.aCV(S:pW C U J a w){cap sz:Nat}{BA:List (List AV)}{c':Array aPr}(hl:J.heap[l]? =some (.nW false sz rows))(hφ:U l=.slice (some ⟨b,off,none⟩) rows.length cap)(GI:cap≠0)
 (hle:rows.length<=cap) (hlen:BA.length=rows.length) (hh:w.heap[b]? =some (.cells c t (0,0))) (hsz:∀r∈BA,r.length=sz) (al6:off+cap*sz<=c'.size)
 (hr:l9 (C.env U J.heap w) BA.flatten ((c'.toList.drop off).take (BA.length*sz))) (h1:∀u∈(c'.toList.drop off).take (BA.length*sz),u.oneCell'=true):
 pW C U {J with heap:=J.heap.set l (.nW false sz BA)} a (w.setRow b c'):=by
 have q9:l<J.heap.length:=(aj.1 hl).1
 have qe:∀(k:Nat)(x:lw),(J.heap.set l (.nW false sz BA))[k]? =some x->(k=l/\x=.nW false sz BA)\/(k≠l/\J.heap[k]? =some x):=by
  grind
 have anb:∀b' o,(lw.nW false sz BA).Ew (U l) b' o->(lw.nW false sz rows).Ew (U l) b' o:=by
  intro b' o hm;rw[hφ]at hm ⊢;exact⟨hm.1,fun h=>by cases h⟩
 have Mu:∀b',(lw.nW false sz BA).block (U l) b'->(lw.nW false sz rows).block (U l) b':=by
  intro b' hm;rw[hφ]at hm ⊢;exact hm
 have hmb:∀o,(lw.nW false sz rows).Ew (U l) b o:=by
  intro o;rw[hφ];exact⟨⟨rfl,GI⟩,fun h=>by cases h⟩
 have hbb:(lw.nW false sz rows).block (U l) b:=by rw[hφ];exact⟨rfl,GI⟩
 have QT:∀b' o,KR U (J.heap.set l (.nW false sz BA)) b' o->KR U J.heap b' o:=by
  rintro b' o ⟨k,x,hx,hm⟩;rcases qe k x hx with⟨e,rfl⟩|⟨_,hx⟩
  ·rw[e]at hm;exact⟨l,_,hl,anb b' o hm⟩
  ·exact⟨k,x,hx,hm⟩
 have auT:∀k:Nat,oO (J.heap.set l (.nW false sz BA))[k]? =oO J.heap[k]? :=by
  grind [oO]
 have le:(C.env U J.heap w).Le J.heap.length (C.env U (J.heap.set l (.nW false sz BA)) (w.setRow b c')):=by
  refine tC.GF (by simp) (fun k _=>⟨rfl,auT k⟩) (fun b' o u hm hc=>?_);have uP:b'≠b:=fun e=>hm (.inl (e ▸ ⟨l,_,hl,hmb o⟩))
  grind [cell_setRow_other]
 have FE:vW C U (J.heap.set l (.nW false sz BA)) (w.setRow b c') J.df a.defers:=by
  refine S.defers.step le (fun b' _ hno=>?_) (fun k x b' hx hb=>?_)
  all_goals grind [setRow_other]
 refine {lE:=l9.mono le _ _ (l9.nb _ _ S.lE) S.lE,defers:=FE,qJ:=?_,apart:=?_,wZ:=?_,size:=by simpa using S.size,old:=?_,qE:=?_,F2:=?_,AH:=?_,rest:=S.rest,low:=⟨S.low.1,by simpa using S.low.2⟩,mZ:=?_}
 ·intro k x hx;rcases qe k x hx with⟨e,rfl⟩|⟨uP,hx⟩
  ·rw[e];refine⟨some ⟨b,off,none⟩,cap,by rw[hlen];exact hφ,by rw[hlen];exact hle,by simp,hsz,?_⟩;intro a0 ha _;simp only[ah]at ha;subst ha;exact⟨rfl,c',t,setRow_heap w b c c' t _ hh,al6,l9.mono le _ _ (l9.nb _ _ hr) hr,h1⟩
  ·refine qV.mono (S.qJ k x hx) le (fun b' uD=>?_);refine setRow_other w b b' c' (fun e=>?_);subst e;exact uP (S.apart k l x _ b' hx hl uD hbb)
 ·intro k k' x x' b' hx EC hb uD;rcases qe k x hx with⟨e1,rfl⟩|⟨uP,Z6⟩<;>rcases qe k' x' EC with⟨e2,rfl⟩|⟨aqX,WH⟩
  ·rw[e1,e2]
  ·rw[e1]at hb ⊢;exact S.apart l k' _ x' b' hl WH (Mu b' hb) uD
  ·rw[e2]at uD ⊢;exact S.apart k l x _ b' Z6 hl hb (Mu b' uD)
  ·exact S.apart k k' x x' b' Z6 WH hb uD
 ·intro k x b' o hx hb;rcases qe k x hx with⟨e,rfl⟩|⟨uP,hx⟩
  ·rw[e]at hb;exact S.wZ l _ b' o hl (Mu b' hb)
  ·exact S.wZ k x b' o hx hb
 ·intro b' o uD hm;by_cases e:b'=b
  ·subst e;exact absurd (S.F2 l _ b' o hl (hmb o) uD) hm
  ·rw[cell_setRow_other w b c' _ e];exact S.old b' o uD hm
 ·intro b' uD hm;by_cases e:b'=b
  ·subst e;exact absurd (S.F2 l _ b' 0 hl (hmb 0) uD) (hm 0)
  ·rw[setRow_other w b b' c' e];exact S.qE b' uD hm
 ·intro k x b' o hx hm uD;rcases qe k x hx with⟨e,rfl⟩|⟨uP,hx⟩
  ·rw[e]at hm;exact S.F2 l _ b' o hl (anb b' o hm) uD
  ·exact S.F2 k x b' o hx hm uD
 ·intro x hx hm0;rw[<-S.AH x hx hm0];by_cases e:x.block=b
  ·simp only[World.frozen?];rw[e,setRow_heap w b c c' t _ hh,hh]
  grind [World.frozen?,setRow_other]
 ·intro k hk;have:=S.mZ k hk
  grind
def aCW(S:pW C U J a w){i o sz:Nat}{r:List AV}(hl:J.heap[l]? =some (.nW false sz rows))(hn:rows.length=n)(hi:rows[i]? =some r)
 (rv:rD (C.env U J.heap w) (.own l i n o sz) v):∃b off cap c t,U l=.slice (some ⟨b,off,none⟩) rows.length cap/\cap≠0/\rows.length<=cap/\v=.pointer (some ⟨b,off+i*sz+o,none⟩)/\w.heap[b]? =some (.cells c t (0,0))/\
   off+cap*sz<=c.size/\(∀q∈rows,q.length=sz)/\l9 (C.env U J.heap w) rows.flatten ((c.toList.drop off).take (rows.length*sz))/\∀u∈(c.toList.drop off).take (rows.length*sz),u.oneCell'=true:=by
 obtain⟨_,_,h⟩:=rv;obtain⟨b,off,m,cp,hφ,hv⟩:=(h rows.length (by simp [tC.env,hl,oO])).2 hn.symm;obtain⟨base,cap,hh,h2,h3,h4,h5⟩:=S.qJ l _ hl;simp only[tC.env]at hφ;rw[hh]at hφ;simp only[Value.slice.injEq]at hφ;obtain⟨hb,_,_⟩:=hφ;subst hb;have q9:i<rows.length:=(aj.1 hi).1;have GI:cap≠0:=by omega
 obtain⟨_,c,t,h6,h7,h8,h9⟩:=h5 _ rfl GI;exact⟨b,off,cap,c,t,hh,GI,h2,hv,h6,h7,h4,h8,h9⟩
theorem agq{sz:Nat}:∀{rows:List (List AV)}{i:Nat}{r:List AV},(∀q∈rows,q.length=sz)->rows[i]? =some r->rows.flatten.drop (i*sz)=r++(rows.drop (i+1)).flatten
 |q::rows,0,r,_,h=>by simp at h;subst h;simp
 |q::rows,i+1,r,hl,h=>by
  simp at h;have hq:q.length=sz:=hl q (by simp);have:=agq (fun p hp=>hl p (by simp [hp])) h
  grind [aD,List.drop_append,Nat.add_sub_cancel_left,bH]
theorem aCX(S:pW C U J a w){k i o sz:Nat}{r:List AV}(ht:o9 C.P t=some (g,k))(hl:J.heap[l]? =some (.nW false sz rows))(hn:rows.length=n)
 (hi:rows[i]? =some r) (hx:l3 g k (r.drop o)=some x) (rv:rD (C.env U J.heap w) (.own l i n o sz) v):∃u,(aQ t v).run C.P w=.ok u w/\rD (C.env U J.heap w) x u:=by
 obtain⟨b,off,cap,c,t2,hφ,GI,hle,rfl,hh,al6,hsz,rl,_⟩:=aCW S hl hn hi rv;have hrl:=rl.drop (i*sz);rw[agq hsz hi]at hrl;have hr:=hrl.take r.length;rw[bh rfl]at hr;have hr2:=hr.drop o;have hi':=N2 (C:=C) (w:=w) ht
 have hm:auP (C.env U J.heap w) b (off+i*sz+o) (r.drop o):=by
  refine⟨_,hr2,fun j u hj=>?_⟩
  grind [tC.env,World.cell?]
 obtain⟨u,hu,ru⟩:=adi (P:=C.P) (t:=t) hm hi'.1 hi'.2 hx
 grind [aQ,aA,tC.env]
theorem aeQ{sz:Nat}:∀{rows:List (List AV)}{i:Nat}{r q:List AV},(∀p∈rows,p.length=sz)->rows[i]? =some r->q.length=sz->
 (rows.set i q).flatten=rows.flatten.take (i*sz)++q++rows.flatten.drop (i*sz+sz)
 |p::rows,0,r,q,hl,h,hq=>by
  grind
 |p::rows,i+1,r,q,hl,h,hq=>by
  simp at h;have hp:p.length=sz:=hl p (by simp);have ih:=aeQ (q:=q) (fun p hp=>hl p (by simp [hp])) h hq;simp only[List.set_cons_succ,aF,ih]
  grind [aD,List.take_append,List.drop_append,bH]
def aIR{L V:List W}{p k:Nat}(hV:V.length=k)(h:p+k<=n)(hL:off+n<=L.length):
 ((L.take (off+p)++V++L.drop (off+p+k)).drop off).take n=((L.drop off).take n).take p++V++((L.drop off).take n).drop (p+k):=by
 have e1:L.take (off+p)=L.take off++(L.drop off).take p:=by rw[bW]
 have e2:L.drop (off+p+k)=(L.drop off).drop (p+k):=by rw[aV,bU]
 have hA:(L.take off).length=off:=by rw[bD];omega
 have hB:((L.drop off).take p).length=p:=by grind
 rw[e1,e2,aU,aU,bi hA]
 grind [bb,List.take_append,List.take_of_length_le]
def aAZ(S:pW C U J a w){i o k sz:Nat}{r ys:List AV}{p:aPr}(ht:o9 C.P t=some (g,k))(hl:J.heap[l]? =some (.nW false sz rows))(hn:rows.length=n)
 (hi:rows[i]? =some r) (hr:l9 (C.env U J.heap w) ys v.cells.toList) (h1:∀u∈v.cells.toList,u.oneCell'=true) (hk:ys.length=k) (aM2:o+k<=sz) (hp:rD (C.env U J.heap w) (.own l i n o sz) p):
 ∃w',(bu t p v).run C.P w=.ok () w'/\pW C U {J with heap:=J.heap.set l (.nW false sz (rows.set i (z1 r o ys)))} a w':=by
 obtain⟨b,off,cap,c,t2,hφ,GI,hle,rfl,hh,al6,hsz,rl,DI⟩:=aCW S hl hn hi hp;have q9:i<rows.length:=(aj.1 hi).1;have hrl:r.length=sz:=hsz r (bR hi);have hvl:v.cells.size=k:=by have:=hr.length;simp at this;omega
 have hmul:i*sz+sz<=rows.length*sz:=by
  have:(i+1)*sz<=rows.length*sz:=ay _ q9
  grind
 have aOm:rows.length*sz<=cap*sz:=ay _ hle;have hst:=run_storeCells_at C.P b (off+i*sz+o) t2 v.cells.toList 0 c w hh (by simp;omega) h1
 have aIQ:(z1 r o ys).length=sz:=by
  grind [z1]
 have hfl:rows.flatten.length=rows.length*sz:=GH hsz
 have aKP:(rows.set i (z1 r o ys)).flatten=rows.flatten.take (i*sz+o)++ys++rows.flatten.drop (i*sz+o+k):=by
  rw[aeQ hsz hi aIQ];have hd:=agq hsz hi
  have e1:rows.flatten.take (i*sz+o)=rows.flatten.take (i*sz)++r.take o:=by
   rw[bW,hd,List.take_append_of_le_length (by omega)]
  have e2:rows.flatten.drop (i*sz+o+k)=r.drop (o+k)++rows.flatten.drop (i*sz+sz):=by
   have e3:rows.flatten.drop (i*sz+sz)=(rows.drop (i+1)).flatten:=by
    rw[<-aV,hd,<-hrl,bi];rfl
   rw[e3,bU,<-aV,hd,bp (by omega)]
  grind [z1]
 let c':Array aPr:=(c.toList.take (off+i*sz+o)++v.cells.toList++c.toList.drop (off+i*sz+o+v.cells.toList.length)).toArray
 have hc':c'.toList=c.toList.take (off+i*sz+o)++v.cells.toList++c.toList.drop (off+i*sz+o+k):=by
  grind
 have hcs:c'.size=c.size:=by
  grind
 have aM6:(c'.toList.drop off).take (rows.length*sz)=((c.toList.drop off).take (rows.length*sz)).take (i*sz+o)++v.cells.toList++((c.toList.drop off).take (rows.length*sz)).drop (i*sz+o+k):=by
  rw[hc'];have hcl:c.toList.length=c.size:=by simp
  have:=aIR (L:=c.toList) (V:=v.cells.toList) (off:=off) (p:=i*sz+o) (k:=k) (n:=rows.length*sz) (by simpa using hvl) (by omega) (by omega)
  grind
 refine⟨_,?_,S.aCV hl hφ GI hle (by rw[List.length_set]) hh (c':=c') (hsz:=?_) (by rw[hcs];exact al6) ?_ ?_⟩
 ·have hs:=(N2 (C:=C) (w:=w) ht).2
  grind [bu,aA,storeVar,ai,ae]
 ·grind
 ·rw[aKP,List.length_set,aM6];exact((rl.take _).append hr).append (rl.drop _)
 grind
theorem anJ(_S:pW C U J a w){u:aPv}{i o:Nat}(h:rC C.P t i=some (o,u))(rx:rD (C.env U J.heap w) x v):
 (∀l off,x=.ptr l off->∃v',(aR t v i).run C.P w=.ok v' w/\rD (C.env U J.heap w) (.ptr l (off+o)) v')/\
 (∀cs,x=.pp cs->∃v',(aR t v i).run C.P w=.ok v' w/\rD (C.env U J.heap w) (.pp (cs.drop o)) v')/\
 (∀l j n o' sz,x=.own l j n o' sz->∃v',(aR t v i).run C.P w=.ok v' w/\rD (C.env U J.heap w) (.own l j n (o'+o) sz) v'):=by
 obtain⟨fs,f,j,hu,hf,hj,hs,rfl,rfl⟩:=azV h;have hsz:(sizeOf f.type).run C.P w=.ok j.size w:=by simp [sizeOf,typeInfo,hj]
 have key:∀b off,(aR t (.pointer (some ⟨b,off,none⟩)) i).run C.P w=.ok (.pointer (some ⟨b,off+f.offset,none⟩)) w:=by
  simp_all [aR,run_underlying,aA,fieldPlace,DC]
 refine⟨?_,?_,?_⟩
 ·rintro l off rfl;obtain⟨hl,b,hb,rfl⟩:=rx;exact⟨_,key b off,hl,b,hb,rfl⟩
 ·rintro cs rfl;obtain⟨b,off,rfl,rm⟩:=rx;exact⟨_,key b off,b,_,rfl,rm.drop _⟩
 ·rintro l j n o' sz rfl;obtain⟨hl,⟨ad,rfl⟩,hr⟩:=rx
  have aM7:(aR t (.pointer (some ad)) i).run C.P w=.ok (.pointer (some (ad.add f.offset))) w:=by
   simp_all [aR,run_underlying,aA,fieldPlace]
  refine⟨_,aM7,hl,⟨_,rfl⟩,fun k hk=>?_⟩
  grind
def axR {o:Nat}{vs:Array aPr}(ha:(isAgg t).run P w= .ok g w)(hs:(sizeOf t).run P w= .ok n w)
 (r:l9 E cs vs.toList) (hl:l3 g n (cs.drop o)=some x):∃v,(part t vs o).run P w=.ok v w/\rD E x v:=by
 unfold l3 at hl;cases g with
 |true=>
  simp only at hl;split at hl
  ·cases hl;refine⟨.agg (vs.extract o (o+n)),by simp [part,ha,hs],_,rfl,?_⟩;have:=(r.drop o).take n
   simp_all
  ·cases hl
 |false=>
  cases hd:cs.drop o with
  |nil=>rw[hd]at hl;cases hl
  |cons c cs'=>
   rw[hd]at hl;injection hl with hl
   subst hl
   have h0:cs[o]? =some c:=by
    have:=congrArg (fun l:List AV=>l[0]?) hd;simpa using this
   obtain⟨v,hv,rv⟩:=r.get h0
   simp_all [part]
def aiY {e:aPv}{sz bytes:Nat}{r:List AV}{n:Int}(ht:nY C.P t=some (e,sz,bytes))(hn:0<=n)
 (hr:rows[n.toNat]? =some r) (rx:rD (C.env U J.heap w) (.mj tt sz rows) v):∃v',(aN t v (.int k n)).run C.P w=.ok v' w/\rD (C.env U J.heap w) (.pp r) v':=by
 obtain⟨hu,i,hi,rfl,rfl⟩:=Ph ht;obtain⟨base,cap,rfl,h2,h3,h4,h5,h6⟩:=rx;have q9:n.toNat<rows.length:=(aj.1 hr).1;have uP:rows≠[]:=by intro h;subst h;simp at q9
 have hsz:(sizeOf e).run C.P w=.ok i.size w:=by simp [sizeOf,typeInfo,hi]
 cases base with
 |none=>have:=h4 rfl;omega
 |some b=>
  have hb:b=⟨b.block,b.off,none⟩:=by have:=h5 b rfl uP;cases b;simp_all
  obtain⟨_,hm⟩:=qI.get (h6 b rfl) hr;refine⟨.pointer (some ⟨b.block,b.off+n.toNat*i.size,none⟩),?_,b.block,_,rfl,hm⟩;have aIS:0<=n/\n<(rows.length:Int):=⟨hn,by omega⟩;simp only[aN,asIntOf,ai,au,ae,run_underlying hu,aIS,and_self,kW,hsz];rw[hb,DC]
def aq0(S:pW C U J a w){e:aPv}{sz bytes m:Nat}{r:List AV}{n:Int}(ht:nY C.P t=some (e,sz,bytes))(hn:0<=n)
 (hl:J.heap[l]? =some (.nW true sz rows)) (hm:rows.length=m) (hr:rows[n.toNat]? =some r) (rx:rD (C.env U J.heap w) (.nW l m) v):
 ∃v',(aN t v (.int k n)).run C.P w=.ok v' w/\rD (C.env U J.heap w) (.pp r) v':=by
 have hv:=SA S hl hm rx;subst hv;exact aiY (tt:=false) ht hn hr (agn S hl)
theorem anc(b:Addr)(h:b.spot=none)(k:Nat):b.add k=⟨b.block,b.off+k,none⟩:=by
 have hb:b=⟨b.block,b.off,none⟩:=by cases b;simp_all
 rw[hb,DC]
def GJ{n:Int}{y:Nat}{c:BoundsCode}(h:0<=n/\n<=y):(aE (.int k n) y c).run P w=.ok n.toNat w:=by
 simp [aE,asIntOf,h]
def N3(S:pW C U J a w){d:Nat}{x:Option aPq}{n:Int}(h:F0 J d x=some n):(x=none/\n=d)\/∃y k,x=some y/\a.eval y=.int k n:=by
 unfold F0 at h;cases x with
 |none=>grind
 |some y=>
  right;simp only at h;have r:=S.ev y;split at h
  ·rename_i k m hm;cases h;rw[hm]at r;exact⟨y,k,rfl,r⟩
  ·cases h
def aeR(S:pW C U J a w){s:Bool}{len cap:Nat}{mx:Option aPq}{l h:Int}(hl:F0 J 0 lo=some l)(hh:F0 J len hi=some h)(hm:F0 J len mx=some m)
 (hb:0<=l/\l<=h/\h<=m/\m<=len) (hc:len<=cap) (hmx:mx≠none->hi≠none):
 (aG s len cap (lo.map a.eval) (hi.map a.eval) (mx.map a.eval)).run C.P w=.ok (l.toNat,h.toNat,if mx=none then cap else m.toNat) w:=by
 have e0:(0:Int)<=h:=by omega
 rcases N3 S hm with⟨rfl,rfl⟩|⟨ym,km,rfl,em⟩
 ·rcases N3 S hh with⟨rfl,rfl⟩|⟨yh,kh,rfl,eh⟩
  ·rcases N3 S hl with⟨rfl,rfl⟩|⟨yl,kl,rfl,el⟩
   ·simp [aG]
   ·have e3:∀c,(aE (.int kl l) len c).run C.P w=.ok l.toNat w:=fun c=>GJ (by omega)
    simp [aG,el,e3]
  ·have e1:∀c,(aE (.int kh h) cap c).run C.P w=.ok h.toNat w:=fun c=>GJ (by omega)
   rcases N3 S hl with⟨rfl,rfl⟩|⟨yl,kl,rfl,el⟩
   ·simp [aG,eh,e1]
   ·have e3:∀c,(aE (.int kl l) h.toNat c).run C.P w=.ok l.toNat w:=fun c=>GJ (by omega)
    simp_all [aG]
 ·rcases N3 S hh with⟨rfl,rfl⟩|⟨yh,kh,rfl,eh⟩
  ·grind
  ·have e1:∀c,(aE (.int kh h) m.toNat c).run C.P w=.ok h.toNat w:=fun c=>GJ (by omega)
   have e2:∀c,(aE (.int km m) cap c).run C.P w=.ok m.toNat w:=fun c=>GJ (by omega)
   rcases N3 S hl with⟨rfl,rfl⟩|⟨yl,kl,rfl,el⟩
   ·simp_all [aG]
   ·have e3:∀c,(aE (.int kl l) h.toNat c).run C.P w=.ok l.toNat w:=fun c=>GJ (by omega)
    simp_all [aG]
theorem arZ(S:pW C U J a w){e:aPv}{sz VU bytes:Nat}{mx:Option aPq}{l h:Int}(ht:nY C.P t=some (e,sz,bytes))
 (hl:F0 J 0 lo=some l) (hh:F0 J rows.length hi=some h) (hm:F0 J rows.length mx=some m) (hsz:VU=sz\/rows.length=0) (hb:0<=l/\l<=h/\h<=m/\m<=rows.length)
 (hmx:(mx.isSome&&hi.isNone)=false) (rx:rD (C.env U J.heap w) (.mj tt VU rows) v):
 ∃v',(aX t v (lo.map a.eval) (hi.map a.eval) (mx.map a.eval)).run C.P w=.ok v' w/\
  rD (C.env U J.heap w) (.mj (ah3 mx tt h rows.length m) sz ((rows.take h.toNat).drop l.toNat)) v':=by
 obtain⟨hu,i,hi',rfl,rfl⟩:=Ph ht;obtain⟨base,cap,rfl,h2,h3,h4,h5,h6⟩:=rx;have abp:(sizeOf e).run C.P w=.ok i.size w:=by simp [sizeOf,typeInfo,hi']
 have hbs:=aeR S (s:=true) (cap:=cap) hl hh hm hb h2 (by
  intro h1 h2
  simp_all)
 have hlen:((rows.take h.toNat).drop l.toNat).length=h.toNat-l.toNat:=by
  grind
 obtain⟨m',hm',hm1,hm2⟩:∃m',(if mx=none then cap else m.toNat)=m'/\(mx=none->m'=cap)/\(mx≠none->m'=m.toNat):=by
  grind
 have hm3:h.toNat<=m':=by
  grind
 rw[hm']at hbs;clear hm'
 have xF:(aX t (.slice base rows.length cap) (lo.map a.eval) (hi.map a.eval) (mx.map a.eval)).run C.P w=
  .ok (.slice (if m'=l.toNat then base else base.map (·.add (l.toNat*i.size))) (h.toNat-l.toNat) (m'-l.toNat)) w:=by
  simp_all [aX,run_underlying,Instr.slice]
 refine⟨_,xF,_,_,by rw[hlen],?_,?_,?_,?_,?_⟩
 ·rw[hlen];omega
 ·intro htt;rw[hlen];cases mx with
  |none=>
   grind [ah3]
  |some y=>
   grind [ah3]
 ·intro ar2;cases base with
  |none=>
   grind
  |some b=>
   grind
 ·intro b uD uP;cases base with
  |none=>split at uD<;>simp at uD
  |some b0=>
   have Q3:rows≠[]:=by intro h0;subst h0;simp at uP
   grind [anc]
 ·intro b uD;by_cases Q3:rows=[]
  ·subst Q3;simp [qI]
  ·have aM8:VU=i.size:=by
    grind
   subst aM8;cases base with
   |none=>split at uD<;>simp at uD
   |some b0=>
    have hsp:=h5 b0 rfl Q3;have rr:=h6 b0 rfl;split at uD
    ·rename_i heq;have hlh:h.toNat<=l.toNat:=by omega
     have:(rows.take h.toNat).drop l.toNat=[]:=List.drop_eq_nil_of_le (by rw[bD];omega);rw[this];trivial
    grind [anc,qI.drop,qI.take]
theorem aA0(S:pW C U J a w){l h:Int}(ht:rV C.P t=true)(hl:F0 J 0 lo=some l)(hh:F0 J s.size hi=some h)(hb:0<=l/\l<=h/\h<=s.size):
 (aX t (.string s) (lo.map a.eval) (hi.map a.eval) none).run C.P w=.ok (.string (s.extract l.toNat h.toNat)) w:=by
 have hu:C.P.underlying t=some .string:=by
  grind [rV]
 have hbs:=aeR S (s:=false) (mx:=none) (cap:=s.size) (m:=s.size) hl hh rfl (by omega) (aC _) (by intro h;exact absurd rfl h);simp only[Option.map_none]at hbs;simp only[aX,ai,run_underlying hu,ae,Instr.slice,b8,aK,if_false,hbs,au]
end sound
section
variable {a:Act} {w:aPs}
def as9(_S:pW C U J a w)(hl:J.heap[l]? =some (.L8 s))(hn:s.size=n)(r:rD (C.env U J.heap w) (.nW l n) v):v=U l:=by
 obtain⟨_,_,h⟩:=r
 grind [tC.env,oO]
def al8{w:aPs}{base e:Nat}(h:w.ownsRowF base e 1 v n xs):∃b cap,v=.slice b n cap:=by
 rcases h.2 with⟨rfl,rfl⟩|⟨g,cap,cur,fz,rfl,_⟩
 ·exact⟨_,_,rfl⟩
 ·exact⟨_,_,rfl⟩
def axS(w:aPs)(t u ty e:aPv)(i:TypeInfo)(ht:P.underlying t=some (.slice e))(hu:P.underlying u=some .string)(hi:P.info? e=some i)(hz:i.zero=some (.int .u8 0))
 (abp:i.size=1) (hby:i.bytes=1) (v:aPr) (n:Nat) (xs:List aPr) (agr:w.ownsRowF 0 e 1 v n xs) (s:ByteArray) (h63:n+s.size<=maxLen) (aCY:n+s.size<=140737488355328):
 ∃v' w',(am #[t,u] ty #[v,.string s]).run P w=.ok v' w'/\w'.ownsRowF 0 e 1 v' (n+s.size) (xs++aO s)/\w.grownBy w' v.ownBlock/\(s.size=0->v'=v)/\
  (∀k,v'.ownBlock=some k->v.ownBlock=some k\/w.heap.size<=k)/\tyk w w':=by
 obtain⟨v1,w1,h1,h2,h3,h4⟩:=bw (P:=P) w 0 t u ty e i ht hu hi hz abp hby v n xs agr s h63 aCY (Nat.zero_le _);refine⟨v1,w1,h1,h2,h3,?_⟩;rcases agr.2 with⟨rfl,rfl⟩|⟨g,cap,cur,fz,rfl,hbg,hg,hfz,hnc,hcm,hcs,ar3⟩
 ·refine⟨fun h0=>h4.2 ⟨rfl,h0⟩,fun k hk=>.inr ?_,aoY (fun b hb=>h3.block b hb (by simp [Value.ownBlock]))⟩;obtain⟨v2,w2,k1,k2,_⟩:=bw (P:=P) w w.heap.size t u ty e i ht hu hi hz abp hby (.slice none 0 0) 0 xs ⟨agr.1,.inl ⟨rfl,rfl⟩⟩ s h63 aCY (aC _);rw[h1]at k1;injection k1 with e1 e2
  subst e1 e2;exact(k2.lt k hk).1
 ·have aOs:cur.size=cap:=by simpa using hcs
  by_cases SR:n+s.size<=cap
  ·have hr:=Lib.run_append_room_stringF (P:=P) w t u ty e i ht hu hi abp g n cap cur fz hg (by simpa using hfz) s SR (by omega);rw[h1]at hr;injection hr with e1 e2
   subst e1 e2;exact⟨fun h0=>by rw[h0,bB],fun k hk=>.inl hk,aoL _ _ _⟩
  ·have holds:∀j u,xs[j]? =some u->w.cell? ((⟨g,0,none⟩:Addr).add j)=some u:=agr.cells (g:=g) rfl;have hxl:xs.length=n:=by simpa using agr.1
   simp only[maxLen]at h63;have hr:=Lib.run_append_grow_string (P:=P) (ty:=ty) w t u e i (.int .u8 0) ht hu hi hz ⟨g,0,none⟩ n cap xs (by rw[abp];simpa using hxl) holds s (by omega) (by omega) (by rw[hby];exact growslice_fits (by omega) (by omega));rw[h1]at hr;injection hr with e1 e2
   subst e1 e2;refine⟨fun h0=>absurd SR (by omega),fun k hk=>.inr ?_,akp _ rfl⟩;simp only[Value.ownBlock,ah]at hk;omega
def pW.azW(S:pW C U J a w){s':ByteArray}(hl:J.heap[l]? =some (.L8 s))(hys:s.size<s'.size\/(h'=U l/\s'.size=s.size))
 (agr:w'.ownsRowF 0 Pd 1 h' s'.size (aO s')) (hg:w.grownBy w' (U l).ownBlock) (JW:∀k,h'.ownBlock=some k->(U l).ownBlock=some k\/w.heap.size<=k) (hty:tyk w w'):
 pW C (fun k=>if k=l then h' else U k) {J with heap:=J.heap.set l (.L8 s')} a w':=by
 have q9:l<J.heap.length:=(aj.1 hl).1
 let U':Nat->aPr:=fun k=>if k=l then h' else U k
 have hφl:U' l=h':=by simp [U']
 have hφk:∀k,k≠l->U' k=U k:=fun k hk=>by simp [U',hk]
 have qe:∀(k:Nat)(x:lw),(J.heap.set l (.L8 s'))[k]? =some x->(k=l/\x=.L8 s')\/(k≠l/\J.heap[k]? =some x):=by
  grind
 have aKQ:w.ownsRowF 0 Pd 1 (U l) s.size (aO s):=S.qJ l _ hl;obtain⟨b0,c0,hsl⟩:=al8 aKQ;have aM4:∀a,U l≠ .pointer a:=by intro a;rw[hsl];simp
 have aKL:hdl (U l)=none:=by rw[hsl];rfl
 have MK:∀b,b<w.heap.size-> ¬ (U l).ownBlock=some b->w'.heap[b]? =w.heap[b]? :=fun b hb hn=>hg.block b hb (fun e=>hn e.symm)
 have QT:∀b o,KR U' (J.heap.set l (.L8 s')) b o->KR U J.heap b o\/w.heap.size<=b:=by
  rintro b o ⟨k,x,hx,hm⟩;rcases qe k x hx with⟨rfl,rfl⟩|⟨uP,hx⟩
  ·rw[hφl]at hm;exact(JW b hm).imp (fun h=>⟨k,_,hl,h⟩) id
  ·rw[hφk k uP]at hm;exact .inl ⟨k,x,hx,hm⟩
 have le:(C.env U J.heap w).Le J.heap.length (C.env U' (J.heap.set l (.L8 s')) w'):=by
  refine⟨by simp [tC.env],fun k hk=>?_,fun b o u hm hc=>?_,hty⟩
  ·grind [tC.env,oO]
  ·have hb:=Kk hc;simp only[tC.env]at hb hm hc ⊢;refine⟨fun h=>?_,?_⟩
   ·grind
   ·rw[<-hc];simp only[World.cell?];rw[MK b hb (fun h=>hm (.inl ⟨l,_,hl,h⟩))]
 have FE:vW C U' (J.heap.set l (.L8 s')) w' J.df a.defers:=by
  refine S.defers.step le (fun b hb hno=>MK b hb (hno l _ hl)) (fun k x b hx hb=>?_);rcases qe k x hx with⟨rfl,rfl⟩|⟨uP,hx⟩
  ·rw[hφl]at hb;exact(JW b hb).imp (fun h=>⟨k,_,hl,h⟩) id
  ·rw[hφk k uP]at hb;exact .inl ⟨k,x,hx,hb⟩
 refine {lE:=l9.mono le _ _ (l9.nb _ _ S.lE) S.lE,defers:=FE,qJ:=?_,apart:=?_,wZ:=?_,size:=bC S.size hg.size,old:=?_,qE:=?_,F2:=?_,AH:=?_,rest:=⟨by rw[hg.output];exact S.rest.1,by rw[hg.os];exact S.rest.2⟩,low:=⟨S.low.1,by simpa using S.low.2⟩,mZ:=?_}
 ·intro k x hx;rcases qe k x hx with⟨rfl,rfl⟩|⟨uP,hx⟩
  ·show qV _ (.L8 s') (U' k);rw[hφl];exact agr
  ·have r0:=S.qJ k x hx;show qV _ x (U' k);rw[hφk k uP];refine qV.mono r0 le (fun b hb=>MK b (r0.tT hb) (fun h=>?_));exact uP (S.apart k l x _ b hx hl hb h)
 ·intro k k' x x' b hx EC hb uD;have hb:x.block (U' k) b:=hb;have uD:x'.block (U' k') b:=uD;rcases qe k x hx with⟨rfl,rfl⟩|⟨uP,Z6⟩<;>rcases qe k' x' EC with⟨rfl,rfl⟩|⟨aqX,WH⟩
  ·rfl
  ·rw[hφl]at hb;rw[hφk k' aqX]at uD;rcases JW b hb with h|h
   ·exact S.apart k k' _ x' b hl WH h uD
   ·have:=(S.qJ k' x' WH).tT uD;simp only[tC.env]at this;omega
  ·rw[hφl]at uD;rw[hφk k uP]at hb;rcases JW b uD with h|h
   ·exact S.apart k k' x _ b Z6 hl hb h
   ·have:=(S.qJ k x Z6).tT hb;simp only[tC.env]at this;omega
  ·rw[hφk k uP]at hb;rw[hφk k' aqX]at uD;exact S.apart k k' x x' b Z6 WH hb uD
 ·intro k x b o hx hb;have hb:x.block (U' k) b:=hb;rcases qe k x hx with⟨rfl,rfl⟩|⟨uP,Z6⟩
  ·rw[hφl]at hb;rcases JW b hb with h|h
   ·exact S.wZ k _ b o hl h
   ·intro hA;have:=C.hA _ _ hA;have:=S.size;omega
  ·rw[hφk k uP]at hb;exact S.wZ k x b o Z6 hb
 ·intro b o hb hm;have:=MK b (aa hb S.size) (fun h=>hm (S.F2 l _ b o hl h hb));rw[<-S.old b o hb hm];simp only[World.cell?,this]
 ·intro b hb hm;rw[MK b (aa hb S.size) (fun h=>hm 0 (S.F2 l _ b 0 hl h hb))];exact S.qE b hb hm
 ·intro k x b o hx hm hb;have hm:x.Ew (U' k) b o:=hm;rcases qe k x hx with⟨rfl,rfl⟩|⟨uP,Z6⟩
  ·rw[hφl]at hm;rcases JW b hm with h|h
   ·exact S.F2 k _ b o hl h hb
   ·have:=S.size;omega
  ·rw[hφk k uP]at hm;exact S.F2 k x b o Z6 hm hb
 ·intro x hx hm0;rw[<-S.AH x hx hm0];have:=MK x.block (aa hx S.size) (fun h=>hm0 0 (S.F2 l _ _ 0 hl h hx));simp only[World.frozen?,this]
 ·intro k hk;have:=S.mZ k hk
  grind [oO]
def pW.aKR(S:pW C U J a w):pW C (fun k=>if k=J.heap.length then .slice none 0 0 else U k) {J with heap:=J.heap++[.L8 ax]} a w/\
 (C.env U J.heap w).Le J.heap.length (C.env (fun k=>if k=J.heap.length then .slice none 0 0 else U k) (J.heap++[.L8 ax]) w):=by
 let U':Nat->aPr:=fun k=>if k=J.heap.length then .slice none 0 0 else U k
 have hφ:∀l,l<J.heap.length->U' l=U l:=fun l hl=>by grind
 have hn:U' J.heap.length=.slice none 0 0:=by simp [U']
 have qe:∀(l:Nat)(x:lw),(J.heap++[.L8 ax])[l]? =some x->(l<J.heap.length/\J.heap[l]? =some x)\/(l=J.heap.length/\x=.L8 ax):=by
  grind
 have hno:∀b,¬ (lw.L8 ax).block (.slice none 0 0) b:=by
  intro b h;cases h
 have QT:∀b o,KR U' (J.heap++[.L8 ax]) b o->KR U J.heap b o:=by
  rintro b o ⟨l,x,hx,hm⟩;rcases qe l x hx with⟨hl,hx⟩|⟨rfl,rfl⟩
  ·rw[hφ l hl]at hm;exact⟨l,x,hx,hm⟩
  ·rw[hn]at hm;exact absurd (lw.qL hm) (hno b)
 have le:(C.env U J.heap w).Le J.heap.length (C.env U' (J.heap++[.L8 ax]) w):=by
  refine tC.GF (by simp) (fun l hl=>⟨hφ l hl,by rw[aB hl]⟩) (fun b i u hm hc=>⟨fun h=>hm (h.imp (QT b i) id),hc⟩)
 have Mu:∀(l:Nat)(x:lw)(b:Nat),(J.heap++[.L8 ax])[l]? =some x->x.block (U' l) b->l<J.heap.length/\J.heap[l]? =some x/\x.block (U l) b:=by
  intro l x b hx hb;rcases qe l x hx with⟨hl,hx⟩|⟨rfl,rfl⟩
  ·rw[hφ l hl]at hb;exact⟨hl,hx,hb⟩
  ·rw[hn]at hb;exact absurd hb (hno b)
 have FE:vW C U' (J.heap++[.L8 ax]) w J.df a.defers:=by
  refine S.defers.step le (fun b hb _=>rfl) (fun l x b hx hb=>?_);obtain⟨_,h2,h3⟩:=Mu l x b hx hb;exact .inl ⟨l,x,h2,h3⟩
 refine⟨?_,le⟩;refine {lE:=l9.mono le _ _ (l9.nb _ _ S.lE) S.lE,defers:=FE,qJ:=?_,apart:=?_,wZ:=?_,size:=S.size,old:=S.old,qE:=S.qE,F2:=?_,AH:=S.AH,rest:=S.rest,low:=⟨S.low.1,by have:=S.low.2;simp;omega⟩,mZ:=?_}
 ·intro l x hx;show qV _ x (U' l);rcases qe l x hx with⟨hl,hx⟩|⟨rfl,rfl⟩
  ·rw[hφ l hl];exact qV.mono (S.qJ l x hx) le (fun _ _=>rfl)
  ·rw[hn];exact World.ownsRowF_nil w 0 Pd 1
 ·intro l l' x x' b hx EC hb uD;obtain⟨_,h2,h3⟩:=Mu l x b hx hb;obtain⟨_,h2',h3'⟩:=Mu l' x' b EC uD;exact S.apart l l' x x' b h2 h2' h3 h3'
 ·intro l x b o hx hb;obtain⟨_,h2,h3⟩:=Mu l x b hx hb;exact S.wZ l x b o h2 h3
 ·intro l x b o hx hm hb;obtain⟨h1,h2,_⟩:=Mu l x b hx (lw.qL hm);have hm:x.Ew (U' l) b o:=hm;rw[hφ l h1]at hm;exact S.F2 l x b o h2 hm hb
 ·intro l hl;have q9:l<J.heap.length:=by have:=S.low;omega
  have:=S.mZ l hl
  grind
theorem anK(s u:ByteArray):aO (s++u)=aO s++aO u:=by
 simp [aO]
def aq1(S:pW C U J a w){u e:aPv}{sz bytes:Nat}(ht:nY C.P t=some (e,sz,bytes))(hc:as4 C.P=true/\rV C.P u=true)
 (h:ah4 J e x s=some ef) (hp:ef.pre) (rx:rD (C.env U J.heap w) x vx):
 ∃v w' U',(am #[t,u] ty #[vx,.string s]).run C.P w=.ok v w'/\pW C U' (J.app dst ef) (a.put dst v) w':=by
 obtain⟨hut,i,hi,rfl,rfl⟩:=Ph ht;unfold ah4 at h;split at h
 ·rename_i l n;split at h
  ·rename_i s0 hl;split at h
   ·rename_i hcn;obtain⟨hn,he⟩:=hcn;subst he;cases h;have hv:=as9 S hl hn rx;subst hv;have hb:=hc.1;unfold as4 at hb;rw[hi]at hb;simp only[aW,beq_iff_eq]at hb;obtain⟨⟨hz,hs1⟩,hb1⟩:=hb
    have aKS:i.zero=some (.int .u8 0):=by
     revert hz;split
     ·intro _;assumption
     ·intro h;cases h
    have hus:C.P.underlying u=some .string:=by have:=hc.2;grind [rV]
    have hp:(s0.size+s.size)*1<=2 ^ 44:=hp;have hp':s0.size+s.size<=17592186044416:=by omega
    obtain⟨v',w',h1,h2,h3,h4,h5,h6⟩:=axS (P:=C.P) w t u ty Pd i hut hus hi aKS hs1 hb1 (U l) s0.size _ (S.qJ l _ hl) s (by simp only[maxLen];omega) (by omega);have hsz:(s0++s).size=s0.size+s.size:=by simp
    have q9:l<J.heap.length:=(aj.1 hl).1
    have S2:=S.azW (s':=s0++s) (w':=w') (h':=v') hl (by
     rw[hsz];rcases Nat.eq_zero_or_pos s.size with h0|h0
     ·exact .inr ⟨h4 h0,by omega⟩
     ·exact .inl (by omega)) (by rw[hsz,anK];exact h2) h3 h5 h6
    refine⟨v',w',(fun k=>if k=l then v' else U k),h1,?_⟩
    have:=S2.put dst (x:=.nW l (s0.size+s.size)) (v:=v') ⟨by simpa [tC.env] using q9,by
     obtain⟨b,c,e⟩:=al8 h2;exact⟨_,_,_,e⟩,fun k hk=>by
     grind [tC.env,oO]⟩
    rw[agp];exact this
   ·cases h
  ·cases h
 ·cases h
end
section sound
variable {a:Act} {w:aPs}
def auU {oy:aPq}{r:AV}{vy:aPr}(h:akr op x y=some r)(rx:rD E x vx)(ry:rD E y vy):
 ∃v,(do eqGuard op t ox oy vx vy;binOp op t vx vy:Sem aPr).run C.P w=.ok v w/\rD E r v:=by
 unfold akr at h;split at h
 ·rename_i k m k' n;simp only[rD]at rx ry;subst rx ry;split at h
  ·cases h
  ·rename_i hk;have RV:k=k':=by simpa using hk
   subst RV
   have hg:(eqGuard op t ox oy (.int k m) (.int k n)).run C.P w=.ok () w:=by
    unfold eqGuard;split<;>rfl
   cases op with
   |quo=>
    simp only at h;split at h
    ·cases h
    ·rename_i hz;cases h;exact⟨_,by simp [hg,binOp,Op.intDiv,hz],rfl⟩
   |rem=>
    simp only at h;split at h
    ·cases h
    ·rename_i hz;cases h;exact⟨_,by simp [hg,binOp,Op.intDiv,hz],rfl⟩
   |and=>cases h;exact⟨_,by simp only[ai,hg,ae,binOp];rw[if_neg hk];rfl,rfl⟩
   |or=>cases h;exact⟨_,by simp only[ai,hg,ae,binOp];rw[if_neg hk];rfl,rfl⟩
   |xor=>cases h;exact⟨_,by simp only[ai,hg,ae,binOp];rw[if_neg hk];rfl,rfl⟩
   |andNot=>cases h;exact⟨_,by simp only[ai,hg,ae,binOp];rw[if_neg hk];rfl,rfl⟩
   |_=>simp at h<;>subst h<;>refine⟨_,?_,rfl⟩<;>simp [hg,binOp,Op.intArith,Op.intCmp]
 ·rename_i s u;simp only[rD]at rx ry;subst rx ry
  have hg:(eqGuard op t ox oy (.string s) (.string u)).run C.P w=.ok () w:=by
   unfold eqGuard;split<;>rfl
  cases op with
  |add=>
   simp only at h;split at h
   ·rename_i hz;cases h
    have hz': ¬ ((s.size+u.size:Nat):Int)>IntKind.i64.max:=by
     have:IntKind.i64.max=9223372036854775807:=by decide
     rw[this];omega
    exact⟨_,by simp_all [binOp,Op.stringOp],rfl⟩
   ·cases h
  |_=>simp at h<;>subst h<;>refine⟨_,?_,rfl⟩<;>simp [hg,binOp,Op.stringOp]
 ·cases h
def ar4(h:tbl P t=true):P.underlying t=some .bool:=by
 grind [tbl]
def ar5 {oy:aPq}{p q:Bool}:(eqGuard op t ox oy (.bool p) (.bool q)).run P w=.ok () w:=by
 unfold eqGuard;split<;>rfl
def aIT{w:aPs}{p q:Bool}(h:tbl P t=true):(binOp .eql t (.bool p) (.bool q)).run P w=.ok (.bool (p==q)) w:=by
 simp_all [run_equal_bool,ar4,binOp]
def aIU{w:aPs}{p q:Bool}(h:tbl P t=true):(binOp .neq t (.bool p) (.bool q)).run P w=.ok (.bool (!(p==q))) w:=by
 simp_all [run_equal_bool,ar4,binOp]
def aA1(S:pW C U J a w){o:Obj}(ho:∀c t lo hi,o=.cells c t (lo,hi)->lo=0/\hi=0)
 (hr:r=.ok (.value v) (World.more w o)) (rep:rD (C.env U J.heap (World.more w o)) x v):CM C J a w dst r {val:=x,rd,pre:=p}:=by
 refine⟨.value v,v,_,U,hr,.inl rfl,?_⟩;rw[Pj];exact(S.more o ho).put dst rep
def ar6(S:pW C U J a w)(hr:r=.ok (.value (.pointer (some ⟨w.heap.size,0,none⟩))) (World.more w (.cells c t)))
 (rep:l9 (C.env U J.heap w) cs c.toList) (h1:∀u∈c.toList,u.oneCell'=true):CM C J a w dst r {val:=.ptr J.heap.length 0,rd,nw:=[.cells cs],pre:=p}:=by
 obtain⟨S',le⟩:=S.name c t rep h1;refine⟨_,_,_,(fun l=>if l=J.heap.length then .pointer (some ⟨w.heap.size,0,none⟩)else U l),hr,.inl rfl,?_⟩;rw[al7];exact S'.put dst ⟨by simp [tC.env],w.heap.size,by simp [tC.env],rfl⟩
theorem aFO(J:k9)(dst:Option Tmp)(x:AV)(o p:lw):J.app dst {val:=x,nw:=[o,p]}=k9.put {J with heap:=(J.heap++[o])++[p]} dst x:=by
 cases dst<;>simp [k9.app,pI,k9.put]
def ao8(S:pW C U J a w)(hr:r= .ok (.value (.pointer (some ⟨w.heap.size,0,none⟩))) (World.more w (.cells c t)))
 (aIV:l9 (C.env U J.heap w) cs c.toList) (h1:∀u∈c.toList,u.oneCell'=true):CM C J a w dst r (Pg t J.heap.length cs):=by
 unfold Pg;cases hb:ako t with
 |false=>exact ar6 S hr aIV h1
 |true=>
  rw[kP];split
  ·rename_i rs;obtain⟨v0,q,hc,e0,v1,vs,rfl,e1,e2⟩:=aIV;simp only[rD]at e0 e1;obtain⟨S1,le1⟩:=S.aKR
   obtain⟨S',le⟩:=S1.aIp (cs:=.sn t (J.heap.length+1)::.nW J.heap.length 0::rs) c t (fun le=>by
    rw[hc];refine⟨v0,v1::vs,rfl,⟨by simp [tC.env],w.heap.size,by simp [tC.env],.inl e0,c,(0,0),ML w _⟩,v1,vs,rfl,⟨by simp [tC.env],⟨none,0,0,e1⟩,fun k hk=>?_⟩,?_⟩
    ·have hk:k=0:=by
      simp [tC.env,oO]at hk;rw[<-hk]
     exact⟨by omega,fun _=>by rw[e1];simp [tC.env]⟩
    ·have r1:=l9.mono le1 _ _ (l9.nb _ _ e2) e2;exact l9.mono le _ _ (l9.nb _ _ r1) r1) h1
   refine⟨_,_,_,(fun l=>if l=(J.heap++[lw.L8 ax]).length then .pointer (some ⟨w.heap.size,0,none⟩)else if l=J.heap.length then .slice none 0 0 else U l),hr,.inl rfl,?_⟩;rw[aFO];refine S'.put dst ⟨by simp [tC.env],w.heap.size,by simp [tC.env],rfl⟩
  ·exact ar6 S hr aIV h1
def ah7(h:rV P t=true):P.underlying t=some .string:=by
 grind [rV]
def ata(h:ao1 P t=some k):P.underlying t=some (.int k):=by
 grind [ao1]
def ao9(h:(nY P t).isSome=true):∃e,P.underlying t=some (.slice e):=by
 obtain⟨⟨e,sz,b⟩,hx⟩:=Option.isSome_iff_exists.1 h;exact⟨e,(Ph hx).1⟩
def aA2(S:pW C U J a w)(h:arS C.P J t x=some ef)(rx:rD (C.env U J.heap w) x v):
 ∃y rd,ef={val:=y,rd}/\∃u,(bn #[t] ty #[v]).run C.P w=.ok u w/\rD (C.env U J.heap w) y u:=by
 unfold arS at h;split at h
 ·split at h
  ·rename_i ht;cases h;simp only[rD]at rx;subst rx;exact⟨_,_,rfl,_,by simp [bn,run_underlying (ah7 ht)];rfl,rfl⟩
  ·cases h
 ·split at h
  ·rename_i ht;obtain⟨e,hu⟩:=ao9 ht;cases h;obtain⟨b,cap,rfl,_⟩:=rx;exact⟨_,_,rfl,_,by simp [bn,run_underlying hu];rfl,rfl⟩
  ·cases h
 ·split at h
  ·rename_i ht;obtain⟨e,hu⟩:=ao9 ht;split at h
   ·rename_i hl;split at h
    ·rename_i hn;cases h;have hv:=SA S hl hn rx;subst hv;obtain⟨b,cap,hh,_⟩:=S.qJ _ _ hl;refine⟨_,_,rfl,.int .i64 _,?_,rfl⟩;rw[hh,<-hn];simp [bn,run_underlying hu];rfl
    ·cases h
   ·rename_i hl;split at h
    ·rename_i hn;cases h;have hv:=as9 S hl hn rx;subst hv;obtain⟨b,cap,hh⟩:=al8 (S.qJ _ _ hl);refine⟨_,_,rfl,.int .i64 _,?_,rfl⟩;rw[hh,<-hn];simp [bn,run_underlying hu];rfl
    ·cases h
   ·cases h
  ·cases h
 ·cases h
theorem anL(S:pW C U J a w){e:aPv}{sz bytes:Nat}{n:Int}(ht:nY C.P t=some (e,sz,bytes))(hz:ou C.P e=some z)
 (hc:z.length=sz/\0<sz/\0<=n) (SR:room n.toNat bytes/\n<2 ^ 62):
 CM C J a w dst ((do pure (.value (<-bo t (.int .i64 n) (.int .i64 n))):Sem Next).run C.P w)
  {val:=.nW J.heap.length n.toNat,rd,nw:=[.nW false sz (an n.toNat z)],pre:=p}:=by
 obtain⟨hu,i,hi,rfl,rfl⟩:=Ph ht;obtain⟨zv,hzr,aCO,aKK⟩:=al4 (w:=w) hz;have hzl:zv.cells.size=i.size:=by have:=(aCO (C.env U J.heap w)).length;simp at this;omega
 have aIq:IntKind.i64.wrap n=n:=by
  grind [IntKind.wrap,IntKind.bits]
 have hti:(typeInfo e).run C.P w=.ok i w:=by simp [typeInfo,hi]
 have hsz:(sizeOf e).run C.P w=.ok i.size w:=by simp [sizeOf,typeInfo,hi]
 have hb:(i.bytes:Int)*n<=2 ^ 44:=by
  grind [room]
 have wm:l9 (C.env U J.heap w) (an n.toNat z).flatten ((bt (n.toNat*i.size)).map (fun j=>(if n.toNat*i.size=0 then(#[]:Array aPr)else zv.cells)[j % (if n.toNat*i.size=0 then(#[]:Array aPr)else zv.cells).size]!)).toList:=by
  grind [akw,Ih]
 have DI:∀u∈((bt (n.toNat*i.size)).map (fun j=>(if n.toNat*i.size=0 then(#[]:Array aPr)else zv.cells)[j % (if n.toNat*i.size=0 then(#[]:Array aPr)else zv.cells).size]!)).toList,u.oneCell'=true:=by
  grind [akw,List.mem_flatten]
 generalize al9:(bt (n.toNat*i.size)).map (fun j=>(if n.toNat*i.size=0 then(#[]:Array aPr)else zv.cells)[j % (if n.toNat*i.size=0 then(#[]:Array aPr)else zv.cells).size]!)=c at wm DI
 have hzs:∀r∈an n.toNat z,r.length=i.size:=by
  grind
 have aM9:c.size=n.toNat*i.size:=by
  grind
 have ar3:(c.toList.drop 0).take (n.toNat*i.size)=c.toList:=by
  grind [bq]
 have S':=S.adl (wT:=false) (sz:=i.size) (rows:=an n.toNat z) (w':=World.more w (.cells c e)) (h':=.slice (some ⟨w.heap.size,0,none⟩) n.toNat n.toNat) (by simp) (fun b hb=>CL w _ hb)
  (AJ w _ (by grind)) ⟨rfl,rfl⟩ (by
    rintro b ⟨rfl,_⟩;exact aC _) (by
    intro E' le hw;refine⟨some ⟨w.heap.size,0,none⟩,n.toNat,by rw[bO],by grind,by simp,hzs,?_⟩;intro a0 ha _;simp only[ah]at ha;subst ha;refine⟨rfl,c,e,by rw[hw];exact ML w _,by rw[aM9];simp,?_,?_⟩
    ·rw[bO,ar3];exact l9.mono le _ _ (l9.nb _ _ wm) wm
    grind)
 have S2:=S'.put dst (x:=.nW J.heap.length n.toNat) (v:=.slice (some ⟨w.heap.size,0,none⟩) n.toNat n.toNat) ⟨by simp [tC.env],⟨_,_,_,rfl⟩,fun k hk=>by
  grind [tC.env,oO]⟩
 have xF:((do pure (.value (<-bo t (.int .i64 n) (.int .i64 n))):Sem Next).run C.P w)=.ok (.value (.slice (some ⟨w.heap.size,0,none⟩) n.toNat n.toNat)) (World.more w (.cells c e)):=by
  have h1: ¬ (((n<0\/(i.bytes:Int)*n>2 ^ 48)\/n<0)\/n>n):=by omega
  by_cases h0:n.toNat*i.size=0
  ·simp only[h0,kW]at al9;simp only[bo,ai,run_underlying hu,ae,asInt,asIntOf,au,hti,aIq,kU,Bool.or_eq_true,h1,if_false,run_askRoom,hsz,h0,kW,newRow,run_newObj];rw[al9];rfl
  ·simp only[h0,if_false]at al9;simp only[bo,ai,run_underlying hu,ae,asInt,asIntOf,au,hti,aIq,kU,Bool.or_eq_true,h1,if_false,run_askRoom,hsz,h0,hzr,newRow,run_newObj];rw[al9];rfl
 rw[<-al7 J dst _ rd _ p]at S2;exact⟨_,_,_,_,xF,.inl rfl,S2⟩
theorem akx(S:pW C U J a w){e:aPv}{len sz bytes:Nat}{wT:Bool}(ht:nY C.P t=some (e,sz,bytes))
 (hz:ou C.P e=some z) (hl:z.length=sz/\len*sz<=16777216) (hf:ade sz (an len z) (parts.toList.map fun p=>(p.1,J.ev p.2))=some rows):
 CM C J a w dst ((do pure (.value (<-aP t len (parts.map fun(i,x)=>(i,a.eval x)))):Sem Next).run C.P w)
  {val:=.nW J.heap.length rows.length,nw:=[.nW wT sz rows]}:=by
 obtain⟨us,xF,hr,DI,hlen,h3,aCN⟩:=agk S ht hz hl hf;have hsz:us.size=len*sz:=by simpa using aCN
 have ar3:(us.toList.drop 0).take (rows.length*sz)=us.toList:=by
  grind
 have S':=S.adl (wT:=wT) (sz:=sz) (rows:=rows) (w':=World.more w (.cells us e)) (h':=.slice (some ⟨w.heap.size,0,none⟩) len len) (by simp) (fun b hb=>CL w _ hb)
  (AJ w _ (by grind)) ⟨rfl,rfl⟩ (by
    rintro b ⟨rfl,_⟩;exact aC _) (by
    intro E' le hw;refine⟨some ⟨w.heap.size,0,none⟩,len,by rw[hlen],by omega,by simp,h3,?_⟩;intro a0 ha _;simp only[ah]at ha;subst ha;refine⟨rfl,us,e,by rw[hw];exact ML w _,by rw[hsz];simp,?_,?_⟩
    ·rw[ar3];exact l9.mono le _ _ (l9.nb _ _ hr) hr
    ·rw[ar3];exact DI)
 have S2:=S'.put dst (x:=.nW J.heap.length rows.length) (v:=.slice (some ⟨w.heap.size,0,none⟩) len len) ⟨by simp [tC.env],⟨_,_,_,rfl⟩,fun k hk=>by
  grind [tC.env,oO]⟩
 have aKT:((do pure (.value (<-aP t len (parts.map fun(i,x)=>(i,a.eval x)))):Sem Next).run C.P w)=.ok (.value (.slice (some ⟨w.heap.size,0,none⟩) len len)) (World.more w (.cells us e)):=by
  simp_all
 rw[<-al7 J dst _ [] _ True]at S2;exact⟨_,_,_,_,aKT,.inl rfl,S2⟩
def CM.of_eq {r':Result Next}{e:yO}(h:r=r')(d:CM C J a w dst r' e):CM C J a w dst r e:=h ▸ d
def aFP{f:W->O}{l:List W}{x:O}(h:l.map f=[x]):∃y,l=[y]/\f y=x:=by
 simp_all
def atb{f:W->O}{l:List W}{x x':O}(h:l.map f=[x,x']):∃y y',l=[y,y']/\f y=x/\f y'=x':=by
 cases l with
 |nil=>simp at h
 |cons y l=>cases l with
  |nil=>simp at h
  |cons z l=>cases l with
   |nil=>grind
   |cons _ _=>simp at h
def aq2(S:pW C U J a w){b:Builtin}{args:Array aPq}{ts:Array aPv}{e:yO}(ho:o.op= .call {callee:= .builtin b,args,argTypes:=ts})
 (h:RW C.P J b args.toList ts.toList (args.toList.map J.ev)=some e) (hp:e.pre):CM C J a w o.dst ((execOp a.eval o).run C.P w) e:=by
 obtain⟨ts,rfl⟩:∃l:List aPv,ts=l.toArray:=⟨ts.toList,by simp⟩;obtain⟨args,rfl⟩:∃l:List aPq,args=l.toArray:=⟨args.toList,by simp⟩;simp only at h
 have xF:(execOp a.eval o).run C.P w=(builtin b ts.toArray o.type (args.toArray.map fun|.const _=>true|_=>false) (args.toArray.map a.eval)).run C.P w:=by
  grind [execOp,resolve,invoke]
 refine CM.of_eq xF ?_;unfold RW at h;split at h
 ·rename_i t x hx;obtain⟨ox,rfl,rfl⟩:=aFP hx;obtain⟨y,rd,rfl,hv⟩:=aA2 (ty:=o.type) S h (S.ev ox)
  grind [mX,builtin]
 ·rename_i t u x y hx;obtain⟨ox,oy,rfl,rfl,rfl⟩:=atb hx;split at h
  ·rename_i et sz bytes ht hu;split at h
   ·rename_i z hz;split at h
    ·rename_i hc;by_cases hy:∃s0,J.ev oy=.str s0
     ·obtain⟨s0,hu'⟩:=hy;rw[hu']at h;simp only[Xa]at h;split at h
      ·have hv:=S.ev oy;rw[hu']at hv;have hv:a.eval oy=.string s0:=hv;obtain⟨v,w',U',hr,hS⟩:=aq1 (u:=u) (dst:=o.dst) (ty:=o.type) S ht (by assumption) h hp (S.ev ox);refine⟨.value v,v,w',U',?_,.inl rfl,hS⟩;simp [builtin,hr,hv]
      ·cases h
     rw[am6 hy]at h;obtain⟨v,w',U',hr,hS⟩:=as8 (dst:=o.dst) (ty:=o.type) S ht hu hz hc h hp (S.ev ox) (S.ev oy);refine⟨.value v,v,w',U',?_,.inl rfl,hS⟩;simp [builtin,hr]
    ·cases h
   ·cases h
  ·cases h
 ·rename_i t u k m k' n hx;obtain⟨ox,oy,rfl,Z6,WH⟩:=atb hx;have r1:=S.ev ox;have r2:=S.ev oy;rw[Z6]at r1;rw[WH]at r2;simp only[rD]at r1 r2;cases h;refine CM.of_eq ?_ (mX (rd:=[]) (p:=True) (m:=pure (.int k (if n>m then n else m))) S ⟨_,rfl,rfl⟩);simp [builtin,Builtin.max_,r1,r2,Builtin.max2]
 ·rename_i t u k m k' n hx;obtain⟨ox,oy,rfl,Z6,WH⟩:=atb hx;have r1:=S.ev ox;have r2:=S.ev oy;rw[Z6]at r1;rw[WH]at r2;simp only[rD]at r1 r2;cases h;refine CM.of_eq ?_ (mX (rd:=[]) (p:=True) (m:=pure (.int k (if n<m then n else m))) S ⟨_,rfl,rfl⟩);simp [builtin,Builtin.min_,r1,r2,Builtin.min2]
 ·cases h
theorem SS(S:pW C U J a w):∀xs:List aPq,l9 (C.env U J.heap w) (xs.map J.ev) (xs.map a.eval)
 |[]=>rfl
 |x::xs=>⟨_,_,rfl,S.ev x,SS S xs⟩
end sound
open Go.MapKept
section
variable {a:Act} {w:aPs}
def pW.aFQ(S:pW C U J a w):
 pW C (fun l=>if l=J.heap.length then .map (some w.heap.size)else U l) {J with heap:=J.heap++[.map []]} a (World.more w (.map #[] 0)):=by
 let U':Nat->aPr:=fun l=>if l=J.heap.length then .map (some w.heap.size)else U l
 let w':=World.more w (.map #[] 0)
 have hφ:∀l,l<J.heap.length->U' l=U l:=fun l hl=>by grind
 have hφn:U' J.heap.length=.map (some w.heap.size):=by simp [U']
 have hsz:w'.heap.size=w.heap.size+1:=aPa _ _;have hold:∀b,b<w.heap.size->w'.heap[b]? =w.heap[b]? :=fun b hb=>CL _ _ hb
 have hL:w'.heap[w.heap.size]? =some (.map #[] 0):=ML _ _
 have qe:∀(l:Nat)(x:lw),(J.heap++[.map []])[l]? =some x->(l<J.heap.length/\J.heap[l]? =some x)\/(l=J.heap.length/\x=.map []):=by
  grind
 have wU:∀b o,b<w.heap.size->w'.cell? ⟨b,o,none⟩=w.cell? ⟨b,o,none⟩:=by
  grind [World.cell?]
 have LY:∀b,(lw.map []).block (U' J.heap.length) b->w.heap.size<=b:=by
  intro b hb;rw[hφn]at hb;have hb:b=w.heap.size:=hb;omega
 have QT:∀b o,KR U' (J.heap++[.map []]) b o->w.heap.size<=b\/KR U J.heap b o:=by
  rintro b o ⟨l,x,hx,hm⟩;rcases qe l x hx with⟨hl,hx⟩|⟨rfl,rfl⟩
  ·rw[hφ l hl]at hm;exact .inr ⟨l,x,hx,hm⟩
  grind [lw.qL]
 have le:(C.env U J.heap w).Le J.heap.length (C.env U' (J.heap++[.map []]) w'):=by
  refine tC.GF (by simp) (fun l hl=>⟨hφ l hl,by rw[aB hl]⟩) (fun b i u hm hc=>?_)
  grind [Kk]
 have FE:vW C U' (J.heap++[.map []]) w' J.df a.defers:=by
  refine S.defers.step le (fun b hb _=>hold b hb) (fun l x b hx hb=>?_)
  grind
 refine {lE:=l9.mono le _ _ (l9.nb _ _ S.lE) S.lE,defers:=FE,qJ:=?_,apart:=?_,wZ:=?_,size:=by show _<=w'.heap.size;have:=S.size;omega,old:=?_,qE:=?_,F2:=?_,AH:=?_,rest:=S.rest,low:=⟨S.low.1,by have:=S.low.2;simp;omega⟩,mZ:=?_}
 ·intro l x hx;show qV _ x (U' l);rcases qe l x hx with⟨hl,hx⟩|⟨rfl,rfl⟩
  ·have r0:=S.qJ l x hx;rw[hφ l hl];exact qV.mono r0 le (fun b hb=>hold b (r0.tT hb))
  ·rw[hφn];exact⟨w.heap.size,#[],0,rfl,hL,rfl⟩
 ·intro l l' x x' b hx EC hb uD;have hb:x.block (U' l) b:=hb;have uD:x'.block (U' l') b:=uD;rcases qe l x hx with⟨hl,hx⟩|⟨rfl,rfl⟩<;>rcases qe l' x' EC with⟨hl',EC⟩|⟨rfl,rfl⟩
  ·rw[hφ l hl]at hb;rw[hφ l' hl']at uD;exact S.apart l l' x x' b hx EC hb uD
  ·rw[hφ l hl]at hb;have h1:=(S.qJ l x hx).tT hb
   grind [tC.env]
  ·rw[hφ l' hl']at uD;have h1:=(S.qJ l' x' EC).tT uD
   grind [tC.env]
  ·rfl
 ·intro l x b o hx hb;have hb:x.block (U' l) b:=hb;rcases qe l x hx with⟨hl,hx⟩|⟨rfl,rfl⟩
  ·rw[hφ l hl]at hb;exact S.wZ l x b o hx hb
  ·intro hA;have h1:=C.hA _ _ hA;have h2:=LY b hb;have:=S.size;omega
 ·intro b i hb hm;rw[wU b i (aa hb S.size)];exact S.old b i hb hm
 ·intro b hb hm;rw[hold b (aa hb S.size)];exact S.qE b hb hm
 ·intro l x b o hx hm hb;have hm:x.Ew (U' l) b o:=hm;rcases qe l x hx with⟨hl,hx⟩|⟨rfl,rfl⟩
  ·rw[hφ l hl]at hm;exact S.F2 l x b o hx hm hb
  ·have h2:=LY b (lw.qL hm);have:=S.size;omega
 ·intro x hx hm0;exact(AJ w (.map #[] 0) (by intro c t lo hi h;cases h) x).trans (S.AH x hx hm0)
 ·intro l hl;have q9:l<J.heap.length:=by have:=S.low;omega
  have:=S.mZ l hl
  grind
def pW.aCZ(S:pW C U J a w)(s:ByteArray):
 pW C (fun l=>if l=J.heap.length then .pointer (some ⟨w.heap.size,0,none⟩)else U l) {J with heap:=J.heap++[.iter s 0]} a (World.more w (.stringIter s 0)):=by
 let U':Nat->aPr:=fun l=>if l=J.heap.length then .pointer (some ⟨w.heap.size,0,none⟩)else U l
 let w':=World.more w (.stringIter s 0)
 have hφ:∀l,l<J.heap.length->U' l=U l:=fun l hl=>by grind
 have hφn:U' J.heap.length=.pointer (some ⟨w.heap.size,0,none⟩):=by simp [U']
 have hsz:w'.heap.size=w.heap.size+1:=aPa _ _;have hold:∀b,b<w.heap.size->w'.heap[b]? =w.heap[b]? :=fun b hb=>CL _ _ hb
 have hL:w'.heap[w.heap.size]? =some (.stringIter s 0):=ML _ _
 have qe:∀(l:Nat)(x:lw),(J.heap++[.iter s 0])[l]? =some x->(l<J.heap.length/\J.heap[l]? =some x)\/(l=J.heap.length/\x=.iter s 0):=by
  grind
 have wU:∀b o,b<w.heap.size->w'.cell? ⟨b,o,none⟩=w.cell? ⟨b,o,none⟩:=by
  grind [World.cell?]
 have LY:∀b,(lw.iter s 0).block (U' J.heap.length) b->w.heap.size<=b:=by
  intro b hb;rw[hφn]at hb;have hb:b=w.heap.size:=hb;omega
 have QT:∀b o,KR U' (J.heap++[.iter s 0]) b o->w.heap.size<=b\/KR U J.heap b o:=by
  rintro b o ⟨l,x,hx,hm⟩;rcases qe l x hx with⟨hl,hx⟩|⟨rfl,rfl⟩
  ·rw[hφ l hl]at hm;exact .inr ⟨l,x,hx,hm⟩
  grind [lw.qL]
 have le:(C.env U J.heap w).Le J.heap.length (C.env U' (J.heap++[.iter s 0]) w'):=by
  refine tC.GF (by simp) (fun l hl=>⟨hφ l hl,by rw[aB hl]⟩) (fun b i u hm hc=>?_)
  grind [Kk]
 have FE:vW C U' (J.heap++[.iter s 0]) w' J.df a.defers:=by
  refine S.defers.step le (fun b hb _=>hold b hb) (fun l x b hx hb=>?_)
  grind
 refine {lE:=l9.mono le _ _ (l9.nb _ _ S.lE) S.lE,defers:=FE,qJ:=?_,apart:=?_,wZ:=?_,size:=by show _<=w'.heap.size;have:=S.size;omega,old:=?_,qE:=?_,F2:=?_,AH:=?_,rest:=S.rest,low:=⟨S.low.1,by have:=S.low.2;simp;omega⟩,mZ:=?_}
 ·intro l x hx;show qV _ x (U' l);rcases qe l x hx with⟨hl,hx⟩|⟨rfl,rfl⟩
  ·have r0:=S.qJ l x hx;rw[hφ l hl];exact qV.mono r0 le (fun b hb=>hold b (r0.tT hb))
  ·rw[hφn];exact⟨w.heap.size,rfl,hL⟩
 ·intro l l' x x' b hx EC hb uD;have hb:x.block (U' l) b:=hb;have uD:x'.block (U' l') b:=uD;rcases qe l x hx with⟨hl,hx⟩|⟨rfl,rfl⟩<;>rcases qe l' x' EC with⟨hl',EC⟩|⟨rfl,rfl⟩
  ·rw[hφ l hl]at hb;rw[hφ l' hl']at uD;exact S.apart l l' x x' b hx EC hb uD
  ·rw[hφ l hl]at hb;have h1:=(S.qJ l x hx).tT hb
   grind [tC.env]
  ·rw[hφ l' hl']at uD;have h1:=(S.qJ l' x' EC).tT uD
   grind [tC.env]
  ·rfl
 ·intro l x b o hx hb;have hb:x.block (U' l) b:=hb;rcases qe l x hx with⟨hl,hx⟩|⟨rfl,rfl⟩
  ·rw[hφ l hl]at hb;exact S.wZ l x b o hx hb
  ·intro hA;have h1:=C.hA _ _ hA;have h2:=LY b hb;have:=S.size;omega
 ·intro b i hb hm;rw[wU b i (aa hb S.size)];exact S.old b i hb hm
 ·intro b hb hm;rw[hold b (aa hb S.size)];exact S.qE b hb hm
 ·intro l x b o hx hm hb;have hm:x.Ew (U' l) b o:=hm;rcases qe l x hx with⟨hl,hx⟩|⟨rfl,rfl⟩
  ·rw[hφ l hl]at hm;exact S.F2 l x b o hx hm hb
  ·have h2:=LY b (lw.qL hm);have:=S.size;omega
 ·intro x hx hm0;exact(AJ w (.stringIter s 0) (by intro c t lo hi h;cases h) x).trans (S.AH x hx hm0)
 ·intro l hl;have q9:l<J.heap.length:=by have:=S.low;omega
  have:=S.mZ l hl
  grind
def pW.atc(S:pW C U J a w){r:Nat}{es':List (AV×AV)}{xs xs':Array MapEntry}{cl cl':Nat}(hl:J.heap[l]? =some (.map es))(hφ:U l=.map (some r))
 (hw:w.heap[r]? =some (.map xs cl)) (hr:uv (C.env U J.heap w) es' xs'.toList):pW C U {J with heap:=J.heap.set l (.map es')} a (w.putObj r (.map xs' cl')):=by
 have q9:l<J.heap.length:=(aj.1 hl).1;have aC0:=(aM.1 hw).1
 have qe:∀(j:Nat)(x:lw),(J.heap.set l (.map es'))[j]? =some x->(j=l/\x=.map es')\/(j≠l/\J.heap[j]? =some x):=by
  grind
 have hbb:(lw.map es).block (U l) r:=by rw[hφ];rfl
 have hmb:∀o,(lw.map es).Ew (U l) r o:=by intro o;rw[hφ];rfl
 have Ii:∀b,b≠r->(w.putObj r (.map xs' cl')).heap[b]? =w.heap[b]? :=fun b hb=>World.putObj_heap_other hb
 have wU:∀b o,(w.putObj r (.map xs' cl')).cell? ⟨b,o,none⟩=w.cell? ⟨b,o,none⟩:=by
  grind [World.cell?,World.putObj_heap_same]
 have Mu:∀b,(lw.map es').block (U l) b->(lw.map es).block (U l) b:=by intro b hb;rw[hφ]at hb ⊢;exact hb
 have auV:∀b o,(lw.map es').Ew (U l) b o->(lw.map es).Ew (U l) b o:=by intro b o hb;rw[hφ]at hb ⊢;exact hb
 have QT:∀b o,KR U (J.heap.set l (.map es')) b o->KR U J.heap b o:=by
  rintro b o ⟨j,x,hx,hm⟩;rcases qe j x hx with⟨rfl,rfl⟩|⟨_,hx⟩
  ·exact⟨j,_,hl,auV b o hm⟩
  ·exact⟨j,x,hx,hm⟩
 have hlen:∀j:Nat,oO (J.heap.set l (.map es'))[j]? =oO J.heap[j]? :=by
  intro j;by_cases e:j=l
  ·subst e;rw[aT q9,hl];rfl
  grind
 have hty:tyk w (w.putObj r (.map xs' cl')):=as2 hw (by intro c t fz h;cases h) Ii
 have le:(C.env U J.heap w).Le J.heap.length (C.env U (J.heap.set l (.map es')) (w.putObj r (.map xs' cl'))):=
  tC.GF (by simp) (fun j _=>⟨rfl,hlen j⟩) (fun b o u hm hc=>⟨fun h=>hm (h.imp (QT b o) id),by rw[wU];exact hc⟩)
 have FE:vW C U (J.heap.set l (.map es')) (w.putObj r (.map xs' cl')) J.df a.defers:=by
  refine S.defers.step le (fun b _ hno=>Ii b (fun e=>by subst e;exact hno l _ hl hbb)) (fun j x b hx hb=>?_)
  grind
 refine {lE:=l9.mono le _ _ (l9.nb _ _ S.lE) S.lE,defers:=FE,qJ:=?_,apart:=?_,wZ:=?_,size:=by rw[World.putObj_size];exact S.size,old:=fun b o hb hm=>by rw[wU];exact S.old b o hb hm,qE:=?_,F2:=?_,AH:=?_,rest:=S.rest,low:=⟨S.low.1,by simpa using S.low.2⟩,mZ:=?_}
 ·intro j x hx;rcases qe j x hx with⟨rfl,rfl⟩|⟨uP,hx⟩
  ·exact⟨r,xs',cl',hφ,World.putObj_heap_same aC0,uv.mono le (uv.nb hr) hr⟩
  ·exact qV.mono (S.qJ j x hx) le (fun b hb=>Ii b (fun e=>by subst e;exact uP (S.apart j l x _ b hx hl hb hbb)))
 ·intro j j' x x' b hx EC hb uD;rcases qe j x hx with⟨rfl,rfl⟩|⟨uP,Z6⟩<;>rcases qe j' x' EC with⟨e2,rfl⟩|⟨aqX,WH⟩
  ·exact e2.symm
  ·exact S.apart j j' _ x' b hl WH (Mu b hb) uD
  ·rw[e2]at uD ⊢;exact S.apart j l x _ b Z6 hl hb (Mu b uD)
  ·exact S.apart j j' x x' b Z6 WH hb uD
 ·intro j x b o hx hb;rcases qe j x hx with⟨rfl,rfl⟩|⟨_,hx⟩
  ·exact S.wZ j _ b o hl (Mu b hb)
  ·exact S.wZ j x b o hx hb
 ·intro b hb hm;rw[Ii b (fun e=>by subst e;exact hm 0 (S.F2 l _ b 0 hl (hmb 0) hb))];exact S.qE b hb hm
 ·intro j x b o hx hm hb;rcases qe j x hx with⟨rfl,rfl⟩|⟨_,hx⟩
  ·exact S.F2 j _ b o hl (auV b o hm) hb
  ·exact S.F2 j x b o hx hm hb
 ·intro x hx hm0;rw[<-S.AH x hx hm0]
  grind [World.frozen?,World.putObj_heap_same]
 ·intro j hj;have:=S.mZ j hj;rw[hlen j];exact this
def pW.aFR(S:pW C U J a w){r:Nat}{s':ByteArray}{p p':Nat}(hl:J.heap[l]? =some (.iter s p))(hφ:U l=.pointer (some ⟨r,0,none⟩))
 (hw:w.heap[r]? =some (.stringIter s p)):pW C U {J with heap:=J.heap.set l (.iter s' p')} a (w.putObj r (.stringIter s' p')):=by
 have q9:l<J.heap.length:=(aj.1 hl).1;have aC0:=(aM.1 hw).1
 have qe:∀(j:Nat)(x:lw),(J.heap.set l (.iter s' p'))[j]? =some x->(j=l/\x=.iter s' p')\/(j≠l/\J.heap[j]? =some x):=by
  grind
 have hbb:(lw.iter s p).block (U l) r:=by rw[hφ];rfl
 have hmb:∀o,(lw.iter s p).Ew (U l) r o:=by intro o;rw[hφ];rfl
 have Ii:∀b,b≠r->(w.putObj r (.stringIter s' p')).heap[b]? =w.heap[b]? :=fun b hb=>World.putObj_heap_other hb
 have wU:∀b o,(w.putObj r (.stringIter s' p')).cell? ⟨b,o,none⟩=w.cell? ⟨b,o,none⟩:=by
  grind [World.cell?,World.putObj_heap_same]
 have Mu:∀b,(lw.iter s' p').block (U l) b->(lw.iter s p).block (U l) b:=by intro b hb;rw[hφ]at hb ⊢;exact hb
 have auV:∀b o,(lw.iter s' p').Ew (U l) b o->(lw.iter s p).Ew (U l) b o:=by intro b o hb;rw[hφ]at hb ⊢;exact hb
 have QT:∀b o,KR U (J.heap.set l (.iter s' p')) b o->KR U J.heap b o:=by
  rintro b o ⟨j,x,hx,hm⟩;rcases qe j x hx with⟨rfl,rfl⟩|⟨_,hx⟩
  ·exact⟨j,_,hl,auV b o hm⟩
  ·exact⟨j,x,hx,hm⟩
 have hlen:∀j:Nat,oO (J.heap.set l (.iter s' p'))[j]? =oO J.heap[j]? :=by
  intro j;by_cases e:j=l
  ·subst e;rw[aT q9,hl];rfl
  grind
 have hty:tyk w (w.putObj r (.stringIter s' p')):=as2 hw (by intro c t fz h;cases h) Ii
 have le:(C.env U J.heap w).Le J.heap.length (C.env U (J.heap.set l (.iter s' p')) (w.putObj r (.stringIter s' p'))):=
  tC.GF (by simp) (fun j _=>⟨rfl,hlen j⟩) (fun b o u hm hc=>⟨fun h=>hm (h.imp (QT b o) id),by rw[wU];exact hc⟩)
 have FE:vW C U (J.heap.set l (.iter s' p')) (w.putObj r (.stringIter s' p')) J.df a.defers:=by
  refine S.defers.step le (fun b _ hno=>Ii b (fun e=>by subst e;exact hno l _ hl hbb)) (fun j x b hx hb=>?_)
  grind
 refine {lE:=l9.mono le _ _ (l9.nb _ _ S.lE) S.lE,defers:=FE,qJ:=?_,apart:=?_,wZ:=?_,size:=by rw[World.putObj_size];exact S.size,old:=fun b o hb hm=>by rw[wU];exact S.old b o hb hm,qE:=?_,F2:=?_,AH:=?_,rest:=S.rest,low:=⟨S.low.1,by simpa using S.low.2⟩,mZ:=?_}
 ·intro j x hx;rcases qe j x hx with⟨rfl,rfl⟩|⟨uP,hx⟩
  ·exact⟨r,hφ,World.putObj_heap_same aC0⟩
  ·exact qV.mono (S.qJ j x hx) le (fun b hb=>Ii b (fun e=>by subst e;exact uP (S.apart j l x _ b hx hl hb hbb)))
 ·intro j j' x x' b hx EC hb uD;rcases qe j x hx with⟨rfl,rfl⟩|⟨uP,Z6⟩<;>rcases qe j' x' EC with⟨e2,rfl⟩|⟨aqX,WH⟩
  ·exact e2.symm
  ·exact S.apart j j' _ x' b hl WH (Mu b hb) uD
  ·rw[e2]at uD ⊢;exact S.apart j l x _ b Z6 hl hb (Mu b uD)
  ·exact S.apart j j' x x' b Z6 WH hb uD
 ·intro j x b o hx hb;rcases qe j x hx with⟨rfl,rfl⟩|⟨_,hx⟩
  ·exact S.wZ j _ b o hl (Mu b hb)
  ·exact S.wZ j x b o hx hb
 ·intro b hb hm;rw[Ii b (fun e=>by subst e;exact hm 0 (S.F2 l _ b 0 hl (hmb 0) hb))];exact S.qE b hb hm
 ·intro j x b o hx hm hb;rcases qe j x hx with⟨rfl,rfl⟩|⟨_,hx⟩
  ·exact S.F2 j _ b o hl (auV b o hm) hb
  ·exact S.F2 j x b o hx hm hb
 ·intro x hx hm0;rw[<-S.AH x hx hm0]
  grind [World.frozen?,World.putObj_heap_same]
 ·intro j hj;have:=S.mZ j hj;rw[hlen j];exact this
def axT(S:pW C U J a w){e:yO}(h:ah6 l J.heap[l]? =some e)(hv:rD (C.env U J.heap w) (.ptr l 0) v):
 ∃u w',(cf v true ty).run C.P w=.ok u w'/\rD (C.env U (pI J.heap e.up) w') e.val u/\pW C U {J with heap:=pI J.heap e.up} a w'/\e.nw=[]:=by
 unfold ah6 at h;split at h
 ·rename_i s p hl;obtain⟨b,hφ,hb⟩:=S.qJ l _ hl;have hb:w.heap[b]? =some (.stringIter s p):=hb;obtain⟨q9,b',hφ',rfl⟩:=hv;have hφ':U l=.pointer (some ⟨b',0,none⟩):=hφ';have hbb:b'=b:=by grind
  subst hbb;split at h
  ·rename_i hp;cases h;have hb2:=(aM.1 hb).1;refine⟨.tuple #[.bool true,goInt p,.int .i32 (Utf8.decode s p).1],w.putObj b' (.stringIter s (p+(Utf8.decode s p).2)),?_,?_,S.aFR hl hφ hb,rfl⟩
   ·simp [cf,getObj,setObj,Sem.run,hb,hp,World.putObj,av]
   ·exact⟨_,rfl,_,_,rfl,rfl,_,_,rfl,rfl,_,_,rfl,rfl,rfl⟩
  ·rename_i hp;cases h;refine⟨.tuple #[.bool false],w,?_,⟨_,rfl,_,_,rfl,rfl,rfl⟩,by simpa [pI] using S,rfl⟩;simp [cf,getObj,Sem.run,hb,hp,av]
 ·cases h
def atd{z:AV}(h:tz1 P t=some z):∃v,(zeroValue t).run P w=.ok v w/\∀E,rD E z v:=by
 unfold tz1 at h;cases hi:P.info? t with
 |none=>simp [hi]at h
 |some i=>
  simp only[hi]at h;split at h
  ·rename_i b hz;cases h;exact⟨.bool b,by simp [zeroValue,typeInfo,hi,hz],fun E=>rfl⟩
  ·rename_i k n hz;cases h;exact⟨.int k n,by simp [zeroValue,typeInfo,hi,hz],fun E=>rfl⟩
  ·rename_i s hz;cases h;exact⟨.string s,by simp [zeroValue,typeInfo,hi,hz],fun E=>rfl⟩
  ·rename_i vs hz;cases h;exact⟨.agg vs,by simp [zeroValue,typeInfo,hi,hz],fun E=>⟨vs,rfl,adk E _⟩⟩
  ·cases h
def apa{z:AV}(h:agj P t=some z):∃k e,P.underlying t=some (.map k e)/\P.underlying k=some .string/\tz1 P e=some z:=by
 grind [agj]
def aoM{E:HI}{s:ByteArray}{v:AV}{u:aPr}(hv:rD E v u): ∀(es:List (AV×AV))(xs:List MapEntry)(i:Nat),aON es=true->uv E es xs->
 (∃j x e,C3 s es=some x/\az .string (.string s) xs i=some (some (i+j,e.val))/\xs[j]? =some e/\e.key=.string s/\rD E x e.val/\uv E (RX s v es) (xs.modify j fun e=>{e with key:=.string s,val:=u}))\/
 (C3 s es=none/\az .string (.string s) xs i=some none/\∀b,uv E (RX s v es) (xs++[{key:=.string s,val:=u,born:=b}]))
 |[],_,i,_,rfl=>.inr ⟨rfl,rfl,fun b=>⟨_,[],rfl,rfl,hv,rfl⟩⟩
 |(k,x)::es,xs,i,hs,⟨e,r,hx,r1,r2,r3⟩=>by
  subst hx;cases k with
  |str b=>
   have hs':aON es=true:=hs;have hk:e.key=.string b:=r1;cases hb:s==b with
   |true=>
    have hsb:s=b:=(bytes_beq s b).1 hb;subst hsb;refine .inl ⟨0,x,e,?_,?_,rfl,hk,r2,?_⟩
    ·simp only[C3,hb,kP]
    ·grind [az,aY]
    ·simp only[RX,hb,kP];exact⟨_,r,rfl,rfl,hv,r3⟩
   |false=>
    rcases aoM hv es r (i+1) hs' r3 with⟨j,x',e',h1,h2,h3,h4,h5,h6⟩|⟨h1,h2,h3⟩
    ·refine .inl ⟨j+1,x',e',?_,?_,by simpa using h3,h4,h5,?_⟩
     ·grind [C3]
     ·grind [az,aY]
     ·simp only[RX,hb,kQ,bP];exact⟨e,_,rfl,r1,r2,h6⟩
    ·refine .inr ⟨?_,?_,fun q=>?_⟩
     ·grind [C3]
     ·grind [az,aY]
     ·simp only[RX,hb,kQ,List.cons_append];exact⟨e,_,rfl,r1,r2,h3 q⟩
  |_=>cases hs
def ate(S:pW C U J a w){z:AV}(ht:agj C.P t=some z)(hl:J.heap[l]? =some (.map es))(hs:aON es=true)
 (hv:rD (C.env U J.heap w) (.map l) v):∃u,(aL t v (.string s) false).run C.P w=.ok u w/\rD (C.env U J.heap w) ((C3 s es).getD z) u:=by
 obtain⟨kt,et,hu,hk,hz⟩:=apa ht;obtain⟨zv,hzr,hzE⟩:=atd (w:=w) hz;obtain⟨r,xs,cl,hφ,hb,wm⟩:=S.qJ l _ hl;have hb:w.heap[r]? =some (.map xs cl):=hb;obtain⟨_,rfl,_⟩:=hv;have hφ':(C.env U J.heap w).U l=.map (some r):=hφ;rw[hφ'];have hck:=run_checkKey (P:=C.P) (w:=w) hk (d:=.string) (k:=.string s) trivial xs.isEmpty 9999;rcases aoM (s:=s) (v:=.any) (u:=undef) (E:=C.env U J.heap w) trivial es xs.toList 0 hs wm with⟨j,x,e,h1,h2,_,_,h5,_⟩|⟨h1,h2,_⟩
 ·refine⟨e.val,?_,by rw[h1];exact h5⟩;simp [aL,run_underlying hu,ak hb,hck,run_findKey hk h2,av]
 ·refine⟨zv,?_,by rw[h1];exact hzE _⟩;simp [aL,run_underlying hu,ak hb,hck,run_findKey hk h2,hzr,av]
def apb(S:pW C U J a w){z:AV}(ht:agj C.P t=some z)(hl:J.heap[l]? =some (.map es))(hs:aON es=true)
 (hv:rD (C.env U J.heap w) (.map l) v):∃u,∃_:Unit,(aL t v (.string s) true).run C.P w=.ok u w/\rD (C.env U J.heap w) (arU z l (C3 s es)).val u:=by
 obtain⟨kt,et,hu,hk,hz⟩:=apa ht;obtain⟨zv,hzr,hzE⟩:=atd (w:=w) hz;obtain⟨r,xs,cl,hφ,hb,wm⟩:=S.qJ l _ hl;have hb:w.heap[r]? =some (.map xs cl):=hb;obtain⟨_,rfl,_⟩:=hv;have hφ':(C.env U J.heap w).U l=.map (some r):=hφ;rw[hφ'];have hck:=run_checkKey (P:=C.P) (w:=w) hk (d:=.string) (k:=.string s) trivial xs.isEmpty 9999;rcases aoM (s:=s) (v:=.any) (u:=undef) (E:=C.env U J.heap w) trivial es xs.toList 0 hs wm with⟨j,x,e,h1,h2,_,_,h5,_⟩|⟨h1,h2,_⟩
 ·refine⟨.tuple #[e.val,.bool true],(),?_,by rw[h1];exact⟨_,rfl,_,_,rfl,h5,_,_,rfl,rfl,rfl⟩⟩;simp [aL,run_underlying hu,ak hb,hck,run_findKey hk h2,av]
 ·refine⟨.tuple #[zv,.bool false],(),?_,by rw[h1];exact⟨_,rfl,_,_,rfl,hzE _,_,_,rfl,rfl,rfl⟩⟩;simp [aL,run_underlying hu,ak hb,hck,run_findKey hk h2,hzr,av]
def aeS(S:pW C U J a w){z:AV}(ht:agj C.P t=some z)(hl:J.heap[l]? =some (.map es))(hs:aON es=true)
 (hv:rD (C.env U J.heap w) (.map l) v) (hy:rD (C.env U J.heap w) y u):∃w',(aS t v (.string s) u).run C.P w=.ok () w'/\pW C U {J with heap:=J.heap.set l (.map (RX s y es))} a w':=by
 obtain⟨kt,et,hu,hk,hz⟩:=apa ht;obtain⟨r,xs,cl,hφ,hb,wm⟩:=S.qJ l _ hl;have hb:w.heap[r]? =some (.map xs cl):=hb;obtain⟨_,rfl,_⟩:=hv;have hφ':(C.env U J.heap w).U l=.map (some r):=hφ;rw[hφ'];have hck:=run_checkKey (P:=C.P) (w:=w) hk (d:=.string) (k:=.string s) trivial false 9999;rcases aoM (s:=s) (v:=y) (u:=u) (E:=C.env U J.heap w) hy es xs.toList 0 hs wm with⟨j,x,e,h1,h2,h3,h4,_,h6⟩|⟨h1,h2,h3⟩
 ·have hj:xs[j]? =some e:=by simpa using h3
  have h2':az .string (.string s) xs.toList 0=some (some (j,e.val)):=by simpa using h2
  refine⟨w.putObj r (.map (xs.modify j fun e=>{e with key:=.string s,val:=u}) cl),?_,S.atc hl hφ hb ?_⟩
  ·simp [aS,run_underlying hu,ak hb,hck,run_findKey hk h2',hj,h4,run_keyThatStays (d:=.string) (k:=.string s) trivial,run_setObj_map _ hb,av,World.putObj]
  grind
 ·refine⟨w.putObj r (.map (xs.push {key:=.string s,val:=u,born:=cl}) (cl+1)),?_,S.atc hl hφ hb ?_⟩
  ·simp [aS,run_underlying hu,ak hb,hck,run_findKey hk h2,run_setObj_map _ hb,av,World.putObj]
  grind
def auW(h:ao2 P t=true):∃k e,P.underlying t=some (.map k e)/\P.underlying k=some (.int .i64)/\tz1 P e=some (.int .i64 0):=by
 unfold ao2 at h;split at h
 ·rename_i k e hu;split at h
  ·rename_i h1 h2;exact⟨k,e,hu,h1,h2⟩
  ·cases h
 ·cases h
def apc{E:HI}{n m:Int}: ∀(ms:List (Int×Int))(xs:List MapEntry)(i:Nat),uv E (aqV ms) xs->
 (∃j x e,aiV n ms=some x/\az (.int .i64) (.int .i64 n) xs i=some (some (i+j,e.val))/\xs[j]? =some e/\e.key=.int .i64 n/\e.val=.int .i64 x/\uv E (aqV (as5 n m ms)) (xs.modify j fun e=>{e with key:=.int .i64 n,val:=.int .i64 m}))\/
 (aiV n ms=none/\az (.int .i64) (.int .i64 n) xs i=some none/\∀b,uv E (aqV (as5 n m ms)) (xs++[{key:=.int .i64 n,val:=.int .i64 m,born:=b}]))
 |[],_,i,rfl=>.inr ⟨rfl,rfl,fun b=>⟨_,[],rfl,rfl,rfl,rfl⟩⟩
 |(k,x)::ms,xs,i,⟨e,r,hx,r1,r2,r3⟩=>by
  subst hx;have hk:e.key=.int .i64 k:=r1;have hv:e.val=.int .i64 x:=r2;cases hb:n==k with
  |true=>
   have hsb:n=k:=beq_iff_eq.1 hb;subst hsb;refine .inl ⟨0,x,e,?_,?_,rfl,hk,hv,?_⟩
   ·simp only[aiV,hb,kP]
   ·grind [az,aY]
   ·simp only[as5,hb,kP];exact⟨_,r,rfl,rfl,rfl,r3⟩
  |false=>
   rcases apc (n:=n) (m:=m) ms r (i+1) r3 with⟨j,x',e',h1,h2,h3,h4,h5,h6⟩|⟨h1,h2,h3⟩
   ·refine .inl ⟨j+1,x',e',?_,?_,by simpa using h3,h4,h5,?_⟩
    ·simp only[aiV,hb,kQ,h1]
    ·grind [az,aY]
    ·simp only[as5,hb,kQ,bP];exact⟨e,_,rfl,r1,r2,h6⟩
   ·refine .inr ⟨?_,?_,fun q=>?_⟩
    ·simp only[aiV,hb,kQ,h1]
    ·grind [az,aY]
    ·simp only[as5,hb,kQ,List.cons_append];exact⟨e,_,rfl,r1,r2,h3 q⟩
theorem ah8:∀{es:List (AV×AV)}{ms:List (Int×Int)},ajG es=some ms->es=aqV ms
 |[],ms,h=>by simp only[ajG,ah]at h;subst h;rfl
 |(k,v)::es,ms,h=>by
  unfold ajG at h;split at h
  ·rename_i h0;cases h0
  ·rename_i x y zs h0;cases h0;simp only[aJ]at h;obtain⟨ys,hy,rfl⟩:=h;rw[ah8 hy];rfl
  ·cases h
def anM(S:pW C U J a w){n:Int}(ht:ao2 C.P t=true)(hl:J.heap[l]? =some (.map (aqV ms)))
 (hv:rD (C.env U J.heap w) (.map l) v):∃u,(aL t v (.int .i64 n) true).run C.P w=.ok u w/\rD (C.env U J.heap w) (.Mt [.int .i64 ((aiV n ms).getD 0),.bool (aiV n ms).isSome]) u:=by
 obtain⟨kt,et,hu,hk,hz⟩:=auW ht;obtain⟨zv,hzr,hzE⟩:=atd (w:=w) hz;obtain⟨r,xs,cl,hφ,hb,wm⟩:=S.qJ l _ hl;have hb:w.heap[r]? =some (.map xs cl):=hb;obtain⟨_,rfl,_⟩:=hv;have hφ':(C.env U J.heap w).U l=.map (some r):=hφ;rw[hφ'];have hck:=run_checkKey (P:=C.P) (w:=w) hk (d:=.int .i64) (k:=.int .i64 n) (by simp [IsKey]) xs.isEmpty 9999;rcases apc (n:=n) (m:=0) (E:=C.env U J.heap w) ms xs.toList 0 wm with⟨j,x,e,h1,h2,_,_,h5,_⟩|⟨h1,h2,_⟩
 ·refine⟨.tuple #[e.val,.bool true],?_,by rw[h1,h5];exact⟨_,rfl,_,_,rfl,rfl,_,_,rfl,rfl,rfl⟩⟩;simp [aL,run_underlying hu,ak hb,hck,run_findKey hk h2,av]
 ·refine⟨.tuple #[zv,.bool false],?_,by rw[h1];exact⟨_,rfl,_,_,rfl,hzE _,_,_,rfl,rfl,rfl⟩⟩;simp [aL,run_underlying hu,ak hb,hck,run_findKey hk h2,hzr,av]
def abq(S:pW C U J a w){n:Int}(ht:ao2 C.P t=true)(hl:J.heap[l]? =some (.map (aqV ms)))
 (hv:rD (C.env U J.heap w) (.map l) v):∃w',(aS t v (.int .i64 n) (.int .i64 m)).run C.P w=.ok () w'/\pW C U {J with heap:=J.heap.set l (.map (aqV (as5 n m ms)))} a w':=by
 obtain⟨kt,et,hu,hk,hz⟩:=auW ht;obtain⟨r,xs,cl,hφ,hb,wm⟩:=S.qJ l _ hl;have hb:w.heap[r]? =some (.map xs cl):=hb;obtain⟨_,rfl,_⟩:=hv;have hφ':(C.env U J.heap w).U l=.map (some r):=hφ;rw[hφ'];have hck:=run_checkKey (P:=C.P) (w:=w) hk (d:=.int .i64) (k:=.int .i64 n) (by simp [IsKey]) false 9999;rcases apc (n:=n) (m:=m) (E:=C.env U J.heap w) ms xs.toList 0 wm with⟨j,x,e,h1,h2,h3,h4,_,h6⟩|⟨h1,h2,h3⟩
 ·have hj:xs[j]? =some e:=by simpa using h3
  have h2':az (.int .i64) (.int .i64 n) xs.toList 0=some (some (j,e.val)):=by simpa using h2
  refine⟨w.putObj r (.map (xs.modify j fun e=>{e with key:=.int .i64 n,val:=.int .i64 m}) cl),?_,S.atc hl hφ hb ?_⟩
  ·simp [aS,run_underlying hu,ak hb,hck,run_findKey hk h2',hj,h4,run_keyThatStays (d:=.int .i64) (k:=.int .i64 n) (by simp [IsKey]),run_setObj_map _ hb,av,World.putObj]
  grind
 ·refine⟨w.putObj r (.map (xs.push {key:=.int .i64 n,val:=.int .i64 m,born:=cl}) (cl+1)),?_,S.atc hl hφ hb ?_⟩
  ·simp [aS,run_underlying hu,ak hb,hck,run_findKey hk h2,run_setObj_map _ hb,av,World.putObj]
  grind
end
def aA3:∀{ms:List Int}{i:Nat}{m:Int},aku cs=some ms->ms[i]? =some m->cs[i]? =some (.int .i64 m):=by
 induction cs with
 |nil=>intro ms i m h hm;simp only[aku,ah]at h;subst h;simp at hm
 |cons c cs ih=>
  intro ms i m h hm;unfold aku at h;split at h
  ·rename_i h0;cases h0
  ·rename_i n xs h0;cases h0;simp only[aJ]at h;obtain⟨ys,hy,rfl⟩:=h;cases i with
   |zero=>simp only[aH,ah]at hm ⊢;subst hm;rfl
   |succ i=>simp only[bc]at hm ⊢;exact ih hy hm
  ·cases h
def aA4{w:aPs}{len:Nat}{ms:List Int}{n:Int}(ht:am7 C.P t=some len)(hi:aku cs=some ms)(h0:0<=n)(hl:n<len)(hm:ms[n.toNat]? =some m)
 (hx:rD E (.agg cs) v) (hu:rD E (.int k n) u):(bI t v u).run C.P w=.ok (.int .i64 m) w:=by
 obtain⟨vs,rfl,rl⟩:=hx;simp only[rD]at hu;subst hu;obtain⟨x,Z6,WH⟩:=rl.get (aA3 hi hm);simp only[rD]at WH;subst WH;unfold am7 at ht;split at ht
 ·rename_i n' e hue;split at ht
  ·rename_i hie;simp only[ah]at ht;subst ht;have hg:vs[n.toNat]? =some (.int .i64 m):=by simpa using Z6
   obtain⟨r1,r2⟩:=N2 (C:=C) (w:=w) hie;simp [bI,asIntOf,run_underlying hue,h0,hl,part,r1,r2,hg]
  ·cases ht
 ·cases ht
def axU{w:aPs}(hE:E.w=w){s d e:aPv}{bytes:Nat}{n:Int}(ht:nY C.P s=some (e,1,bytes))(he:ao1 C.P e=some .u8)(hd:rV C.P d=true){z:Nat}(hx:rD E (.mj tt z [[.int .u8 n]]) v):
 (convert s d v).run C.P w=.ok (.string ⟨[UInt8.ofNat n.toNat].toArray⟩) w:=by
 obtain⟨hu,i,hi,h1,rfl⟩:=Ph ht;obtain⟨base,cap,rfl,h2,h3,h4,h5,h6⟩:=hx;cases base with
 |none=>have:=h4 rfl;simp only[aI,bG]at h2;omega
 |some a=>
  have hsp:=h5 a rfl (by simp);obtain⟨hz,⟨⟨_,u,hu1,_,hu2⟩,_⟩,_⟩:=h6 a rfl;simp only[aI,bG]at hz;subst hz;simp only[rD]at hu2;subst hu2;have ha:a=⟨a.block,a.off,none⟩:=by cases a;simp_all
  have hl:=run_loadCells_list (P:=C.P) w a [.int .u8 n] (fun j v hj=>by
   match j,hj with
   |0,hj=>simp only[aH,ah]at hj;subst hj;rw[ha,DC,bB,<-hE];exact hu1
   |j+1,hj=>simp at hj)
  simp only[aI,bG]at hl ⊢;have hd':=ah7 hd;have he':=ata he;simp [convert,run_underlying hu,run_underlying hd',run_underlying he',Conv.bytesToString,hl];rfl
section sound
variable {a:Act} {w:aPs}
def auX(S:pW C U J a w)(ht:o9 C.P t=some (g,n))(hl:J.heap[l]? =some (.cells cs))(hx:l3 g n (cs.drop off)=some x)
 (r:rD (C.env U J.heap w) (.ptr l off) v):∃u,(aQ t v).run C.P w=.ok u w/\rD (C.env U J.heap w) x u:=by
 obtain⟨_,b,hφ,rfl⟩:=r;obtain⟨b2,c,t2,hφ2,hh,rl,_⟩:=S.qJ l _ hl;have e:b2=b:=by grind [tC.env]
 subst e;have hi:=N2 (C:=C) (w:=w) ht;obtain⟨u,hu,ru⟩:=adi (P:=C.P) (t:=t) (ao5 hh rl off) hi.1 hi.2 hx
 grind [aQ,aA,tC.env]
def ah9(S:pW C U J a w): ∀{cs ds:List AV}{ns:List Nat}{vs:List aPr},vwL J.heap cs=some (ds,ns)->l9 (C.env U J.heap w) cs vs->l9 (C.env U J.heap w) ds vs
 |[],_,_,_,h,r=>by grind [vwL]
 |c::cs,ds,ns,vs,h,⟨u,us,hv,r1,r2⟩=>by
  unfold vwL at h;split at h
  ·cases ‹_::_=[]›
  ·rename_i l n cs' heq;simp only[aZ]at heq;obtain⟨rfl,rfl⟩:=heq;split at h
   ·rename_i wT sz rows hl;split at h
    ·rename_i hn;split at h
     ·rename_i es ms he;simp only[ah,bf]at h;obtain⟨rfl,_⟩:=h;cases wT with
      |false=>exact⟨u,us,hv,r1,ah9 S he r2⟩
      |true=>
       have hu:=SA S hl hn r1;subst hu;exact⟨_,us,hv,agn S hl,ah9 S he r2⟩
     ·cases h
    ·cases h
   ·cases h
  ·rename_i c' cs' _ heq;simp only[aZ]at heq;obtain⟨rfl,rfl⟩:=heq;split at h
   ·rename_i es ms he;simp only[ah,bf]at h;obtain⟨rfl,_⟩:=h;exact⟨u,us,hv,r1,ah9 S he r2⟩
   ·cases h
def aA5(S:pW C U J a w){v:AV}{e:yO}(h:ldV J.heap l v=some e)(r:rD (C.env U J.heap w) v u):e.up=[]/\e.nw=[]/\e.pre=True/\rD (C.env U J.heap w) e.val u:=by
 unfold ldV at h;split at h
 ·split at h
  ·rename_i ds ns he;cases h;obtain⟨vs,hv,rl⟩:=r;exact⟨rfl,rfl,rfl,vs,hv,ah9 S he rl⟩
  ·cases h
 grind
theorem aFS(ht:o9 C.P t=some (g,n))(hx:l3 g n cs=some x)
 (r:rD (C.env U J.heap w) (.pp cs) v):∃u,(aQ t v).run C.P w=.ok u w/\rD (C.env U J.heap w) x u:=by
 obtain⟨b,off,rfl,rm⟩:=r;have hi:=N2 (C:=C) (w:=w) ht;obtain⟨u,hu,ru⟩:=adi (P:=C.P) (t:=t) (aOO rm) hi.1 hi.2 hx
 grind [aQ,aA,tC.env]
def WI{m:Sem W}{f:W->Sem O}{w:aPs}{x:W}{r:Result O}(h1:m.run P w=.ok x w)(h2:(f x).run P w=r):(m>>=f).run P w=r:=by
 rw[ai,h1];exact h2
def SU {t':aPv}{x y:aPq}{w:aPs}(ht:axM P t=true):
 ((∀op,(eqGuard op t x y (.iface t' u) .nilIface).run P w=.ok () w)/\∀op,(eqGuard op t x y .nilIface .nilIface).run P w=.ok () w)/\
 ((binOp .eql t (.iface t' u) .nilIface).run P w=.ok (.bool false) w/\(binOp .neq t (.iface t' u) .nilIface).run P w=.ok (.bool true) w)/\
 (binOp .eql t .nilIface .nilIface).run P w=.ok (.bool true) w/\(binOp .neq t .nilIface .nilIface).run P w=.ok (.bool false) w:=by
 unfold axM at ht;split at ht
 ·rename_i ms hu;obtain⟨d,hd⟩:∃d,Op.maxDepth=d+1:=⟨_,rfl⟩
  have e1:(bg t (.iface t' u) .nilIface).run P w=.ok false w:=by
   simp_all [bg,bS,run_underlying]
  have e2:(bg t .nilIface .nilIface).run P w=.ok true w:=by
   unfold bg;simp_all [bS,run_underlying]
  have key:(Op.eqGuardIn Op.maxDepth t .nilIface .nilIface).run P w=.ok false w:=by
   simp_all [Op.eqGuardIn,run_underlying]
  have g1:∀op,(eqGuard op t x y (.iface t' u) .nilIface).run P w=.ok () w:=by
   simp_all [eqGuard]
  have hg:∀op,(eqGuard op t x y .nilIface .nilIface).run P w=.ok () w:=by
   simp_all [eqGuard]
  exact⟨⟨g1,hg⟩,⟨WI e1 rfl,WI e1 rfl⟩,WI e2 rfl,WI e2 rfl⟩
 ·cases ht
def auY{f:Fn}{a:Array aPr}{x y:aPq}{w:aPs}(ht:aAX P t=true):
 (do eqGuard .neq t x y (.func f a c) .nilFunc;binOp .neq t (.func f a c) .nilFunc:Sem aPr).run P w=.ok (.bool true) w/\
 (do eqGuard .neq t x y .nilFunc .nilFunc;binOp .neq t .nilFunc .nilFunc:Sem aPr).run P w=.ok (.bool false) w:=by
 unfold aAX at ht;split at ht
 ·rename_i p q r hu;obtain⟨d,hd⟩:∃d,Op.maxDepth=d+1:=⟨_,rfl⟩
  have e1:(bg t (.func f a c) .nilFunc).run P w=.ok false w:=by
   simp_all [bg,bS,run_underlying]
  have e2:(bg t .nilFunc .nilFunc).run P w=.ok true w:=by
   simp_all [bg,bS,run_underlying]
  exact⟨WI rfl (WI e1 rfl),WI rfl (WI e2 rfl)⟩
 ·cases ht
def aFT {y:aPq}{e:yO}{w:aPs}{a:Act}(h:ajF P op t x y=some e)(r:rD E x v):
 ∃b,a.eval y=.slice none 0 0/\(do eqGuard op t ox y v (.slice none 0 0);binOp op t v (.slice none 0 0):Sem aPr).run P w=.ok (.bool b) w/\e={val:=.bool b}:=by
 have key:∀(base:Option Addr)(n c:Nat),(nY P t).isSome=true->(do eqGuard .eql t ox y (.slice base n c) (.slice none 0 0);binOp .eql t (.slice base n c) (.slice none 0 0):Sem aPr).run P w=.ok (.bool base.isNone) w:=by
  intro base n c ht
  obtain⟨e',he'⟩:∃e',P.underlying t=some (.slice e'):=by
   grind [nY]
  exact WI rfl (Lib.run_eql_slice_nil w t e' base n c 0 0 he')
 unfold ajF at h;split at h
 ·rename_i base n c;split at h
  ·rename_i ht;cases h;have r:v=_:=r;subst r;exact⟨_,rfl,key base n c ht,rfl⟩
  ·cases h
 ·split at h
  ·rename_i ht;cases h;obtain⟨base,cap,rfl,h2,_,h4,_⟩:=r;refine⟨_,rfl,key base _ cap ht.2,?_⟩;cases base with
   |none=>
    simp_all
   |some a=>rfl
  ·cases h
 ·cases h
theorem q5.take:∀{cs:List AV}{off:Nat}(k:Nat),q5 E b off cs->q5 E b off (cs.take k)
 |[],_,_,_=>by simp [q5]
 |_::_,_,0,_=>by simp [q5]
 |_::_,_,k+1,⟨h,r⟩=>by
  rw[List.take_succ_cons];exact⟨h,q5.take k r⟩
def apd{E:HI}{b sz:Nat}:∀{n:Nat}{cs ds:List AV}{off:Nat},Xb sz n cs=some ds->q5 E b off cs->q5 E b (off+n*sz) ds
 |0,cs,ds,off,h,r=>by
  grind [Xb,q5.take]
 |n+1,cs,ds,off,h,r=>by
  have:=apd (n:=n) h (r.drop sz)
  grind
def aOY (S:pW C U J a w) {e:yO} (h:nf C.P J o.op=some e) (hp:e.pre):CM C J a w o.dst ((execOp a.eval o).run C.P w) e:=by
 cases ho:o.op with
 |move x=>
  rw[ho]at h;cases h;refine CM.of_eq ?_ (mX (rd:=[]) (p:=True) (m:=pure (a.eval x)) S ⟨_,rfl,S.ev x⟩);simp [execOp,ho]
 |assign x=>
  rw[ho]at h;cases h;refine CM.of_eq ?_ (mX (rd:=[]) (p:=True) (m:=pure (a.eval x)) S ⟨_,rfl,S.ev x⟩);simp [execOp,ho]
 |pick c x y=>
  rw[ho]at h;have hc:=S.ev c;simp only[nf]at h;split at h
  ·rename_i b hb;rw[hb]at hc;simp only[rD]at hc;cases h;refine CM.of_eq ?_ (mX (rd:=[]) (p:=True) (m:=pure (bif b then a.eval x else a.eval y)) S ⟨_,rfl,?_⟩)
   ·grind [execOp,asBool]
   ·cases b
    ·exact S.ev y
    ·exact S.ev x
  ·cases h
 |alloc t=>
  rw[ho]at h;simp only[nf]at h;split at h
  ·rename_i z hz;cases h;obtain⟨v,hv,hr,DI⟩:=axN (w:=w) hz;refine ao8 (c:=v.cells) S ?_ (aCM _ _ hr) DI;simp only[execOp,ho,Instr.alloc,ai,hv,ae,newVar,newRow,run_newObj,au];rfl
  ·cases h
 |box t x=>
  rw[ho]at h;simp only[nf]at h;split at h
  ·rename_i cs hc;cases h;refine ao8 (c:=(a.eval x).cells) (t:=t) S ?_ (MM hc (S.ev x)).1 (MM hc (S.ev x)).2;simp only[execOp,ho,Instr.box,ai,ae,newVar,newRow,run_newObj,au];rfl
  ·cases h
 |build t parts=>
  rw[ho]at h;simp only[nf]at h
  grind [mX,auR,execOp]
 |buildSlice t len parts=>
  rw[ho]at h;simp only[nf]at h;split at h
  ·rename_i et sz by' ht;split at h
   ·rename_i z hz;split at h
    ·rename_i hc;split at h
     ·rename_i rows hr;cases aFU:aFG t (arT (parts.toList.map (·.2)))with
      |true=>
       grind [akx,execOp]
      |false=>
      rw[aFU]at h;cases h;obtain⟨v,c,xF,wm⟩:=al5 S ht hz hc hr;refine aA1 S (o:=.cells c et) (by grind) (v:=v) ?_ wm;simp [execOp,ho,xF]
     ·cases h
    ·cases h
   ·cases h
  ·cases h
 |load t x=>
  rw[ho]at h;have hx:=S.ev x;simp only[nf]at h;split at h
  ·rename_i g n l off ht hp';rw[hp']at hx;split at h
   ·rename_i cs hl;split at h
    ·rename_i v hv;obtain⟨u,hu,ru⟩:=auX S ht hl hv hx;obtain⟨h1,h2,h3,h4⟩:=aA5 S h ru;obtain⟨val,rd,up,nw,pre⟩:=e;simp only at h1 h2 h3 h4;subst h1 h2 h3;refine CM.of_eq ?_ (mX (rd:=rd) (p:=True) S ⟨u,hu,h4⟩);simp [execOp,ho]
    ·cases h
   ·cases h
  ·grind [mX,aFS,execOp]
  ·grind [mX,aCX,execOp]
  ·rename_i n rv ht hp';rw[hp']at hx;simp only[rD]at hx;unfold ao3 at h;split at h
   case h_2=>cases h
   rename_i b o';split at h
   ·rename_i k hk;rw[bF]at h;obtain⟨m,hm,h⟩:=h;cases h;obtain⟨hd,hkv⟩:=aFI hk hm;obtain⟨v,hc,hv,_⟩:=S.know.cell b o' hd;have:=hkv v hv;subst this;have hi:=N2 (C:=C) (w:=w) ht;refine CM.of_eq ?_ (mX (rd:=[]) (p:=True) (m:=aQ t (a.eval x)) S ⟨.int k m,?_,rfl⟩)
    ·simp [execOp,ho]
    ·rw[hx]
     have hM:auP (C.env U J.heap w) b o' [.int k m]:=⟨[.int k m],⟨_,_,rfl,rfl,rfl⟩,fun j u hj=>by
      cases j with
      |zero=>simp at hj;subst hj;exact hc
      |succ j=>simp at hj⟩
     obtain⟨u,hu,ru⟩:=adi (P:=C.P) (t:=t) hM hi.1 hi.2 (x:=.int k m) rfl;have ru:u=.int k m:=ru
     grind [aQ,aA,tC.env]
   ·cases h
  ·cases h
 |store t x y=>
  rw[ho]at h;have hx:=S.ev x;simp only[nf]at h;split at h
  ·rename_i g n l off ys ht hp' hc;rw[hp']at hx;split at h
   ·rename_i cs hl;split at h
    ·rename_i auZ;cases h;obtain⟨hr,h1⟩:=MM hc (S.ev y);obtain⟨w',xF,hS⟩:=auQ S ht hl hr h1 auZ.1 auZ.2 hx;refine⟨.skip,undef,w',U,?_,.inr ⟨rfl,rfl⟩,?_⟩
     ·simp [execOp,ho,xF]
     ·rw[agp];exact hS.put _ trivial
    ·cases h
   ·cases h
  ·rename_i g n l i m o' sz ys ht hp' hc;rw[hp']at hx;split at h
   ·rename_i VU rows hl;split at h
    ·rename_i hcc;obtain⟨rfl,hm⟩:=hcc;split at h
     ·rename_i r hr';split at h
      ·rename_i auZ;cases h;obtain⟨hr,h1⟩:=MM hc (S.ev y);obtain⟨w',xF,hS⟩:=aAZ S ht hl hm hr' hr h1 auZ.1 auZ.2 hx;refine⟨.skip,undef,w',U,?_,.inr ⟨rfl,rfl⟩,?_⟩
       ·simp [execOp,ho,xF]
       ·rw[agp];exact hS.put _ trivial
      ·cases h
     ·cases h
    ·cases h
   ·cases h
  ·cases h
 |nilCheck x=>
  rw[ho]at h;have hx:=S.ev x;simp only[nf]at h;split at h
  ·rename_i l off hp';rw[hp']at hx;cases h;obtain⟨hl,b,hb,hv⟩:=hx;refine CM.of_eq ?_ (mX (rd:=[]) (p:=True) (m:=pure (a.eval x)) S ⟨_,rfl,hl,b,hb,hv⟩);simp [execOp,ho,hv]
  ·rename_i cs hp';rw[hp']at hx;cases h;obtain⟨b,off,hv,hm⟩:=hx;refine CM.of_eq ?_ (mX (rd:=[]) (p:=True) (m:=pure (a.eval x)) S ⟨_,rfl,b,off,hv,hm⟩);simp [execOp,ho,hv]
  ·rename_i f fs cs hp';rw[hp']at hx;cases h;obtain⟨f',c',hv,r1,r2⟩:=hx;refine CM.of_eq ?_ (mX (rd:=[]) (p:=True) (m:=pure (a.eval x)) S ⟨_,rfl,f',c',hv,r1,r2⟩);simp [execOp,ho,hv]
  ·cases h
 |binOp op t x y ty=>
  rw[ho]at h;simp only[nf]at h;split at h
  ·rename_i v hv;cases h;refine CM.of_eq ?_ (mX (rd:=[]) (p:=True) S (auU (t:=t) (ox:=x) (oy:=y) (w:=w) hv (S.ev x) (S.ev y)));simp [execOp,ho]
  ·have hx:=S.ev x;have hy:=S.ev y;unfold arR at h;split at h
   ·rename_i e' he;have hq:=aFT (a:=a) (w:=w) (ox:=x) he hx;cases h;obtain⟨b,hb,hv,he2⟩:=hq;subst he2;refine CM.of_eq ?_ (mX (rd:=[]) (p:=True) (m:=(do eqGuard op t x y (a.eval x) (a.eval y);binOp op t (a.eval x) (a.eval y):Sem aPr)) S ⟨.bool b,?_,rfl⟩)
    all_goals grind [execOp]
   rename_i hnE;clear hnE;unfold adf at h;split at h
   ·rename_i cs ds h1 h2 _;cases h;rw[h1]at hx;rw[h2]at hy;obtain⟨vs,hvs,r1⟩:=hx;obtain⟨us,hus,r2⟩:=hy;refine CM.of_eq ?_ (mX (rd:=[]) (p:=azT C.P t cs ds) S ⟨.bool (eqB cs ds),(hp _ vs us w x y r1 r2).1,rfl⟩);simp [execOp,ho,hvs,hus]
   ·rename_i cs ds h1 h2 _;cases h;rw[h1]at hx;rw[h2]at hy;obtain⟨vs,hvs,r1⟩:=hx;obtain⟨us,hus,r2⟩:=hy;refine CM.of_eq ?_ (mX (rd:=[]) (p:=azT C.P t cs ds) S ⟨.bool (!eqB cs ds),(hp _ vs us w x y r1 r2).2,rfl⟩);simp [execOp,ho,hvs,hus]
   ·rename_i p q h1 h2 _;split at h
    ·rename_i ht;cases h;rw[h1]at hx;rw[h2]at hy;simp only[rD]at hx hy;refine CM.of_eq ?_ (mX (rd:=[]) (p:=True) (m:=pure (.bool (p==q))) S ⟨_,rfl,rfl⟩)
     simp_all [execOp,ar5,aIT]
    ·cases h
   ·rename_i p q h1 h2 _;split at h
    ·rename_i ht;cases h;rw[h1]at hx;rw[h2]at hy;simp only[rD]at hx hy;refine CM.of_eq ?_ (mX (rd:=[]) (p:=True) (m:=pure (.bool (!(p==q)))) S ⟨_,rfl,rfl⟩)
     simp_all [execOp,ar5,aIU]
    ·cases h
   all_goals first
    |(cases h;done)
    |skip
   ·rename_i t' z h1 h2 _;split at h
    ·rename_i ht;cases h;rw[h1]at hx;rw[h2]at hy;obtain⟨u,hx,_⟩:=hx;have hy:a.eval y=.nilIface:=hy;refine CM.of_eq ?_ (mX (rd:=[]) (p:=True) (m:=pure (.bool false)) S ⟨_,rfl,rfl⟩);simp [execOp,ho,hx,hy,(SU (w:=w) (t':=t') (u:=u) (x:=x) (y:=y) ht).1.1,(SU (w:=w) (t':=t') (u:=u) (x:=x) (y:=y) ht).2.1.1]
    ·cases h
   ·rename_i t' z h1 h2 _;split at h
    ·rename_i ht;cases h;rw[h1]at hx;rw[h2]at hy;obtain⟨u,hx,_⟩:=hx;have hy:a.eval y=.nilIface:=hy;refine CM.of_eq ?_ (mX (rd:=[]) (p:=True) (m:=pure (.bool true)) S ⟨_,rfl,rfl⟩);simp [execOp,ho,hx,hy,(SU (w:=w) (t':=t') (u:=u) (x:=x) (y:=y) ht).1.1,(SU (w:=w) (t':=t') (u:=u) (x:=x) (y:=y) ht).2.1.2]
    ·cases h
   ·rename_i h1 h2 _;split at h
    ·rename_i ht;cases h;rw[h1]at hx;rw[h2]at hy;have hx:a.eval x=.nilIface:=hx;have hy:a.eval y=.nilIface:=hy;refine CM.of_eq ?_ (mX (rd:=[]) (p:=True) (m:=pure (.bool true)) S ⟨_,rfl,rfl⟩);simp [execOp,ho,hx,hy,(SU (w:=w) (t':=t) (u:=undef) (x:=x) (y:=y) ht).1.2,(SU (w:=w) (t':=t) (u:=undef) (x:=x) (y:=y) ht).2.2.1]
    ·cases h
   ·rename_i h1 h2 _;split at h
    ·rename_i ht;cases h;rw[h1]at hx;rw[h2]at hy;have hx:a.eval x=.nilIface:=hx;have hy:a.eval y=.nilIface:=hy;refine CM.of_eq ?_ (mX (rd:=[]) (p:=True) (m:=pure (.bool false)) S ⟨_,rfl,rfl⟩);simp [execOp,ho,hx,hy,(SU (w:=w) (t':=t) (u:=undef) (x:=x) (y:=y) ht).1.2,(SU (w:=w) (t':=t) (u:=undef) (x:=x) (y:=y) ht).2.2.2]
    ·cases h
   ·rename_i h1 h2 _;split at h
    ·rename_i ht;cases h;rw[h1]at hx;rw[h2]at hy;obtain⟨f',c',hx,_⟩:=hx;have hy:a.eval y=.nilFunc:=hy;refine CM.of_eq ?_ (mX (rd:=[]) (p:=True) (m:=(do eqGuard .neq t x y (a.eval x) (a.eval y);binOp .neq t (a.eval x) (a.eval y):Sem aPr)) S ⟨.bool true,?_,rfl⟩)
     ·simp [execOp,ho]
     ·rw[hx,hy];exact(auY ht).1
    ·cases h
   ·rename_i h1 h2 _;split at h
    ·rename_i ht;cases h;rw[h1]at hx;rw[h2]at hy;have hx:a.eval x=.nilFunc:=hx;have hy:a.eval y=.nilFunc:=hy;refine CM.of_eq ?_ (mX (rd:=[]) (p:=True) (m:=(do eqGuard .neq t x y (a.eval x) (a.eval y);binOp .neq t (a.eval x) (a.eval y):Sem aPr)) S ⟨.bool false,?_,rfl⟩)
     ·simp [execOp,ho]
     ·rw[hx,hy];exact(auY (f:=.func 0) (a:= #[]) (c:= #[]) ht).2
    ·cases h
 |unOp op t x=>
  rw[ho]at h;have hx:=S.ev x;simp only[nf]at h;split at h
  ·rename_i b hb;rw[hb]at hx;simp only[rD]at hx;cases h;refine CM.of_eq ?_ (mX (rd:=[]) (p:=True) (m:=pure (.bool !b)) S ⟨_,rfl,rfl⟩);simp [execOp,ho,hx,Op.unary]
  ·rename_i k n hb;rw[hb]at hx;simp only[rD]at hx;cases h;refine CM.of_eq ?_ (mX (rd:=[]) (p:=True) (m:=pure (.int k (k.wrap (0-n)))) S ⟨_,rfl,rfl⟩);simp [execOp,ho,hx,Op.unary,Op.intArith]
  ·rename_i k n hb;rw[hb]at hx;simp only[rD]at hx;cases h;refine CM.of_eq ?_ (mX (rd:=[]) (p:=True) (m:=Op.intBits .xor k (if k.signed then-1 else k.max) n) S ⟨_,rfl,rfl⟩);simp [execOp,ho,hx,Op.unary]
  ·cases h
 |convert s d x=>
  rw[ho]at h;have hx:=S.ev x;simp only[nf]at h;split at h
  ·rename_i v hv;rw[hv]at hx;simp only[rD]at hx;split at h
   ·rename_i hc;simp only[aW]at hc;cases h;refine CM.of_eq ?_ (mX (rd:=[]) (p:=True) (m:=pure (.string v)) S ⟨_,rfl,rfl⟩)
    simp_all [execOp,convert,run_underlying,ah7]
   ·cases h
  ·rename_i k n hv;rw[hv]at hx;simp only[rD]at hx;split at h
   ·rename_i k1 k2 h1 h2;cases h;refine CM.of_eq ?_ (mX (rd:=[]) (p:=True) (m:=pure (.int k2 (k2.wrap n))) S ⟨_,rfl,rfl⟩)
    simp_all [execOp,convert,run_underlying,ata,Conv.intToInt]
   ·rename_i k1 h1 h2;split at h
    ·rename_i hs;cases h;refine CM.of_eq ?_ (mX (rd:=[]) (p:=True) (m:=pure (.string (Utf8.encode n))) S ⟨_,rfl,rfl⟩)
     simp_all [execOp,convert,run_underlying,ata,ah7,Conv.intToString]
    ·cases h
   ·cases h
  ·rename_i tt z k n hv;rw[hv]at hx;split at h
   ·rename_i e sz bytes ht;split at h
    ·rename_i hc;obtain⟨rfl,rfl,he,hd⟩:=hc;cases h;refine CM.of_eq ?_ (mX (rd:=[]) (p:=True) (m:=convert s d (a.eval x)) S ⟨_,axU rfl ht he hd hx,rfl⟩);simp [execOp,ho]
    ·cases h
   ·cases h
  ·cases h
 |makeInterface t x=>
  rw[ho]at h;simp only[nf]at h;split at h
  ·rename_i hc;cases h;refine CM.of_eq ?_ (mX (rd:=[]) (p:=True) (m:=pure (.iface t (a.eval x))) S ⟨_,rfl,_,rfl,S.ev x⟩);unfold pY at hc;cases hu:C.P.underlying t with
   |none=>simp [hu]at hc
   |some d=>
    simp only[hu]at hc;cases d<;>simp_all [execOp,Instr.makeInterface,run_underlying hu]
  ·cases h
 |makeFunc fn f c=>
  rw[ho]at h;cases h;refine CM.of_eq ?_ (mX (rd:=[]) (p:=True) (m:=Instr.makeFunc fn (f.map a.eval) (c.map a.eval)) S ⟨_,rfl,_,_,rfl,?_,?_⟩)
  all_goals simp_all [execOp,SS]
 |makeSlice t x y=>
  rw[ho]at h;have hx:=S.ev x;have hy:=S.ev y;simp only[nf]at h
  grind [rD,anL,execOp]
 |slice t x lo hi mx=>
  rw[ho]at h;have hx:=S.ev x;simp only[nf]at h
  have hex:(execOp a.eval o).run C.P w=(do pure (.value (<-aX t (a.eval x) (lo.map a.eval) (hi.map a.eval) (mx.map a.eval))):Sem Next).run C.P w:=by
   simp [execOp,ho]
  refine CM.of_eq hex ?_;split at h
  ·rename_i et sz by' ht;split at h
   ·cases h
   ·rename_i hmx;have aNa:(mx.isSome&&hi.isNone)=false:=(Bool.not_eq_true _).mp hmx;unfold aks at h;split at h
    ·grind [mX,arZ]
    ·rename_i k n hv;rw[hv]at hx;split at h
     ·rename_i VU rows hl;split at h
      ·rename_i l hh m h1 h2 h3;split at h
       ·rename_i hc;obtain⟨rfl,hn,hc⟩:=hc;cases h;have hvv:=SA S hl hn hx;have:=arZ (tt:=false) S ht h1 h2 h3 (.inl rfl) hc aNa (agn S hl)
        grind [mX]
       ·cases h
      ·cases h
     ·cases h
    ·cases h
  ·split at h
   ·rename_i s ht hv;rw[hv]at hx;simp only[rD]at hx;split at h
    ·rename_i l hh h1 h2;split at h
     ·rename_i hc;cases h;exact mX S ⟨_,by grind [aA0],rfl⟩
     ·cases h
    ·cases h
   ·cases h
 |fieldAddr t x i=>
  rw[ho]at h;have hx:=S.ev x;simp only[nf]at h
  grind [execOp,mX,anJ]
 |field t x i=>
  rw[ho]at h;have hx:=S.ev x;simp only[nf]at h;split at h
  ·rename_i f u cs hf hv;rw[hv]at hx;split at h
   ·rename_i g n ht;split at h
    ·rename_i v hl;cases h;obtain⟨vs,hvs,rl⟩:=hx;obtain⟨fs,fd,j,hu,hfi,hj,_,rfl,rfl⟩:=azV hf;have hi:=N2 (C:=C) (w:=w) ht;refine CM.of_eq ?_ (mX (rd:=[]) (p:=True) S (axR hi.1 hi.2 rl hl))
     simp_all [execOp,Instr.field,run_underlying,asAgg]
    ·cases h
   ·cases h
  ·cases h
 |indexAddr t x i=>
  rw[ho]at h;have hx:=S.ev x;have hi:=S.ev i;simp only[nf]at h
  have hex:(execOp a.eval o).run C.P w=(do pure (.value (<-aN t (a.eval x) (a.eval i))):Sem Next).run C.P w:=by
   simp [execOp,ho]
  refine CM.of_eq hex ?_;split at h
  ·rename_i et sz by' ht;split at h
   ·rename_i tt VU rows k n hv hn;rw[hv]at hx;rw[hn]at hi;simp only[rD]at hi;split at h
    ·rename_i hc;obtain⟨rfl,hc⟩:=hc;split at h
     ·rename_i r hr;cases h;have:=aiY (k:=k) ht hc hr hx
      grind [mX]
     ·cases h
    ·cases h
   ·rename_i l m k n hv hn;rw[hv]at hx;rw[hn]at hi;simp only[rD]at hi;split at h
    ·rename_i VU rows hl;split at h
     ·rename_i hc;obtain⟨rfl,hc,hm⟩:=hc;split at h
      ·rename_i r hr;cases h;have:=aq0 (k:=k) S ht hc hl hm hr hx
       grind [mX]
      ·cases h
     ·cases h
    ·rename_i VU rows hl;split at h
     ·rename_i hc;obtain⟨rfl,hc,hm,q9⟩:=hc;cases h;obtain⟨hu,ti,hti,rfl,rfl⟩:=Ph ht;have hv':=SA S hl hm hx;obtain⟨base,cap,hh,h2,h3,h4,h5⟩:=S.qJ l _ hl;have hsz:(sizeOf et).run C.P w=.ok ti.size w:=by simp [sizeOf,typeInfo,hti]
      cases base with
      |none=>have:=h3 rfl;omega
      |some b=>
       obtain⟨hsp,_⟩:=h5 b rfl (by omega);have hb:b=⟨b.block,b.off,none⟩:=by cases b;simp_all
       refine mX S ⟨.pointer (some ⟨b.block,b.off+n.toNat*ti.size,none⟩),?_,hx.1,⟨_,rfl⟩,?_⟩
       ·rw[hi,hv',hh];have aIS:0<=n/\n<(rows.length:Int):=⟨hc,by omega⟩;simp only[aN,asIntOf,ai,au,ae,run_underlying hu,aIS,and_self,kW,hsz];rw[hb,DC]
       ·intro k' RV;simp only[tC.env,hl,oO,ah]at RV;refine⟨by omega,fun _=>⟨b.block,b.off,rows.length,cap,?_,rfl⟩⟩
        grind [tC.env]
     ·cases h
    ·cases h
   ·cases h
  ·split at h
   ·rename_i len sz ht;split at h
    ·rename_i l off k n hv hn;rw[hv]at hx;rw[hn]at hi;simp only[rD]at hi;split at h
     ·rename_i hc;cases h;unfold aqU at ht;split at ht
      ·rename_i n' e hu;split at ht
       ·rename_i ti hti;simp only[ah,bf]at ht;obtain⟨rfl,rfl⟩:=ht;obtain⟨hl,b,hb,hv'⟩:=hx;have hsz:(sizeOf e).run C.P w=.ok ti.size w:=by simp [sizeOf,typeInfo,hti]
        refine mX S ⟨.pointer (some ⟨b,off+n.toNat*ti.size,none⟩),?_,hl,b,hb,rfl⟩;rw[hi,hv'];simp only[aN,asIntOf,ai,au,ae,run_underlying hu,aA,hc,and_self,kW,hsz];rw[DC]
       ·cases ht
      ·cases ht
     ·cases h
    ·rename_i cs k n hv hn;rw[hv]at hx;rw[hn]at hi;simp only[rD]at hi;split at h
     ·rename_i hc;rw[bF]at h;obtain⟨ds,hd,he⟩:=h;obtain rfl:=cc he;unfold aqU at ht;split at ht
      ·rename_i n' e hu;split at ht
       ·rename_i ti hti;simp only[ah,bf]at ht;obtain⟨rfl,rfl⟩:=ht;obtain⟨b,off,hv',rm⟩:=hx;have hsz:(sizeOf e).run C.P w=.ok ti.size w:=by simp [sizeOf,typeInfo,hti]
        refine mX S ⟨.pointer (some ⟨b,off+n.toNat*ti.size,none⟩),?_,b,_,rfl,apd hd rm⟩;rw[hi,hv'];simp only[aN,asIntOf,ai,au,ae,run_underlying hu,aA,hc,and_self,kW,hsz];rw[DC]
       ·cases ht
      ·cases ht
     ·cases h
    ·rename_i b off k n hv hn;rw[hv]at hx;rw[hn]at hi;simp only[rD]at hi hx;split at h
     ·rename_i hc;cases h;unfold aqU at ht;split at ht
      ·rename_i n' e hu;split at ht
       ·rename_i ti hti;simp only[ah,bf]at ht;obtain⟨rfl,rfl⟩:=ht;have hsz:(sizeOf e).run C.P w=.ok ti.size w:=by simp [sizeOf,typeInfo,hti]
        refine mX S ⟨.pointer (some ⟨b,off+n.toNat*ti.size,none⟩),?_,rfl⟩;rw[hi,hx];simp only[aN,asIntOf,ai,au,ae,run_underlying hu,aA,hc,and_self,kW,hsz];rw[DC]
       ·cases ht
      ·cases ht
     ·cases h
    ·cases h
   ·cases h
 |index t x i=>
  rw[ho]at h;have hx:=S.ev x;have hi:=S.ev i;simp only[nf]at h;split at h
  ·rename_i s k n ht hv hn;rw[hv]at hx;rw[hn]at hi;simp only[rD]at hi hx;split at h
   ·rename_i hc;split at h
    ·rename_i b hb;cases h;refine CM.of_eq ?_ (mX (rd:=[]) (p:=True) (m:=pure (.int .u8 b.toNat)) S ⟨_,rfl,rfl⟩)
     simp_all [execOp,bI,asIntOf,run_underlying,ah7]
    ·cases h
   ·cases h
  ·rename_i cs k n ht hv hn;rw[hv]at hx;rw[hn]at hi;split at h
   ·rename_i len ms h1 h2;split at h
    ·rename_i hc;split at h
     ·rename_i m hm;cases h;refine CM.of_eq ?_ (mX (rd:=[]) (p:=True) (m:=bI t (a.eval x) (a.eval i)) S ⟨_,aA4 h1 h2 hc.1 hc.2 hm hx hi,rfl⟩);simp [execOp,ho]
     ·cases h
    ·cases h
   ·cases h
  ·cases h
 |extract x i=>
  rw[ho]at h;have hx:=S.ev x;simp only[nf]at h;split at h
  ·rename_i vs hv;rw[hv]at hx;split at h
   ·rename_i v hi;cases h;obtain⟨us,hu,rl⟩:=hx;obtain⟨u,hu',ru⟩:=rl.get hi;refine CM.of_eq ?_ (mX (rd:=[]) (p:=True) (m:=pure u) S ⟨_,rfl,ru⟩)
    grind [execOp,Instr.extract]
   ·cases h
  ·cases h
 |call c=>
  obtain⟨cl,args,ts⟩:=c;cases cl with
  |builtin b=>
   rw[ho]at h;exact aq2 S ho h hp
  |value f=>rw[ho]at h;cases h
  |invoke r m=>rw[ho]at h;cases h
 |makeMap t r=>
  rw[ho]at h;cases r with
  |some r=>cases h
  |none=>
   cases h;have S':=S.aFQ;refine⟨.value (.map (some w.heap.size)),.map (some w.heap.size),World.more w (.map #[] 0),(fun l=>if l=J.heap.length then .map (some w.heap.size)else U l),?_,.inl rfl,?_⟩
   ·simp_all [execOp,Instr.makeMap,World.more]
   ·rw[al7];refine S'.put _ ⟨by simp [tC.env],by simp [tC.env],w.heap.size,by simp [tC.env,hdl]⟩
 |typeAssert x u t ok=>
  rw[ho]at h;cases ok with
  |false=>cases h
  |true=>
   have hx:=S.ev x;simp only[nf]at h;unfold as6 at h;split at h
   ·rename_i t' z EC;split at h
    ·rename_i hc;obtain⟨rfl,hc⟩:=hc;cases h;rw[EC]at hx;obtain⟨q,hq,hr⟩:=hx;refine CM.of_eq ?_ (mX (rd:=[]) (p:=True) (m:=pure (.tuple #[q,.bool true])) S ⟨_,rfl,_,rfl,_,_,rfl,hr,_,_,rfl,rfl,rfl⟩);unfold pY at hc;cases hu:C.P.underlying t' with
     |none=>simp [hu]at hc
     |some d=>
      simp only[hu]at hc;cases d<;>simp_all [execOp,Instr.typeAssert,run_underlying hu]
    ·cases h
   ·cases h
 |lookup t x k ok=>
  rw[ho]at h;cases ok with
  |true=>
   have hx:=S.ev x;have hk:=S.ev k;simp only[nf]at h;split at h
   ·rename_i z l s ht EC RV;rw[EC]at hx;rw[RV]at hk;have hk:a.eval k=.string s:=hk;unfold al3 at h;split at h
    ·rename_i es hl;split at h
     ·rename_i hs;cases h;obtain⟨u,b,xF,wm⟩:=apb (s:=s) S ht hl hs hx;have hv:arU z l (C3 s es)={val:=(arU z l (C3 s es)).val,rd:=[l]}:=by cases C3 s es<;>rfl
      grind [mX,execOp]
     ·cases h
    ·cases h
   ·rename_i l n ht EC RV;rw[EC]at hx;rw[RV]at hk;have hk:a.eval k=.int .i64 n:=hk;split at h
    ·rename_i hti;unfold akt at h;split at h
     ·rename_i es hl;simp only[aJ]at h;obtain⟨ms,hm,rfl⟩:=h;rw[ah8 hm]at hl;obtain⟨u,xF,wm⟩:=anM (n:=n) S hti hl hx
      grind [mX,execOp]
     ·cases h
    ·cases h
   ·cases h
  |false=>
   have hx:=S.ev x;have hk:=S.ev k;simp only[nf]at h;split at h
   ·rename_i z l s ht EC RV;rw[EC]at hx;rw[RV]at hk;have hk:a.eval k=.string s:=hk;unfold ah5 at h;split at h
    ·rename_i es hl;split at h
     ·rename_i hs;cases h;obtain⟨u,xF,wm⟩:=ate (s:=s) S ht hl hs hx
      grind [mX,execOp]
     ·cases h
    ·cases h
   ·cases h
 |range t x=>
  rw[ho]at h;have hx:=S.ev x;simp only[nf]at h;split at h
  ·rename_i s ht hv;rw[hv]at hx;simp only[rD]at hx;cases h;have S':=S.aCZ s;refine⟨.value (.pointer (some ⟨w.heap.size,0,none⟩)),.pointer (some ⟨w.heap.size,0,none⟩),World.more w (.stringIter s 0),(fun l=>if l=J.heap.length then .pointer (some ⟨w.heap.size,0,none⟩)else U l),?_,.inl rfl,?_⟩
   ·simp [execOp,ho,hx,Instr.range,run_underlying (ah7 ht),newObj,Sem.run,World.more,av]
   ·rw[al7];refine S'.put _ ⟨by simp [tC.env],w.heap.size,by simp [tC.env],rfl⟩
  ·cases h
 |next x st=>
  rw[ho]at h;cases st with
  |false=>cases h
  |true=>
   have hx:=S.ev x;simp only[nf]at h;split at h
   ·rename_i l hv;rw[hv]at hx;obtain⟨u,w',xF,wm,hS,hn⟩:=axT (ty:=o.type) S h hx;refine⟨.value u,u,w',U,?_,.inl rfl,?_⟩
    ·simp [execOp,ho,xF]
    ·have:=hS.put o.dst wm;cases hd:o.dst<;>simpa [k9.app,k9.put,hn,hd] using this
   ·cases h
 |mapUpdate t x k y=>
  rw[ho]at h;have hx:=S.ev x;have hk:=S.ev k;simp only[nf]at h;split at h
  ·rename_i z l s ht EC RV;rw[EC]at hx;rw[RV]at hk;have hk:a.eval k=.string s:=hk;unfold GG at h;split at h
   ·rename_i es hl;split at h
    ·rename_i hs;cases h;obtain⟨w',xF,hS⟩:=aeS (s:=s) S ht hl hs hx (S.ev y);refine⟨.skip,undef,w',U,?_,.inr ⟨rfl,rfl⟩,?_⟩
     ·simp [execOp,ho,hk,xF]
     ·rw[agp];exact hS.put _ trivial
    ·cases h
   ·cases h
  ·rename_i l n ht EC RV;rw[EC]at hx;rw[RV]at hk;have hk:a.eval k=.int .i64 n:=hk;have hy:=S.ev y;split at h
   ·rename_i m hy';rw[hy']at hy;have hy:a.eval y=.int .i64 m:=hy;split at h
    ·rename_i hti;unfold adh at h;split at h
     ·rename_i es hl;simp only[aJ]at h;obtain⟨ms,hm,rfl⟩:=h;rw[ah8 hm]at hl;obtain⟨w',xF,hS⟩:=abq (n:=n) (m:=m) S hti hl hx;refine⟨.skip,undef,w',U,?_,.inr ⟨rfl,rfl⟩,?_⟩
      ·simp [execOp,ho,hk,hy,xF]
      ·rw[agp];exact hS.put _ trivial
     ·cases h
    ·cases h
   ·cases h
  ·cases h
 |insert t x k y=>
  rw[ho]at h;have hx:=S.ev x;have hk:=S.ev k;simp only[nf]at h;split at h
  ·rename_i z l s ht EC RV;rw[EC]at hx;rw[RV]at hk;have hk:a.eval k=.string s:=hk;unfold GG at h;split at h
   ·rename_i es hl;split at h
    ·rename_i hs;cases h;obtain⟨w',xF,hS⟩:=aeS (s:=s) S ht hl hs hx (S.ev y);refine⟨.skip,undef,w',U,?_,.inr ⟨rfl,rfl⟩,?_⟩
     ·simp [execOp,ho,hk,xF]
     ·rw[agp];exact hS.put _ trivial
    ·cases h
   ·cases h
  ·rename_i l n ht EC RV;rw[EC]at hx;rw[RV]at hk;have hk:a.eval k=.int .i64 n:=hk;have hy:=S.ev y;split at h
   ·rename_i m hy';rw[hy']at hy;have hy:a.eval y=.int .i64 m:=hy;split at h
    ·rename_i hti;unfold adh at h;split at h
     ·rename_i es hl;simp only[aJ]at h;obtain⟨ms,hm,rfl⟩:=h;rw[ah8 hm]at hl;obtain⟨w',xF,hS⟩:=abq (n:=n) (m:=m) S hti hl hx;refine⟨.skip,undef,w',U,?_,.inr ⟨rfl,rfl⟩,?_⟩
      ·simp [execOp,ho,hk,hy,xF]
      ·rw[agp];exact hS.put _ trivial
     ·cases h
    ·cases h
   ·cases h
  ·cases h
 |_=>rw[ho]at h;cases h
end sound
inductive qK where
 |normal
 |exit (id:Nat)
 |goto (l:Nat)
 |ret
 |panic (x:AV)
inductive yJ where
 |ret (r:AV)
 |panic (x:AV)
def yJ.rep(E:HI):yJ->Ending->Prop
 |.ret r,.returned v=>rD E r v
 |.panic x,.panicked chain=>∃v,chain=[{v,recovered:=false}]/\rD E x v
 |_,_=>False
def Bs(P:aPu)(f:aPt):Bool:=
 match P.funcs[f]? with
 |some fn=>fn.body.isSome&&fn.name != "runtime.NumGoroutine"
 |none=>false
def ER(P:aPu)(f:aPt)(args:List AV)(J:k9)(K:yJ->List lw->Prop):Prop:=
 Bs P f=true/\∀(C:tC)(U:Nat->aPr)(a:Act)(w:aPs),C.P=P->pW C U J a w->∀vs:Array aPr,l9 (C.env U J.heap w) args vs.toList->
  Calls P f vs w fun e w'=>∃o U' H',K o H'/\pW C U' {J with heap:=H'} a w'/\o.rep (C.env U' H' w') e
def N4(J J':k9):Prop:=∀(C:tC)(U:Nat->aPr)(a:Act)(w:aPs),pW C U J a w->∃U',pW C U' J' a w
theorem N4.refl(J:k9):N4 J J:=fun _ U _ _ S=>⟨U,S⟩
def N4.trans {J' σ'':k9}(h:N4 J J')(h':N4 J' σ''):N4 J σ'':=fun C U a w S=>
 let ⟨U',S'⟩:=h C U a w S
 h' C U' a w S'
def pZ(J:k9):Op->Option (aPt×List AV)
 | .call {callee:= .value f,args,..}=>match J.ev f with
   |.func (.func fid) first cap=>some (fid,first++args.toList.map J.ev++cap)
   |_=>none
 |_=>none
def Gf(J:k9):Op->Option (Nat×List AV)
 | .call {callee:= .value f,args,..}=>match J.ev f with
   |.map l=>some (l,args.toList.map J.ev)
   |_=>none
 |_=>none
def LZ(J:k9):Op->Option (aPt×List AV)
 | .defer {callee:= .value f,args,..}=>match J.ev f with
   |.func (.func fid) first cap=>some (fid,first++args.toList.map J.ev++cap)
   |_=>none
 |_=>none
def abr(J:k9):Op->Option AV
 | .panic x=>match J.ev x with
   |.iface t y=>some (.iface t y)
   |_=>none
 |_=>none
def k9.dfr(J:k9)(p:aPt×List AV)(dst:Option Tmp):k9:={J with df:=p::J.df}.put dst (.uS undef)
def KS(ro:Option Nat):Fence:={Fence.wide with round:=ro}
def N5{args:Array aPr}{w:aPs}:CallsIn (KS ro) n P f args w R↔Calls P f args w R:=by
 rw[<-callsIn_wide (n:=n)];exact Iff.rfl
def au0{tmps:Array aPr}{aPp body:Code}{w:aPs}:RoundIn (KS ro) n P l f tmps aPp body w R↔RoundIn Fence.wide n P l f tmps aPp body w R:=Iff.rfl
def Xc(P:aPu)(h:aPr)(w:aPs)(vs:Array aPr)(R:Ending->aPs->Prop):Prop:=
 ∀ (D:Nat) (rec:Loop),h= .func (.yield (D+1)) #[] #[]->w.heap[D+1]? =some (.loop rec)->
   RoundIn Fence.wide 0 P (D+1) rec.fn ((rec.params.zip vs).foldl (fun tmps (t,a)=>tmps.setIfInBounds t a) rec.tmps) rec.assign rec.body w R
def RY(P:aPu)(l:Nat)(args:List AV)(J:k9)(K:yJ->List lw->Prop):Prop:=
 (∃k lE st xE,J.heap[l]? =some (.loop k lE st xE)/\args.length=k.ps.size)/\∀(C:tC)(U:Nat->aPr)(a:Act)(w:aPs),C.P=P->pW C U J a w->∀vs:Array aPr,l9 (C.env U J.heap w) args vs.toList->
   Xc P (U l) w vs fun e w'=>∃o U' H',K o H'/\pW C U' {J with heap:=H'} a w'/\o.rep (C.env U' H' w') e
def tH(lR:Array Oper)(o:Oper)(J:k9):Option Bool:=
 match o.guard with
 |none=>some true
 |some (j,want)=>match (lR[j]?).bind (·.dst)with
  |some d=>match J.lE[d]? with
   |some (.bool b)=>some (b==want)
   |some (.uS (.tuple _))=>some false
   |_=>none
  |none=>none
def Z7 (P:aPu) (lR:Array Oper):List Oper->(qK->k9->Prop)->k9->Prop
 |[],Q,J=>Q .normal J
 |o::rest,Q,J=>match tH lR o J with
  |none=>False
  |some b=>(b=true->match pZ J o.op with
    |some (f,args)=>ER P f args J fun o' H'=>match o' with
     |.ret r=>Z7 P lR rest Q (k9.put {J with heap:=H'} o.dst r)
     |.panic x=>Q (.panic x) {J with heap:=H'}
    |none=>match Gf J o.op with
     |some (l,args)=>RY P l args J fun o' H'=>match o' with
      |.ret r=>Z7 P lR rest Q (k9.put {J with heap:=H'} o.dst r)
      |.panic _=>False
     |none=>match nf P J o.op with
      |some e=>e.pre/\Z7 P lR rest Q (J.app o.dst e)
      |none=>match LZ J o.op with
       |some p=>Z7 P lR rest Q (J.dfr p o.dst)
       |none=>match abr J o.op with
        |some x=>Q (.panic x) J
        |none=>False)/\
   (b=false->Z7 P lR rest Q (J.put o.dst (.uS undef)))
def QC(C:tC)(Q:qK->k9->Prop):Exit->Act->aPs->Prop
 |.normal,a,w=>∃U J,pW C U J a w/\Q .normal J
 |.exit id,a,w=>∃U J,pW C U J a w/\Q (.exit id) J
 |.goto l,a,w=>∃U J,pW C U J a w/\Q (.goto l) J
 |.ret,a,w=>∃U J,pW C U J a w/\Q .ret J
 |.panic chain,a,w=>∃U J x v,pW C U J a w/\Q (.panic x) J/\chain=[{v,recovered:=false}]/\rD (C.env U J.heap w) x v
 |.outgrown,_,_=>False
section sound
variable {a:Act} {w:aPs}
theorem Dy(S:pW C U J a w){lR:Array Oper}{b:Bool}(h:tH lR o J=some b):Region.wanted o (yielded lR a.tmps)=b:=by
 unfold tH at h;unfold Region.wanted;split at h
 ·rename_i hg;rw[hg];simpa using h
 ·rename_i j want hg;rw[hg];split at h
  ·rename_i d hd
   have hy:yielded lR a.tmps j=match a.tmps[d]? with|some (.bool b)=>some b|_=>none:=by
    unfold yielded;rw[hd];rfl
   split at h
   ·rename_i b' hs;obtain⟨v,hv,r⟩:=S.lE.get hs
    simp_all [rD]
   ·rename_i vs hs;obtain⟨v,hv,r⟩:=S.lE.get hs
    grind [rD]
   ·cases h
  ·cases h
def Pk(S:pW C U J a w)(h:pZ J o.op=some (f,args))(hf:Bs C.P f=true):
 ∃vs:Array aPr,(execOp a.eval o).run C.P w=.ok (.enter f vs) w/\l9 (C.env U J.heap w) args vs.toList:=by
 unfold pZ at h;split at h
 ·rename_i x xs ts ho;split at h
  ·rename_i fid first cap hv
   cases h;have hx:=S.ev x;rw[hv]at hx;obtain⟨f',c',hx,r1,r2⟩:=hx;refine⟨f'++xs.map a.eval++c',?_,?_⟩
   ·unfold Bs at hf;split at hf
    ·rename_i fn hfn;simp only[aW,bne_iff_ne,ne_eq]at hf;have ar2:fn.body≠none:=by intro hb;simp [hb]at hf
     simp [execOp,ho,resolve,hx,Deferred.ofValue,invoke,callFunc,hfn,hf.2,ar2]
    ·cases hf
   ·simp only[bY,bE];exact(r1.append (SS S xs.toList)).append r2
  ·cases h
 ·cases h
theorem SV{o:Op}{q:aPt×List AV}(h:pZ J o=some q):∀c,o≠ .defer c:=by
 rintro c rfl;simp [pZ]at h
theorem axV{o:Op}{q:Nat×List AV}(h:Gf J o=some q):∀c,o≠ .defer c:=by
 rintro c rfl;simp [Gf]at h
theorem au1{o:Op}{e:yO}(h:nf P J o=some e):∀c,o≠ .defer c:=by
 rintro c rfl;simp [nf]at h
def au2(S:pW C U J a w){D:Nat}{rec:Loop}(h:Gf J o.op=some (l,args))(hφ:U l=.func (.yield (D+1)) #[] #[])(hw:w.heap[D+1]? =some (.loop rec))(hn:args.length=rec.params.size):
 ∃vs:Array aPr,(execOp a.eval o).run C.P w=.ok (.round (D+1) rec.fn ((rec.params.zip vs).foldl (fun tmps (t,a)=>tmps.setIfInBounds t a) rec.tmps) rec.assign rec.body) w/\l9 (C.env U J.heap w) args vs.toList:=by
 unfold Gf at h;split at h
 ·rename_i x xs ts ho;split at h
  ·rename_i l' hv;cases h;have hx:=S.ev x;rw[hv]at hx;obtain⟨_,hx,_⟩:=hx;have EC:a.eval x=.func (.yield (D+1)) #[] #[]:=hx.trans hφ;refine⟨xs.map a.eval,?_,?_⟩
   all_goals grind [run_yield,execOp,resolve,Deferred.ofValue,invoke,bE,SS]
  ·cases h
 ·cases h
theorem aC1{o:Op}{q:AV}(h:abr J o=some q):∀c,o≠ .defer c:=by
 rintro c rfl;simp [abr]at h
def azX:Op->Bool
 |.defer _=>true
 |_=>false
def au3(S:pW C U J a w){p:aPt×List AV}(h:LZ J o.op=some p):
 ∃d:Deferred,(execOp a.eval o).run C.P w=.ok (.defer d) w/\akq d=false/\∃cap,d.target=.fn (.func p.1) cap/\l9 (C.env U J.heap w) p.2 (d.args++cap).toList:=by
 unfold LZ at h;split at h
 ·rename_i x xs ts ho;split at h
  ·rename_i fid first cap hv
   cases h;have hx:=S.ev x;rw[hv]at hx;obtain⟨f',c',hx,r1,r2⟩:=hx;refine⟨{target:=.fn (.func fid) c',args:=f'++xs.map a.eval},?_,rfl,c',rfl,?_⟩
   ·simp [execOp,ho,resolve,hx,Deferred.ofValue]
   ·simp only[bY,bE];exact(r1.append (SS S xs.toList)).append r2
  ·cases h
 ·cases h
def aA6(S:pW C U J a w)(h:abr J o.op=some x):∃v,(execOp a.eval o).run C.P w=.halt (.panic v) w/\rD (C.env U J.heap w) x v:=by
 unfold abr at h;split at h
 ·rename_i y ho;split at h
  ·rename_i t z hv;cases h;have hx:=S.ev y;rw[hv]at hx;obtain⟨u,hu,r⟩:=hx;refine⟨.iface t u,?_,u,rfl,r⟩;simp [execOp,ho,hu,Instr.panic]
  ·cases h
 ·cases h
def pW.dfr(S:pW C U J a w){p:aPt×List AV}{d:Deferred}{cap:Array aPr}(hm:akq d=false)(hd:d.target=.fn (.func p.1) cap)(hr:l9 (C.env U J.heap w) p.2 (d.args++cap).toList):
 pW C U (J.dfr p dst) ({a with defers:=d::a.defers}.put dst undef) w:=by
 have S1:pW C U {J with df:=p::J.df} {a with defers:=d::a.defers} w:=by
  refine {S with lE:=S.lE,defers:=⟨?_,?_,?_⟩}
  ·simp only[List.filter_cons,hm,aK,if_false];exact S.defers.1
  ·intro d' hd' hm';rcases be.1 hd' with rfl|hd'
   ·rw[hm]at hm';cases hm'
   ·exact S.defers.2.1 d' hd' hm'
  ·simp only[List.filter_cons,hm,bM,kW];exact⟨d,_,cap,rfl,hd,hr,S.defers.2.2⟩
 exact S1.put dst rfl
def aky {ro:Option Nat} {P:aPu} (hP:C.P=P) {lR:Array Oper} {Q:qK->k9->Prop}: ∀ (rest:List Oper) (k:Nat),(ro=none\/rest.all (fun o=> !azX o.op)=true)->lR.toList.drop k=rest-> ∀ (U:Nat->aPr) (J:k9) (a:Act) (w:aPs),
 Z7 P lR rest Q J->pW C U J a w->wpOpsIn (KS ro) 0 P lR (QC C Q) (List.range' k rest.length) a w
 |[],k,_,_,U,J,a,w,h,S=>⟨U,J,S,h⟩
 |o::rest,k,hro,hk,U,J,a,w,h,S=>by
  have ho:lR[k]? =some o:=by
   have:=congrArg (fun l:List Oper=>l[0]?) hk;simpa using this
  have xn:lR.toList.drop (k+1)=rest:=by
   grind [bJ]
  have ih:=aky (ro:=ro) hP (Q:=Q) rest (k+1) (hro.imp id fun h=>by grind) xn;simp only[aI,List.range'_succ,wpOpsIn,ho];simp only[Z7]at h;split at h
  ·exact h.elim
  ·rename_i b hb;rw[Dy S hb];cases b with
   |false=>
    simp only[aK,if_false];exact⟨fun _ _=>trivial,ih U _ _ w (h.2 rfl) (S.put o.dst rfl)⟩
   |true=>
    simp only[kW];have h:=h.1 rfl;split at h
    ·rename_i f args hc;obtain⟨he,BB⟩:=h;subst hP;obtain⟨vs,xF,hr⟩:=Pk S hc he;refine⟨fun _ _=>trivial,?_⟩;rw[Oper.semAt_eq _ _ _ (SV hc),xF,Oper.uponIn_enter];refine⟨fun h=>by simp [KS,Fence.wide]at h,N5.2 ?_⟩;refine(BB C U a w rfl S vs hr).mono fun e w' ⟨o',U',H',hK,S',wm⟩=>?_
     cases o' with
     |ret r=>
      cases e with
      |returned v=>exact ih U' _ _ w' hK (S'.put o.dst wm)
      |panicked chain=>exact wm.elim
      |outgrown=>exact wm.elim
     |panic x=>
      cases e with
      |returned v=>exact wm.elim
      |panicked chain=>
       obtain⟨v,hc,hr⟩:=wm;exact⟨U',_,x,v,S',hK,hc,hr⟩
      |outgrown=>exact wm.elim
    ·split at h
     ·rename_i l args hy;obtain⟨⟨k,lE,st,xE,hl,hn⟩,BB⟩:=h;subst hP;obtain⟨D,rec,hφ,hw1,hw2,aft,rl⟩:=S.qJ l _ hl;obtain⟨vs,xF,hr⟩:=au2 S hy hφ hw1 (by rw[aft.1];exact hn);refine⟨fun _ _=>trivial,?_⟩;rw[Oper.semAt_eq _ _ _ (axV hy),xF,Oper.uponIn_round];refine⟨fun h=>by simp [KS,Fence.wide]at h,au0.2 ?_⟩;refine(BB C U a w rfl S vs hr D rec hφ hw1).mono fun e w' ⟨o',U',H',hK,S',wm⟩=>?_
      cases o' with
      |ret r=>
       cases e with
       |returned v=>exact ih U' _ _ w' hK (S'.put o.dst wm)
       |panicked chain=>exact wm.elim
       |outgrown=>exact wm.elim
      |panic x=>exact hK.elim
     ·split at h
      ·rename_i e he;obtain⟨n,v,w',U',hr,hn,S'⟩:=aOY S (hP ▸ he) h.1;refine⟨fun _ _=>trivial,?_⟩
       grind [Oper.semAt_eq,au1,Oper.uponIn_value,Oper.uponIn_skip]
      ·split at h
       ·rename_i p hd;obtain⟨d,xF,hm,cap,aNb,hr⟩:=au3 S hd
        have aNc:ro=none:=by
         rcases hro with hro|hro
         ·exact hro
         ·rw[List.all_cons,aW]at hro;unfold LZ at hd;split at hd
          ·rename_i ho';rw[ho']at hro;cases hro.1
          ·cases hd
        subst aNc;refine⟨fun _ _=>trivial,?_⟩;have aNd:Oper.semAt (KS none).round a.eval o=execOp a.eval o:=Oper.semAt_none _ _;rw[aNd,<-hP,xF,Oper.uponIn_defer,hP];exact ih U _ _ w h (S.dfr hm aNb hr)
       ·split at h
        ·rename_i x hx;obtain⟨v,xF,hr⟩:=aA6 S hx;refine⟨fun _ _=>trivial,?_⟩;rw[<-hP,Oper.semAt_eq _ _ _ (aC1 hx),xF,Oper.uponIn_panic];exact⟨U,J,x,v,S,h,rfl,hr⟩
        ·exact h.elim
end sound
end Go.Abs
