/- A part of the proof: abstract states and the rules for them. -/
import Derived.KernelRfl
import Derived.Calls
import Derived.Orders
import Derived.Laws.Sem
import Derived.Laws.CopyRow
import Derived.Laws.Cells
import Derived.Laws.Small
import Derived.RangeFuncRecord
import Derived.MapKept
import Derived.Lib.SliceRun
import Derived.Scope
import Derived.Deep.LoopGhost
import Derived.OrdersIn
set_option linter.all false
open Go renaming Operand→aMt,Value→aMu,World→aMv,FuncId→aMw,Oper→aMx,Program→aMy,TypeId→aMz
open Go.Op renaming operands→aa,bytesLess→bY
open Go.Result renaming andThen_ok→ae,andThen→aA
open List renaming eq_nil_of_length_eq_zero→af,replicate→ak,getElem?_eq_some_iff→aw,flatten_cons→aC,mem_append→aF,mem_cons→aG,map_congr_left→aK,getElem?_cons_zero→aL,append_assoc→aP,drop_drop→aQ,getD_eq_getElem?_getD→aV,getElem?_append_left→aW,drop_take→aY,length_cons→a8,take_left'→bb,drop_left'→bc,getElem?_set_ne→be,drop_append_of_le_length→bi,flatten_append→bl,tail_drop→bn,map_cons→bq,getElem?_append_right→br,all_eq_true→bz,length_take→bA,getElem?_eq_getElem→bD,getElem?_cons_succ→bE,getElem?_set_self→bH,drop_of_length_le→bI,take_take→bJ,getElem?_toArray→bK,length_replicate→bN,mem_cons_of_mem→bO,mem_of_getElem?→bP,range→bQ,take_add→bT,replicate_succ→bV
open Nat renaming lt_of_lt_of_le→ah,le_refl→ar,mul_le_mul_right→au,add_mul→ax,le_trans→bw,not_lt_zero→bF,add_assoc→bR,le_of_eq→bX,sub_self→b7,one_mul→b8
open Go.Sem renaming run_bind→ai,run_pure→aq
open Option.some renaming injEq→aj
open Go.Builtin renaming firstCells→am,append_→an,nextslicecap→bf,zeroCells→bt,len_→bB,growBy→bM,lenOf→bS
open Go.Instr renaming sureAddr→av,sliceBound→ay,sliceBounds→aD,indexAt→aH,buildSlice→aI,loadAt→aJ,fieldAt→aN,sliceAt→aS,findNow→aU,lookup→aX,makeSlice→bg,storeAt→bp,mapUpdate→bG,sameNow→bU
open Bool renaming false_eq_true→az,and_eq_true→aR,or_eq_true→bh,not_false→bL
open List.cons renaming injEq→aB
open Prod.mk renaming injEq→aE
open Option renaming bind_eq_some_iff→aM,isSome_none→bZ
open Go.Oper renaming semAt_eq→aO,uponIn_enter→bu
open Array renaming getElem?_eq_some_iff→aT,length_toList→bj,range→bo,toList_map→bC,toList_append→bW
open Go.Fence renaming wide→aZ
namespace Go.Abs
variable {a:Act}{parts:Array (Nat×aMt)}{c us:Array aMu}{g tt:Bool}{s:ByteArray}{R:Ending->aMv->Prop}{f:aMw}{k:IntKind}{ds:List Deferred}{b i j l n off:Nat}{U U':Nat->aMu}{o or':aMx}{ox:aMt}{base:Option Addr}{ro:Option Nat}{hi lo:Option aMt}{dst:Option Tmp}{P:aMy}{p:Prop}{W O:Type}{d:TypeDesc}{t ty:aMz}{h h' u v:aMu}{w w':aMv}
theorem jK {W:Sort _} (a b:W):cond true a b=a:=rfl
theorem jL {W:Sort _} (a b:W):cond false a b=b:=rfl
theorem jM [Decidable p] (h:p):decide p=true:=decide_eq_true h
theorem jN [Decidable p] (h:¬p):decide p=false:=decide_eq_false h
def jO [Decidable p] (h:decide p=true):p:=of_decide_eq_true h
theorem jP [Decidable p]:(decide p=true)=p:=decide_eq_true_eq
def jQ {W:Sort _} {_:Decidable True} (t e:W):(if True then t else e)=t:=if_true t e
def jR {W:Sort _} {a b:W} (h:a=b:=by kernel_rfl):a=b:=h
def alE(o:Nat):Int:=if o=32\/(9<=o/\o<=13)then 1 else 0
def aAv(o:Nat):Option Int:=if o<256 then some (alE o)else none
def aDf(b o:Nat):Prop:=(b=1/\o=0)\/(b=0/\o<256)
def aDg(b o:Nat)(v:aMu):Prop:=(b=1->∃m,v=.int .i64 m)/\(b=0->v=.int .u8 (alE o))
def aGl(t k:Nat):Bool:=bif t==26 then(bif k==5 then false else true)else bif t==27 then(bif k==5 then false else true)else bif t==78 then(bif k==98 then false else bif k==24 then false else bif k==11 then false else bif k==34 then false else bif k==25 then false else true)else true
def aDh(t k:Nat):Bool:=bif t==78 then(bif k==24 then true else bif k==11 then true else bif k==34 then true else bif k==25 then true else false)else bif t==27 then(bif k==46 then true else bif k==9 then true else false)else bif t==25 then(bif k==100 then true else false)else false
def aDi(b:Nat):Option IntKind:=if b=0 then some .u8 else none
def axG(b o:Nat):Option Int:=if b=0 then aAv o else none
def aDj {o:Nat}{n:Int}(h:aDi b=some k)(h2:axG b o=some n):aDf b o/\∀v,aDg b o v->v=.int k n:=by
 unfold aDi at h;split at h
 ·rename_i hb;cases h;unfold axG at h2;rw[if_pos hb]at h2;unfold aAv at h2;split at h2
  ·rename_i ho;cases h2;exact⟨.inr ⟨hb,ho⟩,fun v hv=>hv.2 hb⟩
  ·cases h2
 ·cases h
def ar2(w:aMv)(M:Nat->Nat->Prop):Prop:=∀b o,aDf b o->∃v,w.cell? ⟨b,o,none⟩=some v/\aDg b o v/\ ¬ M b o
inductive AV where
 |any
 |bool (b:Bool)
 |int (k:IntKind) (n:Int)
 |str (s:ByteArray)
 |uE (v:aMu)
 |agg (cs:List AV)
 |Je (cs:List AV)
 |lS (tight:Bool) (sz:Nat) (rows:List (List AV))
 |mE (l n:Nat)
 |own (l off len cap sz:Nat)
 |ptr (l off:Nat)
 |map (l:Nat)
 |pp (cs:List AV)
 |func (fn:Fn) (first captured:List AV)
 |iface (t:aMz) (x:AV)
variable {x y:AV}{es:List (AV×AV)}{df:List (aMw×List AV)}{rows ys:List (List AV)}{args cs r z:List AV}
instance:Inhabited AV:=⟨.any⟩
structure D4 where
 w:aMv
 mu:Nat->Nat->Prop
 U:Nat->aMu
 ln:Nat->Option Nat
 n:Nat
variable {E E':D4}
def hdl:aMu->Option Nat
 |.map r=>r
 |.func (.yield r) _ _=>some r
 |_=>none
mutual
def pO(E:D4):AV->aMu->Prop
 |.any,_=>True
 |.bool b,v=>v=.bool b
 |.int k n,v=>v=.int k n
 |.str s,v=>v=.string s
 |.uE u,v=>v=u
 |.agg cs,v=>∃vs:Array aMu,v=.agg vs/\kQ E cs vs.toList
 |.Je cs,v=>∃vs:Array aMu,v=.tuple vs/\kQ E cs vs.toList
 |.lS t sz rows,v=>∃base cap,v=.slice base rows.length cap/\rows.length<=cap/\(t=true->cap=rows.length)/\(base=none->cap=0)/\
     (∀a,base=some a->(rows≠[]->a.spot=none))/\(∀a,base=some a->n8 E sz a.block a.off rows)
 |.mE l n,v=>l<E.n/\(∃b m c,v=.slice b m c)/\∀k,E.ln l=some k->n<=k/\(n=k->v=E.U l)
 |.own l i n o sz,v=>l<E.n/\(∃a,v=.pointer (some a))/\∀k,E.ln l=some k->n<=k/\(n=k->∃b off m c,E.U l=.slice (some ⟨b,off,none⟩) m c/\v=.pointer (some ⟨b,off+i*sz+o,none⟩))
 |.ptr l off,v=>l<E.n/\∃b,E.U l=.pointer (some ⟨b,0,none⟩)/\v=.pointer (some ⟨b,off,none⟩)
 |.map l,v=>l<E.n/\v=E.U l/\∃r,hdl (E.U l)=some r
 |.pp cs,v=>∃b off,v=.pointer (some ⟨b,off,none⟩)/\ou E b off cs
 |.func fn f c,v=>∃f' c':Array aMu,v=.func fn f' c'/\kQ E f f'.toList/\kQ E c c'.toList
 |.iface t x,v=>∃u,v=.iface t u/\pO E x u
def kQ(E:D4):List AV->List aMu->Prop
 |[],vs=>vs=[]
 |c::cs,vs=>∃u us,vs=u::us/\pO E c u/\kQ E cs us
def ou(E:D4)(b off:Nat):List AV->Prop
 |[]=>True
 |c::cs=>(¬ E.mu b off/\∃u,E.w.cell? ⟨b,off,none⟩=some u/\u.oneCell'=true/\pO E c u)/\ou E b (off+1) cs
def n8(E:D4)(sz b off:Nat):List (List AV)->Prop
 |[]=>True
 |r::rs=>r.length=sz/\ou E b off r/\n8 E sz b (off+sz) rs
end
structure D4.Le(N:Nat)(E E':D4):Prop where
 n:N<=E'.n
 oe:∀l,l<N->(E'.U l=E.U l/\(E'.ln l=E.ln l\/E'.ln l=none))\/
  ((∃k,E.ln l=some k/\∀k',E'.ln l=some k'->k<k')/\(∀a,E.U l≠ .pointer a)/\hdl (E.U l)=none)
 mem:∀b o u,¬ E.mu b o->E.w.cell? ⟨b,o,none⟩=some u-> ¬ E'.mu b o/\E'.w.cell? ⟨b,o,none⟩=some u
mutual
def AV.nb(N:Nat):AV->Prop
 |.agg cs|.Je cs|.pp cs=>xB N cs
 |.lS _ _ rows=>Qv N rows
 |.mE l _|.own l _ _ _ _|.ptr l _|.map l=>l<N
 |.func _ f c=>xB N f/\xB N c
 |.iface _ x=>x.nb N
 |.any|.bool _|.int _ _|.str _|.uE _=>True
def xB(N:Nat):List AV->Prop
 |[]=>True
 |c::cs=>c.nb N/\xB N cs
def Qv(N:Nat):List (List AV)->Prop
 |[]=>True
 |r::rs=>xB N r/\Qv N rs
end
section
variable {N:Nat}
mutual
def pO.mono(h:E.Le N E'):∀(x:AV)(v:aMu),x.nb N->pO E x v->pO E' x v
 |.any,_,_,_=>trivial
 |.bool _,_,_,r=>r
 |.int _ _,_,_,r=>r
 |.str _,_,_,r=>r
 |.uE _,_,_,r=>r
 |.agg cs,_,hb,⟨vs,hv,hr⟩=>⟨vs,hv,kQ.mono h cs _ hb hr⟩
 |.Je cs,_,hb,⟨vs,hv,hr⟩=>⟨vs,hv,kQ.mono h cs _ hb hr⟩
 |.lS _ _ rows,_,hb,⟨base,cap,h1,h2,h3,h4,h5,h6⟩=>⟨base,cap,h1,h2,h3,h4,h5,fun a ha=>n8.mono h rows _ hb (h6 a ha)⟩
 | .mE l n,v,hb,⟨_,hsl,r⟩=>by
   refine⟨ah hb h.n,hsl,fun k' OZ=>?_⟩;rcases h.oe l hb with⟨hφ,hl|hl⟩|⟨⟨k,hk,me⟩,_⟩
   ·rw[hl]at OZ;rw[hφ];exact r k' OZ
   ·rw[hl]at OZ;cases OZ
   ·have:=me k' OZ;have:=r k hk;exact⟨by omega,fun e=>by omega⟩
 | .own l i n o sz,v,hb,⟨_,hsl,r⟩=>by
   refine⟨ah hb h.n,hsl,fun k' OZ=>?_⟩;rcases h.oe l hb with⟨hφ,hl|hl⟩|⟨⟨k,hk,me⟩,_⟩
   ·rw[hl]at OZ;rw[hφ];exact r k' OZ
   ·rw[hl]at OZ;cases OZ
   ·have:=me k' OZ;have:=r k hk;exact⟨by omega,fun e=>by omega⟩
 | .ptr l off,v,hb,⟨_,b,hφ,hv⟩=>by
   refine⟨ah hb h.n,b,?_,hv⟩;rcases h.oe l hb with⟨h1,_⟩|⟨_,h2,_⟩
   ·rw[h1];exact hφ
   ·exact absurd hφ (h2 _)
 | .map l,v,hb,⟨_,hv,r,hφ⟩=>by
   refine⟨ah hb h.n,?_,r,?_⟩
   all_goals rcases h.oe l hb with⟨h1,_⟩|⟨_,_,h2⟩
   ·rw[h1];exact hv
   ·rw[h2]at hφ;cases hφ
   ·rw[h1];exact hφ
   ·rw[h2]at hφ;cases hφ
 |.pp cs,_,hb,⟨b,off,hv,r⟩=>⟨b,off,hv,ou.mono h cs _ hb r⟩
 |.func _ f c,_,hb,⟨f',c',hv,r1,r2⟩=>⟨f',c',hv,kQ.mono h f _ hb.1 r1,kQ.mono h c _ hb.2 r2⟩
 |.iface _ x,_,hb,⟨u,hv,r⟩=>⟨u,hv,pO.mono h x _ hb r⟩
def kQ.mono(h:E.Le N E'):∀(cs:List AV)(vs:List aMu),xB N cs->kQ E cs vs->kQ E' cs vs
 |[],_,_,r=>r
 |c::cs,_,hb,⟨u,us,hv,r1,r2⟩=>⟨u,us,hv,pO.mono h c _ hb.1 r1,kQ.mono h cs _ hb.2 r2⟩
def ou.mono(h:E.Le N E'){b:Nat}:∀(cs:List AV)(off:Nat),xB N cs->ou E b off cs->ou E' b off cs
 |[],_,_,_=>trivial
 |c::cs,off,hb,⟨⟨hm,u,hu,h1,r1⟩,r2⟩=>
  let ⟨m,c'⟩:=h.mem b off u hm hu
  ⟨⟨m,u,c',h1,pO.mono h c _ hb.1 r1⟩,ou.mono h cs _ hb.2 r2⟩
def n8.mono(h:E.Le N E'){sz b:Nat}:∀(rs:List (List AV))(off:Nat),Qv N rs->n8 E sz b off rs->n8 E' sz b off rs
 |[],_,_,_=>trivial
 |r::rs,off,hb,⟨hl,r1,r2⟩=>⟨hl,ou.mono h r _ hb.1 r1,n8.mono h rs _ hb.2 r2⟩
end
mutual
theorem pO.nb:∀(x:AV)(v:aMu),pO E x v->x.nb E.n
 |.any,_,_|.bool _,_,_|.int _ _,_,_|.str _,_,_|.uE _,_,_=>trivial
 |.agg cs,_,⟨_,_,hr⟩=>kQ.nb cs _ hr
 |.Je cs,_,⟨_,_,hr⟩=>kQ.nb cs _ hr
 | .lS _ _ rows,_,⟨base,cap,h1,h2,h3,h4,h5,h6⟩=>by
   cases base with
   |none=>
    have:rows.length=0:=by have:=h4 rfl;omega
    have:rows=[]:=af this;subst this;trivial
   |some a=>exact n8.nb rows _ (h6 a rfl)
 |.mE _ _,_,⟨h,_⟩=>h
 |.own _ _ _ _ _,_,⟨h,_⟩=>h
 |.ptr _ _,_,⟨h,_⟩=>h
 |.map _,_,⟨h,_⟩=>h
 |.pp cs,_,⟨_,_,_,r⟩=>ou.nb cs _ r
 |.func _ f c,_,⟨_,_,_,r1,r2⟩=>⟨kQ.nb f _ r1,kQ.nb c _ r2⟩
 |.iface _ x,_,⟨_,_,r⟩=>pO.nb x _ r
theorem kQ.nb:∀(cs:List AV)(vs:List aMu),kQ E cs vs->xB E.n cs
 |[],_,_=>trivial
 |c::cs,_,⟨_,_,_,r1,r2⟩=>⟨pO.nb c _ r1,kQ.nb cs _ r2⟩
theorem ou.nb{b:Nat}:∀(cs:List AV)(off:Nat),ou E b off cs->xB E.n cs
 |[],_,_=>trivial
 |c::cs,_,⟨⟨_,_,_,_,r1⟩,r2⟩=>⟨pO.nb c _ r1,ou.nb cs _ r2⟩
theorem n8.nb{sz b:Nat}:∀(rs:List (List AV))(off:Nat),n8 E sz b off rs->Qv E.n rs
 |[],_,_=>trivial
 |r::rs,_,⟨_,r1,r2⟩=>⟨ou.nb r _ r1,n8.nb rs _ r2⟩
end
mutual
def AV.ajO{M:Nat}(h:N<=M):∀x:AV,x.nb N->x.nb M
 |.any,_|.bool _,_|.int _ _,_|.str _,_|.uE _,_=>trivial
 |.agg cs,r=>tB h cs r
 |.Je cs,r=>tB h cs r
 |.pp cs,r=>tB h cs r
 |.lS _ _ rows,r=>aqa h rows r
 |.mE _ _,r=>ah r h
 |.own _ _ _ _ _,r=>ah r h
 |.ptr _ _,r=>ah r h
 |.map _,r=>ah r h
 |.func _ f c,r=>⟨tB h f r.1,tB h c r.2⟩
 |.iface _ x,r=>AV.ajO h x r
def tB{M:Nat}(h:N<=M):∀cs:List AV,xB N cs->xB M cs
 |[],_=>trivial
 |c::cs,r=>⟨AV.ajO h c r.1,tB h cs r.2⟩
def aqa{M:Nat}(h:N<=M):∀rs:List (List AV),Qv N rs->Qv M rs
 |[],_=>trivial
 |r::rs,q=>⟨tB h r q.1,aqa h rs q.2⟩
end
end
section lists

theorem kQ.length:∀{cs:List AV}{vs:List aMu},kQ E cs vs->vs.length=cs.length
 |[],_,rfl=>rfl
 |_::_,_,⟨_,_,rfl,_,r2⟩=>by simp [kQ.length r2]
def kQ.get:∀{cs:List AV}{vs:List aMu}{i:Nat}{c:AV},kQ E cs vs->cs[i]? =some c->∃v,vs[i]? =some v/\pO E c v
 |c::cs,_,0,_,⟨u,us,rfl,r1,r2⟩,h=>by
  simp at h;subst h;exact⟨u,by simp,r1⟩
 |c::cs,_,i+1,_,⟨u,us,rfl,r1,r2⟩,h=>by
  simp at h;obtain⟨v,hv,r⟩:=kQ.get r2 h;exact⟨v,by simpa using hv,r⟩
theorem kQ.set:∀{cs:List AV}{vs:List aMu}{i:Nat}{c:AV}{v:aMu},kQ E cs vs->pO E c v->kQ E (cs.set i c) (vs.set i v)
 |[],_,_,_,_,rfl,_=>rfl
 |_::_,_,0,_,v,⟨_,us,rfl,_,r2⟩,r=>⟨v,us,rfl,r,r2⟩
 |_::_,_,i+1,_,v,⟨u,us,rfl,r1,r2⟩,r=>⟨u,us.set i v,rfl,r1,kQ.set r2 r⟩
theorem kQ.append:∀{cs ds:List AV}{vs us:List aMu},kQ E cs vs->kQ E ds us->kQ E (cs++ds) (vs++us)
 |[],_,_,_,rfl,r=>r
 |_::_,_,_,_,⟨u,us,rfl,r1,r2⟩,r=>⟨u,us++_,rfl,r1,kQ.append r2 r⟩
theorem kQ.take:∀{cs:List AV}{vs:List aMu}(k:Nat),kQ E cs vs->kQ E (cs.take k) (vs.take k)
 |[],_,_,rfl=>by simp [kQ]
 |_::_,_,0,_=>by simp [kQ]
 |_::_,_,k+1,⟨u,us,rfl,r1,r2⟩=>⟨u,us.take k,by simp,r1,kQ.take k r2⟩
theorem kQ.drop:∀{cs:List AV}{vs:List aMu}(k:Nat),kQ E cs vs->kQ E (cs.drop k) (vs.drop k)
 |[],_,_,rfl=>by simp [kQ]
 |_::_,_,0,h=>by simpa using h
 |_::_,_,k+1,⟨u,us,rfl,r1,r2⟩=>by simpa using kQ.drop k r2
def kQ.Er:∀(vs:List aMu),kQ E (ak vs.length .any) vs
 |[]=>rfl
 |v::vs=>⟨v,vs,rfl,trivial,kQ.Er vs⟩
theorem ou.drop:∀{cs:List AV}{off:Nat}(k:Nat),ou E b off cs->ou E b (off+k) (cs.drop k)
 |[],_,_,_=>by simp [ou]
 |_::_,_,0,h=>by simpa using h
 |_::_,off,k+1,⟨_,r⟩=>by
  have:=ou.drop k r
  grind
def n8.get {sz:Nat}:∀{rs:List (List AV)}{off i:Nat}{r:List AV},n8 E sz b off rs->rs[i]? =some r->
 r.length=sz/\ou E b (off+i*sz) r
 |_::_,off,0,_,⟨hl,m,_⟩,h=>by grind
 |_::_,off,i+1,_,⟨_,_,r⟩,h=>by
  simp at h;obtain⟨h1,h2⟩:=n8.get r h
  grind
theorem n8.drop {sz:Nat}:∀{rs:List (List AV)}{off:Nat}(k:Nat),k<=rs.length->n8 E sz b off rs->n8 E sz b (off+k*sz) (rs.drop k)
 |[],_,_,_,_=>by simp [n8]
 |_::_,_,0,_,h=>by simpa using h
 |_::_,off,k+1,hk,⟨_,_,r⟩=>by
  have:=n8.drop k (by simpa using hk) r
  grind
theorem n8.take {sz:Nat}:∀{rs:List (List AV)}{off:Nat}(k:Nat),n8 E sz b off rs->n8 E sz b off (rs.take k)
 |[],_,_,_=>by simp [n8]
 |_::_,_,0,_=>by simp [n8]
 |_::_,_,k+1,⟨h1,h2,r⟩=>⟨h1,h2,n8.take k r⟩
theorem ou.append:∀{cs ds:List AV}{off:Nat},ou E b off cs->ou E b (off+cs.length) ds->ou E b off (cs++ds)
 |[],_,_,_,h=>by simpa using h
 |c::cs,_,off,⟨h1,h3⟩,h=>by
  refine⟨h1,ou.append h3 ?_⟩
  grind
end lists
structure yo where
 ps:Array Tmp
 assign:Code
 body:Code
 js:List (Int×Code)
def axH:List (Int×Code)->Int->Option Code
 |[],_=>none
 |(k,c)::cs,j=>match cs with
  |[]=>some c
  |_::_=>bif j==k then some c else axH cs j
def qW(js:List (Int×Code))(j:Int):Option Code:=bif j==0 then none else axH js j
inductive kp where
 |cells (cs:List AV)
 |mE (vA:Bool) (sz:Nat) (rows:List (List AV))
 |map (es:List (AV×AV))
 |loop (k:yo) (kr:List AV) (st:LoopState) (uK:Int)
 |iter (s:ByteArray) (pos:Nat)
 |sU
variable {H H':List kp}
structure jX where
 kr:List AV
 heap:List kp
 low:Nat:=0
 df:List (aMw×List AV):=[]
variable {J J':jX}
def XF:aMu->AV
 |.int k n=>.int k n
 |.bool b=>.bool b
 |.string s=>.str s
 |.slice none 0 0=>.lS true 0 []
 |v=>.uE v
def jX.ev(J:jX):aMt->AV
 |.tmp t=>J.kr.getD t .any
 |.const v=>XF v
 |.global g=>.uE (.pointer (some ⟨g,0,none⟩))
 |.func f=>.func (.func f) [] []
def jX.put(J:jX)(dst:Option Tmp)(x:AV):jX:=
 match dst with
 |some d=>{J with kr:=J.kr.set d x}
 |none=>J
def kp.Ff:kp->aMu->Nat->Nat->Prop
 |.cells _,.pointer (some a),b,_=>b=a.block
 |.mE vA sz _,.slice (some a) n cap,b,o=>(b=a.block/\cap≠0)/\(vA=true->a.off+n*sz<=o)
 |.map _,.map (some r),b,_=>b=r
 |.loop _ _ _ _,.func (.yield r) _ _,b,_=>b=r\/b+1=r
 |.iter _ _,.pointer (some a),b,_=>b=a.block
 |_,_,_,_=>False
def kp.block:kp->aMu->Nat->Prop
 |.cells _,.pointer (some a),b=>b=a.block
 |.mE _ _ _,.slice (some a) _ cap,b=>b=a.block/\cap≠0
 |.map _,.map (some r),b=>b=r
 |.loop _ _ _ _,.func (.yield r) _ _,b=>b=r\/b+1=r
 |.iter _ _,.pointer (some a),b=>b=a.block
 |_,_,_=>False
theorem kp.sw{x:kp}{o:Nat}(m:x.Ff h b o):x.block h b:=by
 unfold kp.Ff at m;grind [kp.block]
def Sx(U:Nat->aMu)(H:List kp)(b o:Nat):Prop:=∃(l:Nat)(x:kp),H[l]? =some x/\x.Ff (U l) b o
def nO:Option kp->Option Nat
 |some (.mE _ _ rows)=>some rows.length
 |_=>none
structure tg where
 P:aMy
 w0:aMv
 M0:Nat->Nat->Prop
 A:Nat->Nat->Prop
 hA:∀b o,A b o->b<w0.heap.size
 hk:ar2 w0 M0
 N0:Nat:=0
 U0:Nat->aMu:=fun _=>.tuple #[]
 ln0:Nat->Option Nat:=fun _=>none
variable {C:tg}
def tg.env(C:tg)(U:Nat->aMu)(H:List kp)(w:aMv):D4:=
 {w,mu:=fun b o=>Sx U H b o\/C.A b o,U,ln:=fun l=>nO H[l]?,n:=H.length}
def sN(E:D4):List (AV×AV)->List MapEntry->Prop
 |[],es=>es=[]
 |(k,v)::r,es=>∃e s,es=e::s/\pO E k e.key/\pO E v e.val/\sN E r s
def rz(E:D4):kp->aMu->Prop
 |.cells cs,h=>∃b c t,h=.pointer (some ⟨b,0,none⟩)/\E.w.heap[b]? =some (.cells c t (0,0))/\kQ E cs c.toList/\∀u∈c.toList,u.oneCell'=true
 |.mE _ sz rows,h=>∃base cap,h=.slice base rows.length cap/\rows.length<=cap/\(base=none->cap=0)/\(∀r∈rows,r.length=sz)/\
     ∀a,base=some a->cap≠0->a.spot=none/\∃c t,E.w.heap[a.block]? =some (.cells c t (0,0))/\a.off+cap*sz<=c.size/\
      kQ E rows.flatten ((c.toList.drop a.off).take (rows.length*sz))/\∀u∈(c.toList.drop a.off).take (rows.length*sz),u.oneCell'=true
 |.map es,h=>∃r entries clock,h=.map (some r)/\E.w.heap[r]? =some (.map entries clock)/\sN E es entries.toList
 |.loop k kr st uK,h=>∃D rec,h=.func (.yield (D+1)) #[] #[]/\E.w.heap[D+1]? =some (.loop rec)/\E.w.heap[D]? =some (.deferred (some []))/\
     (rec.params=k.ps/\rec.assign=k.assign/\rec.body=k.body/\rec.state=st/\rec.pending=qW k.js uK/\rec.defers=D)/\kQ E kr rec.tmps.toList
 |.iter s p,h=>∃b,h=.pointer (some ⟨b,0,none⟩)/\E.w.heap[b]? =some (.stringIter s p)
 |.sU,_=>True
def aDk(C:tg)(U:Nat->aMu)(H:List kp):Prop:=∀l,l<C.N0->(U l=C.U0 l/\(nO H[l]? =C.ln0 l\/nO H[l]? =none))\/
 ((∃k,C.ln0 l=some k/\∀k',nO H[l]? =some k'->k<k')/\(∀a,C.U0 l≠ .pointer a)/\hdl (C.U0 l)=none)
def agY(d:Deferred):Bool:=match d.target with
 |.collected _=>true
 |_=>false
def NT(E:D4):List (aMw×List AV)->List Deferred->Prop
 |[],ds=>ds=[]
 |(f,xs)::r,ds=>∃d s cap,ds=d::s/\d.target=.fn (.func f) cap/\kQ E xs (d.args++cap).toList/\NT E r s
def NT.imp(h:∀(xs:List AV)(vs:List aMu),kQ E xs vs->kQ E' xs vs):∀{df:List (aMw×List AV)}{ds:List Deferred},NT E df ds->NT E' df ds
 |[],_,r=>r
 |_::_,_,⟨d,s,cap,h1,h2,h3,h4⟩=>⟨d,s,cap,h1,h2,h _ _ h3,NT.imp h h4⟩
def NT.mono(h:E.Le E.n E')(r:NT E df ds):NT E' df ds:=
 r.imp fun _ _ r=>kQ.mono h _ _ (kQ.nb _ _ r) r
theorem NT.nb:∀{df:List (aMw×List AV)}{ds:List Deferred},NT E df ds->∀p∈df,xB E.n p.2
 |[],_,_,_,h=>by cases h
 |q::r,_,⟨_,_,_,_,_,h3,h4⟩,p,hp=>by
  rcases aG.1 hp with rfl|hp
  ·exact kQ.nb _ _ h3
  ·exact NT.nb h4 p hp
def xj(C:tg)(U:Nat->aMu)(H:List kp)(w:aMv)(df:List (aMw×List AV))(ds:List Deferred):Prop:=
 (ds.filter agY).Nodup/\(∀d∈ds,agY d=true->∃D,d=⟨.collected D,#[]⟩/\w.heap[D]? =some (.deferred (some []))/\C.w0.heap.size<=D/\∀(l:Nat)(x:kp),H[l]? =some x-> ¬ x.block (U l) D)/\
   NT (C.env U H w) df (ds.filter fun d=> !agY d)
theorem xj.nil:xj C U H w [] []:=⟨List.nodup_nil,fun _ h _=>(by cases h),rfl⟩
def xj.axI(h:xj C U H w df ds)
 (hr:∀(xs:List AV)(vs:List aMu),(∃f,(f,xs)∈df)->kQ (C.env U H w) xs vs->kQ (C.env U' H' w') xs vs)
 (Jf:∀b,b<w.heap.size->(∀(l:Nat)(x:kp),H[l]? =some x-> ¬ x.block (U l) b)->w'.heap[b]? =w.heap[b]?)
 (VR:∀(l:Nat)(x:kp)(b:Nat),H'[l]? =some x->x.block (U' l) b->(∃(k:Nat)(y:kp),H[k]? =some y/\y.block (U k) b)\/w.heap.size<=b):xj C U' H' w' df ds:=by
 refine⟨h.1,fun d hd hm=>?_,?_⟩
 ·obtain⟨D,h1,h2,h3,h4⟩:=h.2.1 d hd hm
  grind
 ·have key:∀(df':List (aMw×List AV))(ds':List Deferred),(∀p∈df',p∈df)->NT (C.env U H w) df' ds'->NT (C.env U' H' w') df' ds':=by
   intro df';induction df' with
   |nil=>intro _ _ r;exact r
   |cons p r ih=>
    intro ds' hp ⟨d,s,cap,h1,h2,h3,h4⟩;exact⟨d,s,cap,h1,h2,hr _ _ ⟨p.1,hp p (List.mem_cons_self ..)⟩ h3,ih _ (fun q hq=>hp q (bO _ hq)) h4⟩
  exact key df _ (fun _ h=>h) h.2.2
theorem xj.step(h:xj C U H w df ds)(le:(C.env U H w).Le H.length (C.env U' H' w'))
 (Jf:∀b,b<w.heap.size->(∀(l:Nat)(x:kp),H[l]? =some x-> ¬ x.block (U l) b)->w'.heap[b]? =w.heap[b]?)
 (VR:∀(l:Nat)(x:kp)(b:Nat),H'[l]? =some x->x.block (U' l) b->(∃(k:Nat)(y:kp),H[k]? =some y/\y.block (U k) b)\/w.heap.size<=b):xj C U' H' w' df ds:=
 h.axI (fun xs vs _ r=>kQ.mono le _ _ (kQ.nb _ _ r) r) Jf VR
def xj.P8(h:xj C U H w df ds)(le:(C.env U H w).Le H.length (C.env U H w'))(Jf:∀b,b<w.heap.size->w'.heap[b]? =w.heap[b]?):xj C U H w' df ds:=
 h.step le (fun b hb _=>Jf b hb) (fun l x b hx hb=>.inl ⟨l,x,hx,hb⟩)
structure nr(C:tg)(U:Nat->aMu)(J:jX)(a:Act)(w:aMv):Prop where
 kr:kQ (C.env U J.heap w) J.kr a.tmps.toList
 defers:xj C U J.heap w J.df a.defers
 sF:∀(l:Nat)(x:kp),J.heap[l]? =some x->rz (C.env U J.heap w) x (U l)
 apart:∀(l l':Nat)(x x':kp)(b:Nat),J.heap[l]? =some x->J.heap[l']? =some x'->x.block (U l) b->x'.block (U l') b->l=l'
 Fj:∀(l:Nat)(x:kp)(b o:Nat),J.heap[l]? =some x->x.block (U l) b-> ¬ C.A b o
 size:C.w0.heap.size<=w.heap.size
 R3:∀b o,b<C.w0.heap.size-> ¬ C.M0 b o->w.cell? ⟨b,o,none⟩=C.w0.cell? ⟨b,o,none⟩
 tC:∀b,b<C.w0.heap.size->(∀o,¬ C.M0 b o)->w.heap[b]? =C.w0.heap[b]?
 XG:∀(l:Nat)(x:kp)(b o:Nat),J.heap[l]? =some x->x.Ff (U l) b o->b<C.w0.heap.size->C.M0 b o
 Hz:∀a,a.block<C.w0.heap.size->w.frozen? a=C.w0.frozen? a
 rest:w.output=C.w0.output/\w.os=C.w0.os
 low:C.N0=J.low/\J.low<=J.heap.length
 oe:aDk C U J.heap
section basics

def aoS(E:D4)(v:aMu):pO E (XF v) v:=by
 unfold XF;split
 ·rfl
 ·rfl
 ·rfl
 ·exact⟨none,0,rfl,ar _,fun _=>rfl,fun _=>rfl,(by intro a h;cases h),(by intro a h;cases h)⟩
 ·rfl
theorem nr.ev(S:nr C U J a w)(x:aMt):pO (C.env U J.heap w) (J.ev x) (a.eval x):=by
 cases x with
 |tmp t=>
  simp only[jX.ev,Act.eval,List.getD];cases h:J.kr[t]? with
  |none=>exact trivial
  |some c=>
   obtain⟨v,hv,r⟩:=S.kr.get h
   simp_all
 |const v=>exact aoS _ v
 |global g=>rfl
 |func f=>exact⟨#[],#[],rfl,rfl,rfl⟩
theorem nr.put(S:nr C U J a w)(dst:Option Tmp)(r:pO (C.env U J.heap w) x v):nr C U (J.put dst x) (a.put dst v) w:=by
 cases dst with
 |none=>exact S
 |some d=>
  refine {S with kr:=?_,defers:=S.defers};have:=S.kr.set (i:=d) r
  grind [jX.put,Act.put]
def tg.XH(hn:H.length<=H'.length)
 (hφ:∀l,l<H.length->U' l=U l/\nO H'[l]? =nO H[l]?)
 (aKc:∀b o u,¬ (Sx U H b o\/C.A b o)->w.cell? ⟨b,o,none⟩=some u-> ¬ (Sx U' H' b o\/C.A b o)/\w'.cell? ⟨b,o,none⟩=some u):
 (C.env U H w).Le H.length (C.env U' H' w'):=
 ⟨hn,fun l hl=>.inl ⟨(hφ l hl).1,.inl (hφ l hl).2⟩,aKc⟩
theorem Sy {o:Nat}(h:w.cell? ⟨b,o,none⟩=some u):b<w.heap.size:=by
 grind [World.cell?]
def nr.know(S:nr C U J a w):ar2 w (Sx U J.heap):=fun b o h=>by
 obtain⟨v,hc,hv,hm⟩:=C.hk b o h;have hb:=Sy hc;refine⟨v,by rw[S.R3 b o hb hm];exact hc,hv,?_⟩;rintro⟨l,x,hx,hmu⟩;exact hm (S.XG l x b o hx hmu hb)
def World.more(w:aMv)(o:Obj):aMv:={w with heap:=w.heap.push o}
@[simp] theorem adF(w:aMv)(o:Obj):(World.more w o).heap.size=w.heap.size+1:=by simp [World.more]
theorem B8(w:aMv)(o:Obj)(h:b<w.heap.size):(World.more w o).heap[b]? =w.heap[b]? :=by
 grind [World.more]
theorem Km(w:aMv)(o:Obj):(World.more w o).heap[w.heap.size]? =some o:=by
 show(w.heap.push o)[w.heap.size]? =some o;simp
theorem Nw(w:aMv)(o:Obj)(h:b<w.heap.size):(World.more w o).cell? ⟨b,i,none⟩=w.cell? ⟨b,i,none⟩:=by
 grind [World.cell?,B8]
theorem anQ(w:aMv)(c:Array aMu)(t:aMz)(i:Nat):(World.more w (.cells c t)).cell? ⟨w.heap.size,i,none⟩=c[i]? :=by
 grind [World.cell?,Km]
theorem wE(w:aMv)(o:Obj)(ho:∀c t lo hi,o=.cells c t (lo,hi)->lo=0/\hi=0)(a:Addr):(World.more w o).frozen? a=w.frozen? a:=by
 grind [World.frozen?,World.more]
def rz.B9{x:kp}(r:rz E x h)(hb:x.block h b):b<E.w.heap.size:=by
 cases x with
 |cells cs=>
  obtain⟨b',c,t,rfl,hh,_⟩:=r
  grind [kp.block]
 |mE vA sz rows=>
  obtain⟨base,cap,rfl,_,_,_,hh⟩:=r;cases base with
  |none=>simp [kp.block]at hb
  |some a0=>
   grind [kp.block]
 |map es=>
  obtain⟨r',en,cl,rfl,hh,_⟩:=r
  grind [kp.block]
 |loop k kr st uK=>
  obtain⟨D,rec,rfl,h1,h2,_⟩:=r
  grind [kp.block]
 |iter s p=>
  obtain⟨b',rfl,hh⟩:=r
  grind [kp.block]
 |sU=>simp [kp.block]at hb
def sN.mono{N:Nat}(h:E.Le N E'):∀{es:List (AV×AV)}{xs:List MapEntry},(∀p∈es,p.1.nb N/\p.2.nb N)->sN E es xs->sN E' es xs
 |[],_,_,r=>r
 |(k,v)::_,_,hb,⟨e,s,he,r1,r2,r3⟩=>
  ⟨e,s,he,pO.mono h k _ (hb (k,v) (by simp)).1 r1,pO.mono h v _ (hb (k,v) (by simp)).2 r2,sN.mono h (fun p hp=>hb p (by simp [hp])) r3⟩
theorem sN.nb:∀{es:List (AV×AV)}{xs:List MapEntry},sN E es xs->∀p∈es,p.1.nb E.n/\p.2.nb E.n
 |[],_,_=>by simp
 |(k,v)::_,_,⟨e,s,he,r1,r2,r3⟩=>by
  intro p hp;simp only[aG]at hp;rcases hp with rfl|hp
  ·exact⟨pO.nb _ _ r1,pO.nb _ _ r2⟩
  ·exact sN.nb r3 p hp
def rz.mono{x:kp}{hd:aMu}(r:rz E x hd)(h:E.Le E.n E')(hs:∀b,x.block hd b->E'.w.heap[b]? =E.w.heap[b]?):rz E' x hd:=by
 cases x with
 |cells cs=>
  obtain⟨b,c,t,rfl,hh,rl,h1⟩:=r;exact⟨b,c,t,rfl,by rw[hs b rfl,hh],kQ.mono h _ _ (kQ.nb _ _ rl) rl,h1⟩
 |mE vA sz rows=>
  obtain⟨base,cap,rfl,h1,h2,h3,hh⟩:=r;refine⟨base,cap,rfl,h1,h2,h3,fun a0 ha hc=>?_⟩;obtain⟨h4,c,t,h5,h6,rl,h1⟩:=hh a0 ha hc;subst ha;exact⟨h4,c,t,by rw[hs _ ⟨rfl,hc⟩,h5],h6,kQ.mono h _ _ (kQ.nb _ _ rl) rl,h1⟩
 |map es=>
  obtain⟨r',en,cl,rfl,hh,rp⟩:=r;exact⟨r',en,cl,rfl,by rw[hs r' rfl,hh],sN.mono h (sN.nb rp) rp⟩
 |loop k kr st uK=>
  obtain⟨D,rec,rfl,h1,h2,h3,rl⟩:=r;exact⟨D,rec,rfl,by rw[hs (D+1) (.inl rfl),h1],by rw[hs D (.inr rfl),h2],h3,kQ.mono h _ _ (kQ.nb _ _ rl) rl⟩
 |iter s p=>
  obtain⟨b,rfl,hh⟩:=r;exact⟨b,rfl,by rw[hs b rfl,hh]⟩
 |sU=>trivial
theorem nr.more(S:nr C U J a w)(o:Obj)(ho:∀c t lo hi,o=.cells c t (lo,hi)->lo=0/\hi=0):nr C U J a (World.more w o):=by
 have le:(C.env U J.heap w).Le J.heap.length (C.env U J.heap (World.more w o)):=
  tg.XH (ar _) (fun _ _=>⟨rfl,rfl⟩) (fun b i u hm hc=>⟨hm,by grind [Nw,Sy]⟩)
 refine {kr:=kQ.mono le _ _ (kQ.nb _ _ S.kr) S.kr,defers:=S.defers.P8 le (fun b hb=>B8 w o hb),sF:=?_,apart:=S.apart,Fj:=S.Fj,size:=?_,R3:=?_,tC:=?_,XG:=S.XG,Hz:=?_,rest:=S.rest,low:=S.low,oe:=S.oe}
 ·intro l x hx;have r:=S.sF l x hx;exact rz.mono r le (fun b hb=>B8 w o (r.B9 hb))
 ·have:=S.size;simp;omega
 ·intro b i hb hm;rw[Nw w o (ah hb S.size)];exact S.R3 b i hb hm
 ·intro b hb hm;rw[B8 w o (ah hb S.size)];exact S.tC b hb hm
 ·intro x hx;rw[wE w o ho];exact S.Hz x hx
def nr.drew(S:nr C U J a w)(n:Nat):nr C U J a {w with drawn:=n}:=by
 have le:(C.env U J.heap w).Le J.heap.length (C.env U J.heap {w with drawn:=n}):=
  tg.XH (ar _) (fun _ _=>⟨rfl,rfl⟩) (fun b i u hm hc=>⟨hm,hc⟩)
 exact {kr:=kQ.mono le _ _ (kQ.nb _ _ S.kr) S.kr,defers:=S.defers.P8 le (fun _ _=>rfl),sF:=fun l x hx=>rz.mono (S.sF l x hx) le (fun _ _=>rfl),apart:=S.apart,Fj:=S.Fj,size:=S.size,R3:=S.R3,tC:=S.tC,XG:=S.XG,Hz:=S.Hz,rest:=S.rest,low:=S.low,oe:=S.oe}
def nr.aDl(_S:nr C U J a w)(o:Obj):(C.env U J.heap w).Le J.heap.length (C.env U J.heap (World.more w o)):=
 tg.XH (ar _) (fun _ _=>⟨rfl,rfl⟩) (fun b i u hm hc=>⟨hm,by grind [Nw,Sy]⟩)
def ar3(S:nr C U J a w)(hb:w.heap.size<=b)(o:Nat): ¬ (Sx U J.heap b o\/C.A b o):=by
 rintro(⟨l,x,hx,hm⟩|hA)
 ·have:=(S.sF l x hx).B9 (kp.sw hm);simp only[tg.env]at this;omega
 ·have:=C.hA _ _ hA;have:=S.size;omega
def alG(S:nr C U J a w)(c:Array aMu)(t:aMz)(h1: ∀u∈c.toList,u.oneCell'=true): ∀(cs:List AV)(off:Nat),kQ (C.env U J.heap w) cs ((c.toList.drop off).take cs.length)->
 ou (C.env U J.heap (World.more w (.cells c t))) w.heap.size off cs
 |[],_,_=>trivial
 |x::cs,off,r=>by
  obtain⟨u,us,hu,r1,r2⟩:=r
  have hc:c[off]? =some u:=by
   have:(c.toList.drop off)[0]? =some u:=by
    have:=congrArg (fun l:List aMu=>l[0]?) hu;simpa using this
   simpa using this
  have htl:us=(c.toList.drop (off+1)).take cs.length:=by
   have h1:=congrArg List.tail hu;simp only[List.tail_cons]at h1;rw[<-h1];cases hd:c.toList.drop off with
   |nil=>rw[hd]at hu;simp at hu
   |cons y ys=>
    grind [bn]
  refine⟨⟨ar3 S (ar _) _,u,by grind [tg.env,anQ],h1 u (bP (by simpa using hc)),pO.mono (S.aDl _) _ _ (pO.nb _ _ r1) r1⟩,alG S c t h1 cs (off+1) (by rw[<-htl];exact r2)⟩
theorem ajP(S:nr C U J a w)(c:Array aMu)(t:aMz)(h1:∀u∈c.toList,u.oneCell'=true)(sz:Nat):∀(rs:List (List AV))(off:Nat),(∀r∈rs,r.length=sz)->kQ (C.env U J.heap w) rs.flatten ((c.toList.drop off).take (rs.length*sz))->
 n8 (C.env U J.heap (World.more w (.cells c t))) sz w.heap.size off rs
 |[],_,_,_=>trivial
 |r::rs,off,hl,h=>by
  have hr:r.length=sz:=hl r (by simp);simp only[aC]at h;have h3:=kQ.take r.length h;have h2:=kQ.drop r.length h;simp only[bb,bc,bJ,aY,aQ]at h3 h2;refine⟨hr,alG S c t h1 r off ?_,ajP S c t h1 sz rs (off+sz) (fun q hq=>hl q (by simp [hq])) ?_⟩
  all_goals grind [ax]
theorem Ny{x:kp}(hb:x.block h b):∃o,x.Ff h b o:=by
 cases x with
 |cells cs=>
  cases h with
  |pointer p=>cases p with
   |none=>exact absurd hb id
   |some a=>exact⟨0,hb⟩
  |_=>exact absurd hb id
 |mE vA sz rows=>
  cases h with
  |slice base n cap=>cases base with
   |none=>exact absurd hb id
   |some a=>exact⟨a.off+n*sz,hb,fun _=>ar _⟩
  |_=>exact absurd hb id
 |map es=>
  cases h with
  |map r=>cases r with
   |none=>exact absurd hb id
   |some a=>exact⟨0,hb⟩
  |_=>exact absurd hb id
 |loop k kr st uK=>
  cases h with
  |func q _ _=>cases q with
   |yield r=>exact⟨0,hb⟩
   |_=>exact absurd hb id
  |_=>exact absurd hb id
 |iter s p=>
  cases h with
  |pointer p=>cases p with
   |none=>exact absurd hb id
   |some a=>exact⟨0,hb⟩
  |_=>exact absurd hb id
 |sU=>exact absurd hb id
def nr.ar4(S:nr C U J a w){z:kp}
 (Sz:w.heap.size<=w'.heap.size) (Jf:∀b,b<w.heap.size->w'.heap[b]? =w.heap[b]?)
 (agZ:∀x,w'.frozen? x=w.frozen? x) (qz:w'.output=w.output/\w'.os=w.os)
 (Ko:∀b,z.block h' b->w.heap.size<=b)
 (IM:∀E',(C.env U J.heap w).Le J.heap.length E'->E'.w=w'->rz E' z h'):
 nr C (fun k=>if k=J.heap.length then h' else U k) {J with heap:=J.heap++[z]} a w'/\
 (C.env U J.heap w).Le J.heap.length (C.env (fun k=>if k=J.heap.length then h' else U k) (J.heap++[z]) w'):=by
 let U':Nat->aMu:=fun k=>if k=J.heap.length then h' else U k
 have hφ:∀l,l<J.heap.length->U' l=U l:=fun l hl=>by grind
 have hφn:U' J.heap.length=h':=by simp [U']
 have Df:∀(l:Nat)(x:kp),(J.heap++[z])[l]? =some x->(l<J.heap.length/\J.heap[l]? =some x)\/(l=J.heap.length/\x=z):=by
  grind
 have HA:∀b o,b<w.heap.size->w'.cell? ⟨b,o,none⟩=w.cell? ⟨b,o,none⟩:=by
  grind [World.cell?]
 have alH:∀b o,Sx U' (J.heap++[z]) b o->w.heap.size<=b\/Sx U J.heap b o:=by
  rintro b o ⟨l,x,hx,hm⟩;rcases Df l x hx with⟨hl,hx⟩|⟨rfl,rfl⟩
  ·rw[hφ l hl]at hm;exact .inr ⟨l,x,hx,hm⟩
  ·rw[hφn]at hm;exact .inl (Ko b (kp.sw hm))
 have VR:∀(l:Nat)(x:kp)(b:Nat),(J.heap++[z])[l]? =some x->x.block (U' l) b->(J.heap[l]? =some x/\x.block (U l) b/\b<w.heap.size/\l<J.heap.length)\/(l=J.heap.length/\w.heap.size<=b):=by
  intro l x b hx hb;rcases Df l x hx with⟨hl,hx⟩|⟨rfl,rfl⟩
  ·rw[hφ l hl]at hb;exact .inl ⟨hx,hb,(S.sF l x hx).B9 hb,hl⟩
  ·rw[hφn]at hb;exact .inr ⟨rfl,Ko b hb⟩
 have le:(C.env U J.heap w).Le J.heap.length (C.env U' (J.heap++[z]) w'):=by
  refine tg.XH (by simp) (fun l hl=>⟨hφ l hl,by rw[aW hl]⟩) (fun b i u hm hc=>?_)
  grind [Sy]
 have abg:xj C U' (J.heap++[z]) w' J.df a.defers:=by
  refine S.defers.step le (fun b hb _=>Jf b hb) (fun l x b hx hb=>?_)
  grind
 refine⟨{kr:=kQ.mono le _ _ (kQ.nb _ _ S.kr) S.kr,defers:=abg,sF:=?_,apart:=?_,Fj:=?_,size:=bw S.size Sz,R3:=?_,tC:=?_,XG:=?_,Hz:=fun x hx=>by rw[agZ];exact S.Hz x hx,rest:=⟨by rw[qz.1];exact S.rest.1,by rw[qz.2];exact S.rest.2⟩,low:=⟨S.low.1,by have:=S.low.2;simp;omega⟩,oe:=?_},le⟩
 ·intro l x hx;show rz _ x (U' l);rcases Df l x hx with⟨hl,hx⟩|⟨rfl,rfl⟩
  ·rw[hφ l hl];exact rz.mono (S.sF l x hx) le (fun b hb=>Jf b ((S.sF l x hx).B9 hb))
  ·rw[hφn];exact IM _ le rfl
 ·intro l l' x x' b hx VO hb Gs;rcases VR l x b hx hb with h|h<;>rcases VR l' x' b VO Gs with k|k
  ·exact S.apart l l' x x' b h.1 k.1 h.2.1 k.2.1
  ·have:=h.2.2.1;omega
  ·have:=k.2.2.1;omega
  ·omega
 ·intro l x b o hx hb hA;rcases VR l x b hx hb with h|h
  ·exact S.Fj l x b o h.1 h.2.1 hA
  ·have:=C.hA _ _ hA;have:=S.size;omega
 ·intro b i hb hm;rw[HA b i (ah hb S.size)];exact S.R3 b i hb hm
 ·intro b hb hm;rw[Jf b (ah hb S.size)];exact S.tC b hb hm
 ·intro l x b o hx hm hb;rcases VR l x b hx (kp.sw hm)with h|h
  ·have hm:x.Ff (U' l) b o:=hm;rw[hφ l h.2.2.2]at hm;exact S.XG l x b o h.1 hm hb
  ·have:=S.size;omega
 ·intro l hl;have me:l<J.heap.length:=by have:=S.low;omega
  have:=S.oe l hl
  grind
def nr.aIb(S:nr C U J a w){z z':kp}(hl:J.heap[l]? =some z)
 (hnm:(h'=U l/\nO (some z')=nO (some z))\/((∃k,nO (some z)=some k/\∀k',nO (some z')=some k'->k<k')/\(∀a,U l≠ .pointer a)/\hdl (U l)=none))
 (Sz:w.heap.size<=w'.heap.size)
 (HA:∀b o,b<w.heap.size-> ¬ z.Ff (U l) b o->w'.cell? ⟨b,o,none⟩=w.cell? ⟨b,o,none⟩)
 (Jf:∀b,b<w.heap.size-> ¬ z.block (U l) b->w'.heap[b]? =w.heap[b]?)
 (agZ:∀x,w'.frozen? x=w.frozen? x) (qz:w'.output=w.output/\w'.os=w.os)
 (Ko:∀b,z'.block h' b->z.block (U l) b\/w.heap.size<=b)
 (ag0:∀b o,z'.Ff h' b o->z.Ff (U l) b o\/w.heap.size<=b)
 (IM:∀E',(C.env U J.heap w).Le J.heap.length E'->E'.w=w'->rz E' z' h'):
 nr C (fun k=>if k=l then h' else U k) {J with heap:=J.heap.set l z'} a w':=by
 have me:l<J.heap.length:=(aw.1 hl).1
 let U':Nat->aMu:=fun k=>if k=l then h' else U k
 have hφl:U' l=h':=by simp [U']
 have hφk:∀k,k≠l->U' k=U k:=fun k hk=>by simp [U',hk]
 have Df:∀(k:Nat)(x:kp),(J.heap.set l z')[k]? =some x->(k=l/\x=z')\/(k≠l/\J.heap[k]? =some x):=by
  grind
 have alH:∀b o,Sx U' (J.heap.set l z') b o->Sx U J.heap b o\/w.heap.size<=b:=by
  rintro b o ⟨k,x,hx,hm⟩;rcases Df k x hx with⟨rfl,rfl⟩|⟨wN,hx⟩
  ·rw[hφl]at hm;exact(ag0 b o hm).imp (fun h=>⟨k,_,hl,h⟩) id
  ·rw[hφk k wN]at hm;exact .inl ⟨k,x,hx,hm⟩
 have VR:∀(k:Nat)(x:kp)(b:Nat),(J.heap.set l z')[k]? =some x->x.block (U' k) b->(∃y,J.heap[k]? =some y/\y.block (U k) b/\b<w.heap.size)\/(k=l/\w.heap.size<=b):=by
  intro k x b hx hb;rcases Df k x hx with⟨rfl,rfl⟩|⟨wN,hx⟩
  ·rw[hφl]at hb;exact(Ko b hb).imp (fun h=>⟨_,hl,h,(S.sF k _ hl).B9 h⟩) fun h=>⟨rfl,h⟩
  ·rw[hφk k wN]at hb;exact .inl ⟨x,hx,hb,(S.sF k x hx).B9 hb⟩
 have le:(C.env U J.heap w).Le J.heap.length (C.env U' (J.heap.set l z') w'):=by
  refine⟨by simp [tg.env],fun k hk=>?_,fun b o u hm hc=>?_⟩
  ·by_cases e:k=l
   ·subst e;simp only[tg.env,hφl,bH me,hl];rcases hnm with h|h
    ·exact .inl ⟨h.1,.inl h.2⟩
    ·exact .inr h
   ·simp only[tg.env,hφk k e,be (fun h=>e h.symm)];exact .inl ⟨trivial,.inl trivial⟩
  ·have hb:=Sy hc;simp only[tg.env]at hb hm ⊢;refine⟨fun h=>?_,?_⟩
   ·grind
   ·rw[HA b o hb (fun h=>hm (.inl ⟨l,_,hl,h⟩))];exact hc
 have abg:xj C U' (J.heap.set l z') w' J.df a.defers:=by
  refine S.defers.step le (fun b hb hno=>Jf b hb (hno l _ hl)) (fun k x b hx hb=>?_);exact(VR k x b hx hb).imp (fun ⟨y,h1,h2,_⟩=>⟨k,y,h1,h2⟩) And.right
 refine {kr:=kQ.mono le _ _ (kQ.nb _ _ S.kr) S.kr,defers:=abg,sF:=?_,apart:=?_,Fj:=?_,size:=bw S.size Sz,R3:=?_,tC:=?_,XG:=?_,Hz:=fun x hx=>by rw[agZ];exact S.Hz x hx,rest:=⟨by rw[qz.1];exact S.rest.1,by rw[qz.2];exact S.rest.2⟩,low:=⟨S.low.1,by simpa using S.low.2⟩,oe:=?_}
 ·intro k x hx;show rz _ x (U' k);rcases Df k x hx with⟨rfl,rfl⟩|⟨wN,hx⟩
  ·rw[hφl];exact IM _ le rfl
  ·rw[hφk k wN];exact rz.mono (S.sF k x hx) le (fun b hb=>Jf b ((S.sF k x hx).B9 hb) (fun h=>wN (S.apart k l x _ b hx hl hb h)))
 ·intro k k' x x' b hx VO hb Gs;rcases VR k x b hx hb with⟨y,h1,h2,h3⟩|h<;>rcases VR k' x' b VO Gs with⟨y',k1,k2,k3⟩|h'
  ·exact S.apart k k' y y' b h1 k1 h2 k2
  ·omega
  ·omega
  ·rw[h.1,h'.1]
 ·intro k x b o hx hb hA;rcases VR k x b hx hb with⟨y,h1,h2,h3⟩|h
  ·exact S.Fj k y b o h1 h2 hA
  ·have:=C.hA _ _ hA;have:=S.size;omega
 ·intro b o hb hm;rw[HA b o (ah hb S.size) (fun h=>hm (S.XG l _ b o hl h hb))];exact S.R3 b o hb hm
 ·intro b hb hm
  rw[Jf b (ah hb S.size) (fun h=>by
   obtain⟨o,ho⟩:=Ny h;exact hm o (S.XG l _ b o hl ho hb))]
  exact S.tC b hb hm
 ·intro k x b o hx hm hb;have hm:x.Ff (U' k) b o:=hm;rcases Df k x hx with⟨rfl,rfl⟩|⟨wN,hx1⟩
  ·rw[hφl]at hm;rcases ag0 b o hm with h|h
   ·exact S.XG k _ b o hl h hb
   ·have:=S.size;omega
  ·rw[hφk k wN]at hm;exact S.XG k x b o hx1 hm hb
 ·intro k hk;have hn:=S.oe k hk;by_cases e:k=l
  ·subst e;show(U' k=_/\_)\/_;rw[hφl,bH me];rw[hl]at hn;rcases hnm with⟨h1,h2⟩|⟨⟨q,h1,h2⟩,h3⟩
   ·rw[h1,h2];exact hn
   ·rcases hn with⟨n1,n2|n2⟩|⟨⟨p,n1,n2⟩,n3⟩
    ·exact .inr ⟨⟨q,by rw[<-n2];exact h1,h2⟩,by rw[<-n1];exact h3⟩
    ·rw[h1]at n2;cases n2
    ·exact .inr ⟨⟨p,n1,fun k' OZ=>Nat.lt_trans (n2 q h1) (h2 k' OZ)⟩,n3⟩
  ·show(U' k=_/\_)\/_;rw[hφk k e,be (fun h=>e h.symm)];exact hn
def nr.avn(S:nr C U J a w){z z':kp}(hl:J.heap[l]? =some z)(hlen:nO (some z')=nO (some z))(Sz:w.heap.size<=w'.heap.size)
 (HA:∀b o,¬ z.Ff (U l) b o->w'.cell? ⟨b,o,none⟩=w.cell? ⟨b,o,none⟩) (Jf:∀b,¬ z.block (U l) b->w'.heap[b]? =w.heap[b]?) (agZ:∀x,w'.frozen? x=w.frozen? x) (qz:w'.output=w.output/\w'.os=w.os)
 (Ko:∀b,z'.block (U l) b->z.block (U l) b) (ag0:∀b o,z'.Ff (U l) b o->z.Ff (U l) b o)
 (IM:∀E',(C.env U J.heap w).Le J.heap.length E'->E'.w=w'->rz E' z' (U l)):nr C U {J with heap:=J.heap.set l z'} a w':=by
 have:=S.aIb hl (.inl ⟨rfl,hlen⟩) Sz (fun b o _=>HA b o) (fun b _=>Jf b) agZ qz (fun b hb=>.inl (Ko b hb)) (fun b o hm=>.inl (ag0 b o hm)) IM
 rwa [show(fun k=>if k=l then U l else U k)=U from funext fun k=>by by_cases e:k=l<;>simp [e]]at this
theorem nr.name(S:nr C U J a w)(c:Array aMu)(t:aMz)(r:kQ (C.env U J.heap w) cs c.toList)(h1:∀u∈c.toList,u.oneCell'=true):
 nr C (fun l=>if l=J.heap.length then .pointer (some ⟨w.heap.size,0,none⟩)else U l) {J with heap:=J.heap++[.cells cs]} a (World.more w (.cells c t))/\
 (C.env U J.heap w).Le J.heap.length (C.env (fun l=>if l=J.heap.length then .pointer (some ⟨w.heap.size,0,none⟩)else U l) (J.heap++[.cells cs]) (World.more w (.cells c t))):=S.ar4 (by simp) (fun b hb=>B8 w _ hb) (wE w _ (by grind)) ⟨rfl,rfl⟩ (fun b hb=>bX hb.symm) (fun E' le hw=>⟨w.heap.size,c,t,rfl,by rw[hw];exact Km w _,kQ.mono le _ _ (kQ.nb _ _ r) r,h1⟩)
end basics
structure wO where
 val:AV
 rd:List Nat:=[]
 up:List (Nat×kp):=[]
 nw:List kp:=[]
 pre:Prop:=True
 whole:Bool:=false
variable {ef:wO}
def mN:List kp->List (Nat×kp)->List kp
 |H,[]=>H
 |H,(l,x)::r=>mN (H.set l x) r
def jX.app(J:jX)(dst:Option Tmp)(e:wO):jX:=
 {J.put dst e.val with heap:=mN J.heap e.up++e.nw}
def qB(P:aMy)(t:aMz):Option (Bool×Nat):=
 match P.info? t with
 |none=>none
 |some i=>match P.underlying t with
  |some (.struct _)=>some (true,i.size)
  |some (.array _ _)=>some (true,i.size)
  |some _=>some (false,i.size)
  |none=>none
def pX(P:aMy)(t:aMz):Option (List AV):=
 match P.info? t with
 |none=>none
 |some i=>match i.zero with
  |some v=>if v.cells.toList.all Value.oneCell' then some (v.cells.toList.map XF)else none
  |none=>none
def vH(P:aMy)(t:aMz)(i:Nat):Option (Nat×aMz):=
 match P.underlying t with
 |some (.struct fs)=>match fs[i]? with
  |some f=>match P.info? f.type with
   |some j=>if j.size=0 then none else some (f.offset,f.type)
   |none=>none
  |none=>none
 |_=>none
def oQ(P:aMy)(t:aMz):Option (aMz×Nat×Nat):=
 match P.underlying t with
 |some (.slice e)=>match P.info? e with
  |some i=>some (e,i.size,i.bytes)
  |none=>none
 |_=>none
def ar5(P:aMy)(t:aMz):Option (Nat×Nat):=
 match P.underlying t with
 |some (.array n e)=>match P.info? e with
  |some i=>some (n,i.size)
  |none=>none
 |_=>none
def vz(P:aMy)(t:aMz):Bool:=
 match P.underlying t with
 |some .string=>true
 |_=>false
def aqb(P:aMy)(t:aMz):Option IntKind:=
 match P.underlying t with
 |some (.int k)=>some k
 |_=>none
def pK(P:aMy)(t:aMz):Bool:=
 match P.underlying t with
 |some (.int _)=>false
 |some _=>true
 |none=>false
def si(P:aMy)(t:aMz):Bool:=
 match P.underlying t with
 |some (.interface _)=>false
 |some _=>true
 |none=>false
def AV.pL:AV->Bool
 |.any|.agg _|.Je _=>false
 |.uE v=>v.oneCell'
 |_=>true
def cellsOf:AV->Option (List AV)
 |.agg cs=>if cs.all AV.pL then some cs else none
 |x=>if x.pL then some [x] else none
def l8(g:Bool)(n:Nat)(cs:List AV):Option AV:=
 match g with
 |true=>if n<=cs.length then some (.agg (cs.take n))else none
 |false=>match cs with
  |c::_=>some c
  |[]=>none
def uL(cs:List AV)(off:Nat)(xs:List AV):List AV:=cs.take off++xs++cs.drop (off+xs.length)
def XI(place:Nat->Option (Nat×Nat))(cs:List AV):List (Nat×AV)->Option (List AV)
 |[]=>some cs
 |(i,x)::rest=>match place i,cellsOf x with
  |some (off,size),some xs=>if xs.length=size/\off+size<=cs.length then XI place (uL cs off xs) rest else none
  |_,_=>none
def SA(P:aMy)(t:aMz):Option (Nat->Option (Nat×Nat)):=
 match P.underlying t with
 |some (.array _ e)=>match P.info? e with
  |some ie=>some fun i=>some (i*ie.size,ie.size)
  |none=>none
 |some (.struct fields)=>match fields.toList.mapM (fun f=>(P.info? f.type).map fun i=>(f.offset,i.size))with
  |some places=>some fun i=>places.toArray[i]?
  |none=>none
 |_=>none
def Be(P:aMy)(t:aMz):Bool:=(SA P t).isSome
def nB(P:aMy)(t:aMz)(i:Nat):Option (Nat×Nat):=
 match SA P t with
 |some f=>f i
 |none=>none
def XJ(sz:Nat)(rows:List (List AV)):List (Nat×AV)->Option (List (List AV))
 |[]=>some rows
 |(i,x)::rest=>match cellsOf x with
  |some xs=>if i<rows.length/\xs.length=sz then XJ sz (rows.set i xs) rest else none
  |none=>none
def aAw(k:IntKind)(f:BitVec k.bits->BitVec k.bits->BitVec k.bits)(a b:Int):Int:=k.wrap (f (BitVec.ofInt k.bits a) (BitVec.ofInt k.bits b)).toNat
def aoT(op:BinOp)(x y:AV):Option AV:=
 match x,y with
 | .int k a,.int k' b=>
   if k≠k' then none else
   match op with
   |.add=>some (.int k (k.wrap (a+b)))
   |.sub=>some (.int k (k.wrap (a-b)))
   |.mul=>some (.int k (k.wrap (a*b)))
   |.eql=>some (.bool (a==b))
   |.neq=>some (.bool (a !=b))
   |.lss=>some (.bool (decide (a<b)))
   |.leq=>some (.bool (decide (a<=b)))
   |.gtr=>some (.bool (decide (b<a)))
   |.geq=>some (.bool (decide (b<=a)))
   |.quo=>if b=0 then none else some (.int k (k.wrap (a.tdiv b)))
   |.rem=>if b=0 then none else some (.int k (a.tmod b))
   |.and=>some (.int k (aAw k (· &&& ·) a b))
   |.or=>some (.int k (aAw k (· ||| ·) a b))
   |.xor=>some (.int k (aAw k (· ^^^ ·) a b))
   |.andNot=>some (.int k (aAw k (fun x y=>x&&& ~~~y) a b))
   |_=>none
 | .str a,.str b=>
   match op with
   |.eql=>some (.bool (a.toList==b.toList))
   |.neq=>some (.bool (!(a.toList==b.toList)))
   |.add=>if a.size+b.size<=9223372036854775807 then some (.str (a++b))else none
   |.lss=>some (.bool (bY a.toList b.toList))
   |.leq=>some (.bool (bY a.toList b.toList||a.toList==b.toList))
   |.gtr=>some (.bool (!(bY a.toList b.toList||a.toList==b.toList)))
   |.geq=>some (.bool (!bY a.toList b.toList))
   |_=>none
 |_,_=>none
def eq1:AV->AV->Bool
 |.int _ a,.int _ b=>a==b
 |.str a,.str b=>a.toList==b.toList
 |.bool a,.bool b=>a==b
 |_,_=>false
def eqB:List AV->List AV->Bool
 |[],[]=>true
 |x::xs,y::ys=>eq1 x y&&eqB xs ys
 |_,_=>false
def aoU(P:aMy)(t:aMz)(cs ds:List AV):Prop:=
 ∀ (E:D4) (vs us:Array aMu) (w:aMv) (x y:aMt),kQ E cs vs.toList->kQ E ds us.toList->
   (do eqGuard .eql t x y (.agg vs) (.agg us);binOp .eql t (.agg vs) (.agg us):Sem aMu).run P w=.ok (.bool (eqB cs ds)) w/\
   (do eqGuard .neq t x y (.agg vs) (.agg us);binOp .neq t (.agg vs) (.agg us):Sem aMu).run P w=.ok (.bool (!eqB cs ds)) w
def tbl(P:aMy)(t:aMz):Bool:=
 match P.underlying t with
 |some .bool=>true
 |_=>false
def avo(P:aMy)(t:aMz):Bool:=
 match P.underlying t with
 |some (.interface ms)=>ms.isEmpty
 |_=>false
def aiL(P:aMy)(op:BinOp)(t:aMz)(x y:AV):Option wO:=
 match op,x,y with
 |.eql,.agg cs,.agg ds=>some {val:=.bool (eqB cs ds),pre:=aoU P t cs ds}
 |.neq,.agg cs,.agg ds=>some {val:=.bool (!eqB cs ds),pre:=aoU P t cs ds}
 |.eql,.bool a,.bool b=>if tbl P t then some {val:=.bool (a==b)} else none
 |.neq,.bool a,.bool b=>if tbl P t then some {val:=.bool (!(a==b))} else none
 |.eql,.iface _ _,.uE .nilIface=>if avo P t then some {val:=.bool false} else none
 |.neq,.iface _ _,.uE .nilIface=>if avo P t then some {val:=.bool true} else none
 |.eql,.uE .nilIface,.uE .nilIface=>if avo P t then some {val:=.bool true} else none
 |.neq,.uE .nilIface,.uE .nilIface=>if avo P t then some {val:=.bool false} else none
 |_,_,_=>none
def af1(P:aMy)(op:BinOp)(t:aMz)(x:AV)(y:aMt):Option wO:=
 match op,x,y with
 |.eql,.uE (.slice a _ _),.const (.slice none 0 0)=>if (oQ P t).isSome then some {val:=.bool a.isNone} else none
 |.eql,.lS _ _ rows,.const (.slice none 0 0)=>if rows.isEmpty=false/\(oQ P t).isSome then some {val:=.bool false} else none
 |_,_,_=>none
def aoV(P:aMy)(op:BinOp)(t:aMz)(y:aMt)(a b:AV):Option wO:=
 match af1 P op t a y with
 |some e=>some e
 |none=>aiL P op t a b
def BC(J:jX)(d:Nat):Option aMt->Option Int
 |none=>some d
 |some x=>match J.ev x with
  |.int _ n=>some n
  |_=>none
def adG(mx:Option aMt)(t:Bool)(h n m:Int):Bool:=
 match mx with
 |none=>t&&decide (h=n)
 |some _=>decide (h=m)
def ag1 (J:jX) (sz:Nat) (x:AV) (lo hi mx:Option aMt):Option wO:=
 match x with
 | .lS t Po rows=>
   match BC J 0 lo,BC J rows.length hi,BC J rows.length mx with
   |some l,some h,some m=>if (Po=sz\/rows.length=0)/\0<=l/\l<=h/\h<=m/\m<=rows.length then
     some {val:=.lS (adG mx t h rows.length m) sz ((rows.take h.toNat).drop l.toNat)} else none
   |_,_,_=>none
 | .mE k n=>match J.heap[k]? with
   |some (.mE true Po rows)=>
    match BC J 0 lo,BC J rows.length hi,BC J rows.length mx with
    |some l,some h,some m=>if Po=sz/\rows.length=n/\0<=l/\l<=h/\h<=m/\m<=rows.length then
      some {val:=.lS (adG mx false h rows.length m) sz ((rows.take h.toNat).drop l.toNat),rd:=[k]} else none
    |_,_,_=>none
   |_=>none
 |_=>none
def XK(J:jX)(sz:Nat):AV->Option (List Nat×List (List AV))
 |.lS _ Po rows=>if Po=sz\/rows.length=0 then some ([],rows)else none
 | .mE l n=>match J.heap[l]? with
   |some (.mE true Po rows)=>if Po=sz/\rows.length=n then some ([l],rows)else none
   |_=>none
 |.uE (.slice _ 0 _)=>some ([],[])
 |_=>none
def room(n bytes:Nat):Prop:=n*bytes<=2 ^ 44
def VS (im:Bool) (J:jX) (sz bytes:Nat) (x y:AV):Option wO:=
 match XK J sz y with
 |none=>none
 |some (rd,ys)=>match x with
  | .mE l n=>match J.heap[l]? with
    |some (.mE vA Po rows)=>if Po=sz/\rows.length=n then
      some {val:=.mE l (rows++ys).length,rd:=l::rd,up:=[(l,.mE vA sz (rows++ys))],pre:=room (rows.length+ys.length) bytes} else none
    |_=>none
  | .lS true Po rows=>if Po=sz\/rows.length=0 then
      (if rows.length=0\/0<ys.length then some {val:=.mE J.heap.length (rows++ys).length,rd:=rd,nw:=[.mE im sz (rows++ys)],pre:=room (rows.length+ys.length) bytes}
        else some {val:=.lS true Po rows,rd:=rd})else none
  |_=>none
def aoW(P:aMy)(J:jX)(t:aMz):AV->Option wO
 |.str s=>if vz P t then some {val:=.int .i64 s.size} else none
 |.lS _ _ rows=>if (oQ P t).isSome then some {val:=.int .i64 rows.length} else none
 | .mE l n=>if (oQ P t).isSome then match J.heap[l]? with
   |some (.mE _ _ rows)=>if rows.length=n then some {val:=.int .i64 n,rd:=[l]} else none
   |_=>none else none
 |_=>none
def aoX:List aMt->Nat
 |.tmp t::_=>t
 |_=>0
def M2 (P:aMy) (J:jX) (b:Builtin) (ky:List aMt) (ts:List aMz) (xs:List AV):Option wO:=
 match b,ts,xs with
 |.len,[t],[x]=>aoW P J t x
 | .append,[t,u],[x,y]=>match oQ P t,pK P u with
   |some (e,sz,bytes),true=>match pX P e with
    |some z=>if z.length=sz/\0<sz/\0<bytes then VS (aGl t (aoX ky)) J sz bytes x y else none
    |none=>none
   |_,_=>none
 |.max,[_,_],[.int k m,.int _ n]=>some {val:=.int k (if n>m then n else m)}
 |.min,[_,_],[.int k m,.int _ n]=>some {val:=.int k (if n<m then n else m)}
 |_,_,_=>none
def vwL (H:List kp):List AV->Option (List AV×List Nat)
 |[]=>some ([],[])
 | .mE l n::cs=>match H[l]? with
   |some (.mE vA sz rows)=>if rows.length=n then match vwL H cs with
    |some (ds,ns)=>some ((bif vA then .lS false sz rows else .mE l n)::ds,l::ns)
    |none=>none else none
   |_=>none
 |c::cs=>match vwL H cs with
  |some (ds,ns)=>some (c::ds,ns)
  |none=>none
def ldV(H:List kp)(l:Nat):AV->Option wO
 | .agg cs=>match vwL H cs with
   |some (ds,ns)=>some {val:=.agg ds,rd:=l::ns}
   |none=>none
 |v=>some {val:=v,rd:=[l]}
def alI(sz:Nat):Nat->List AV->Option (List AV)
 |0,cs=>if sz<=cs.length then some (cs.take sz)else none
 |n+1,cs=>alI sz n (cs.drop sz)
def tz1(P:aMy)(t:aMz):Option AV:=
 match P.info? t with
 |some i=>match i.zero with
  |some (.bool b)=>some (.bool b)
  |some (.int k n)=>some (.int k n)
  |some (.string s)=>some (.str s)
  |some (.agg vs)=>some (.agg (vs.toList.map XF))
  |_=>none
 |none=>none
def abh(P:aMy)(t:aMz):Option AV:=
 match P.underlying t with
 |some (.map k e)=>match P.underlying k with
  |some .string=>tz1 P e
  |_=>none
 |_=>none
def aMj:List (AV×AV)->Bool
 |[]=>true
 |(.str _,_)::es=>aMj es
 |_=>false
def yK(s:ByteArray):List (AV×AV)->Option AV
 |(.str k,v)::es=>bif s==k then some v else yK s es
 |_=>none
def M3(s:ByteArray)(v:AV):List (AV×AV)->List (AV×AV)
 |(.str k,u)::es=>bif s==k then(.str k,v)::es else(.str k,u)::M3 s v es
 |_=>[(.str s,v)]
def adH(z:AV)(l:Nat)(s:ByteArray):Option kp->Option wO
 |some (.map es)=>if aMj es=true then some {val:=(yK s es).getD z,rd:=[l]} else none
 |_=>none
def aoY(z:AV)(l:Nat):Option AV->wO
 |some v=>{val:=.Je [v,.bool true],rd:=[l]}
 |none=>{val:=.Je [z,.bool false],rd:=[l]}
def aiM(z:AV)(l:Nat)(s:ByteArray):Option kp->Option wO
 |some (.map es)=>if aMj es=true then some (aoY z l (yK s es))else none
 |_=>none
def aqc(P:aMy)(t:aMz):AV->Option wO
 |.iface t' x=>if t'=t/\si P t=true then some {val:=.Je [x,.bool true]} else none
 |_=>none
def Ca(l:Nat)(s:ByteArray)(v:AV):Option kp->Option wO
 |some (.map es)=>if aMj es=true then some {val:=.any,rd:=[l],up:=[(l,.map (M3 s v es))]} else none
 |_=>none
def alJ:aMu->Option wO
 | .pointer (some ⟨b,o,none⟩)=>match aDi b with
   |some k=>(axG b o).bind fun m=>some {val:=.int k m}
   |none=>none
 |_=>none
def adI(l:Nat):Option kp->Option wO
 |some (.iter s p)=>if p<s.size then some {val:=.Je [.bool true,.int .i64 p,.int .i32 (Utf8.decode s p).1],rd:=[l],up:=[(l,.iter s (p+(Utf8.decode s p).2))]}
   else some {val:=.Je [.bool false],rd:=[l]}
 |_=>none
def lC (P:aMy) (J:jX):Op->Option wO
 |.move x=>some {val:=J.ev x}
 |.assign x=>some {val:=J.ev x}
 | .pick c x y=>match J.ev c with
   |.bool b=>some {val:=bif b then J.ev x else J.ev y}
   |_=>none
 | .alloc t=>match pX P t with
   |some z=>some {val:=.ptr J.heap.length 0,nw:=[.cells z]}
   |none=>none
 | .box _ x=>match cellsOf (J.ev x) with
   |some cs=>some {val:=.ptr J.heap.length 0,nw:=[.cells cs]}
   |none=>none
 | .build t parts=>match Be P t,pX P t with
   |true,some z=>match XI (nB P t) z (parts.toList.map fun p=>(p.1,J.ev p.2))with
    |some cs=>some {val:=.agg cs}
    |none=>none
   |_,_=>none
 | .buildSlice t len parts=>match oQ P t with
   |some (e,sz,_)=>match pX P e with
    |some z=>if z.length=sz/\len*sz<=16777216 then
      match XJ sz (ak len z) (parts.toList.map fun p=>(p.1,J.ev p.2))with
      |some rows=>bif aDh t (aoX (parts.toList.map (·.2)))then some {val:=.mE J.heap.length rows.length,nw:=[.mE (aGl t (aoX (parts.toList.map (·.2)))) sz rows]} else some {val:=.lS true sz rows}
      |none=>none
     else none
    |none=>none
   |none=>none
 | .load t x=>match qB P t,J.ev x with
   |some (g,n),.ptr l off=>match J.heap[l]? with
    |some (.cells cs)=>match l8 g n (cs.drop off)with
     |some v=>ldV J.heap l v
     |none=>none
    |_=>none
   |some (g,n),.pp cs=>match l8 g n cs with
    |some v=>some {val:=v}
    |none=>none
   |some (g,n),.own l i m o sz=>match J.heap[l]? with
    |some (.mE false Po rows)=>if Po=sz/\rows.length=m then match rows[i]? with
     |some r=>match l8 g n (r.drop o)with
      |some v=>some {val:=v,rd:=[l]}
      |none=>none
     |none=>none else none
    |_=>none
   |some (false,_),.uE v=>alJ v
   |_,_=>none
 | .store t x y=>match qB P t,J.ev x,cellsOf (J.ev y) with
   |some (_,n),.ptr l off,some ys=>match J.heap[l]? with
    |some (.cells cs)=>if ys.length=n/\off+n<=cs.length then some {val:=.any,rd:=[l],up:=[(l,.cells (uL cs off ys))]} else none
    |_=>none
   |some (_,n),.own l i m o sz,some ys=>match J.heap[l]? with
    |some (.mE false Po rows)=>if Po=sz/\rows.length=m then match rows[i]? with
     |some r=>if ys.length=n/\o+n<=sz then some {val:=.any,rd:=[l],up:=[(l,.mE false sz (rows.set i (uL r o ys)))]} else none
     |none=>none else none
    |_=>none
   |_,_,_=>none
 | .binOp op t x y _=>match aoT op (J.ev x) (J.ev y) with
   |some v=>some {val:=v}
   |none=>aoV P op t y (J.ev x) (J.ev y)
 | .unOp op _ x=>match op,J.ev x with
   |.not,.bool b=>some {val:=.bool (!b)}
   |.neg,.int k n=>some {val:=.int k (k.wrap (0-n))}
   |.xor,.int k n=>some {val:=.int k (aAw k (· ^^^ ·) (if k.signed then-1 else k.max) n)}
   |_,_=>none
 | .fieldAddr t x i=>match vH P t i,J.ev x with
   |some (o,_),.ptr l off=>some {val:=.ptr l (off+o)}
   |some (o,_),.pp cs=>some {val:=.pp (cs.drop o)}
   |some (o,_),.own l i m o' sz=>some {val:=.own l i m (o'+o) sz}
   |_,_=>none
 | .field t x i=>match vH P t i,J.ev x with
   |some (o,u),.agg cs=>match qB P u with
    |some (g,n)=>match l8 g n (cs.drop o)with
     |some v=>some {val:=v}
     |none=>none
    |none=>none
   |_,_=>none
 | .indexAddr t x i=>match oQ P t with
   |some (_,sz,_)=>match J.ev x,J.ev i with
    | .lS _ Po rows,.int _ n=>if Po=sz/\0<=n then match rows[n.toNat]? with
      |some r=>some {val:=.pp r}
      |none=>none else none
    | .mE l m,.int _ n=>match J.heap[l]? with
      |some (.mE true Po rows)=>if Po=sz/\0<=n/\rows.length=m then match rows[n.toNat]? with
       |some r=>some {val:=.pp r,rd:=[l]}
       |none=>none else none
      |some (.mE false Po rows)=>if Po=sz/\0<=n/\rows.length=m/\n<m then some {val:=.own l n.toNat m 0 sz,rd:=[l]} else none
      |_=>none
    |_,_=>none
   |none=>match ar5 P t with
    |some (len,sz)=>match J.ev x,J.ev i with
     |.ptr l off,.int _ n=>if 0<=n/\n<len then some {val:=.ptr l (off+n.toNat*sz)} else none
     |.pp cs,.int _ n=>if 0<=n/\n<len then(alI sz n.toNat cs).bind fun ds=>some {val:=.pp ds} else none
     |.uE (.pointer (some ⟨b,o,none⟩)),.int _ n=>if 0<=n/\n<len then some {val:=.uE (.pointer (some ⟨b,o+n.toNat*sz,none⟩))} else none
     |_,_=>none
    |none=>none
 | .index t x i=>match vz P t,J.ev x,J.ev i with
   |true,.str s,.int _ n=>if 0<=n then match s[n.toNat]? with
    |some b=>some {val:=.int .u8 b.toNat}
    |none=>none else none
   |_,_,_=>none
 | .slice t x lo hi mx=>match oQ P t with
   |some (_,sz,_)=>if mx.isSome&&hi.isNone then none else ag1 J sz (J.ev x) lo hi mx
   |none=>match vz P t,J.ev x,mx with
    |true,.str s,none=>match BC J 0 lo,BC J s.size hi with
     |some l,some h=>if 0<=l/\l<=h/\h<=s.size then some {val:=.str (s.extract l.toNat h.toNat)} else none
     |_,_=>none
    |_,_,_=>none
 | .nilCheck x=>match J.ev x with
   |.ptr l off=>some {val:=.ptr l off}
   |.pp cs=>some {val:=.pp cs}
   |.func (.func f) fs cs=>some {val:=.func (.func f) fs cs}
   |_=>none
 | .convert s d x=>match J.ev x with
   |.str v=>if vz P s&&vz P d then some {val:=.str v} else none
   | .int _ n=>match aqb P s,aqb P d with
     |some _,some k=>some {val:=.int k (k.wrap n)}
     |some _,none=>if vz P d then some {val:=.str (Utf8.encode n)} else none
     |_,_=>none
   |_=>none
 |.makeInterface t x=>if si P t then some {val:=.iface t (J.ev x)} else none
 | .makeSlice t x y=>match oQ P t,J.ev x,J.ev y with
   |some (e,sz,bytes),.int .i64 n,.int .i64 m=>match pX P e with
    |some z=>if z.length=sz/\0<sz/\0<=n/\n=m then
      some {val:=.mE J.heap.length n.toNat,nw:=[.mE false sz (ak n.toNat z)],pre:=room n.toNat bytes/\n<2 ^ 62} else none
    |none=>none
   |_,_,_=>none
 |.call {callee:=.builtin b,args,argTypes}=>M2 P J b args.toList argTypes.toList (args.toList.map J.ev)
 | .extract x i=>match J.ev x with
   | .Je vs=>match vs[i]? with
     |some v=>some {val:=v}
     |none=>none
   |_=>none
 |.makeFunc fn f c=>some {val:=.func fn (f.toList.map J.ev) (c.toList.map J.ev)}
 | .range t x=>match vz P t,J.ev x with
   |true,.str s=>some {val:=.ptr J.heap.length 0,nw:=[.iter s 0]}
   |_,_=>none
 | .next x true=>match J.ev x with
   |.ptr l 0=>adI l J.heap[l]?
   |_=>none
 |.makeMap _ none=>some {val:=.map J.heap.length,nw:=[.map []]}
 | .lookup t x k false=>match abh P t,J.ev x,J.ev k with
   |some z,.map l,.str s=>adH z l s J.heap[l]?
   |_,_,_=>none
 | .lookup t x k true=>match abh P t,J.ev x,J.ev k with
   |some z,.map l,.str s=>aiM z l s J.heap[l]?
   |_,_,_=>none
 |.typeAssert x _ t true=>aqc P t (J.ev x)
 | .mapUpdate t x k y=>match abh P t,J.ev x,J.ev k with
   |some _,.map l,.str s=>Ca l s (J.ev y) J.heap[l]?
   |_,_,_=>none
 | .insert t x k y=>match abh P t,J.ev x,J.ev k with
   |some _,.map l,.str s=>Ca l s (J.ev y) J.heap[l]?
   |_,_,_=>none
 |_=>none
section sound

def Am(C:tg)(J:jX)(a:Act)(w:aMv)(dst:Option Tmp)(r:Result Next)(e:wO):Prop:=
 ∃n v w' U',r=.ok n w'/\(n=.value v\/(n=.skip/\v=undef))/\nr C U' (J.app dst e) (a.put dst v) w'
def M4(h:qB C.P t=some (g,n)):(isAgg t).run C.P w=.ok g w/\(sizeOf t).run C.P w=.ok n w:=by
 unfold qB at h;cases hi:C.P.info? t with
 |none=>simp [hi]at h
 |some i=>
  simp only[hi]at h;cases hu:C.P.underlying t with
  |none=>simp [hu]at h
  |some d=>
   simp only[hu]at h;constructor
   ·cases d<;>simp_all [isAgg,run_underlying hu]
   ·simp only[sizeOf,typeInfo];cases d<;>simp_all
def alL{c:AV}(h:c.pL=true)(r:pO E c v):v.oneCell'=true:=by
 cases c with
 |any|agg _|Je _=>simp [AV.pL]at h
 |bool b|int k n|str s=>simp only[pO]at r;subst r;rfl
 |uE u=>simp only[pO]at r;subst r;exact h
 |lS t sz rows=>obtain⟨_,_,rfl,_⟩:=r;rfl
 |mE l n=>obtain⟨_,⟨_,_,_,rfl⟩,_⟩:=r;rfl
 |own l i n o sz=>obtain⟨_,⟨_,rfl⟩,_⟩:=r;rfl
 |ptr l off=>obtain⟨_,_,_,rfl⟩:=r;rfl
 |map l=>
  obtain⟨_,rfl,_,h2⟩:=r;revert h2;generalize E.U l=h;intro h2;unfold hdl at h2;split at h2<;>first|rfl|cases h2
 |pp cs=>obtain⟨_,_,rfl,_⟩:=r;rfl
 |func fn f c=>obtain⟨_,_,rfl,_⟩:=r;rfl
 |iface t x=>obtain⟨_,rfl,_⟩:=r;rfl
def ajQ{E:D4}:∀{cs:List AV}{vs:List aMu},cs.all AV.pL=true->kQ E cs vs->∀v∈vs,v.oneCell'=true
 |[],_,_,rfl=>by simp
 |c::cs,_,h,⟨u,us,rfl,r1,r2⟩=>by
  simp only[List.all_cons,aR]at h;intro v hv;simp only[aG]at hv;rcases hv with rfl|hv
  ·exact alL h.1 r1
  ·exact ajQ h.2 r2 v hv
end sound
section sound

def ar6(E:D4)(b off:Nat)(cs:List AV):Prop:=∃us:List aMu,kQ E cs us/\∀j u,us[j]? =some u->E.w.cell? ⟨b,off+j,none⟩=some u
def aMk{E:D4}{b:Nat}:∀{cs:List AV}{off:Nat},ou E b off cs->ar6 E b off cs
 |[],_,_=>⟨[],rfl,by simp⟩
 |c::cs,off,⟨⟨_,u,hu,_,r⟩,r2⟩=>by
  obtain⟨us,rl,h⟩:=aMk r2;refine⟨u::us,⟨u,us,rfl,r,rl⟩,fun j v hj=>?_⟩
  grind
def alO{fr:Nat×Nat}(hh:E.w.heap[b]? =some (.cells c t fr))(r:kQ E cs c.toList)(off:Nat):
 ar6 E b off (cs.drop off):=
 ⟨c.toList.drop off,r.drop off,fun j u hj=>by
   grind [World.cell?]⟩
theorem AB(b off j:Nat):(⟨b,off,none⟩:Addr).add j=⟨b,off+j,none⟩:=by
 unfold Addr.add;split<;>simp_all
theorem anR{a:Addr}{m:Mode}(h:w.cell? a=some u):(load a m).run P w=.ok u w:=by rw[run_load,h]
def XL(hm:ar6 E b off cs)(ha:(isAgg t).run P E.w= .ok g E.w)(hs:(sizeOf t).run P E.w= .ok n E.w)(hl:l8 g n cs=some x):
 ∃v,(loadVar t ⟨b,off,none⟩).run P E.w=.ok v E.w/\pO E x v:=by
 obtain⟨us,rl,h⟩:=hm;unfold l8 at hl;cases g with
 |true=>
  simp only at hl;split at hl
  ·rename_i hn;cases hl;have hlen:=rl.length;refine⟨.agg (us.take n).toArray,?_,(us.take n).toArray,rfl,by simpa using rl.take n⟩
   have:=run_loadCells_list (P:=P) E.w ⟨b,off,none⟩ (us.take n) (fun j v hj=>by
    grind [AB])
   simp_all [loadVar]
  ·cases hl
 |false=>
  simp only at hl;split at hl
  ·rename_i c cs;cases hl;obtain⟨u,us',rfl,r1,_⟩:=rl;have:=h 0 u (by simp)
   grind [loadVar,ai,ae,anR]
  ·cases hl
def HB{xs:List AV}(h:cellsOf x=some xs)(r:pO E x v):kQ E xs v.cells.toList/\∀u∈v.cells.toList,u.oneCell'=true:=by
 unfold cellsOf at h;split at h
 ·rename_i cs;split at h
  ·rename_i hs;cases h;obtain⟨vs,rfl,rl⟩:=r;exact⟨rl,ajQ hs rl⟩
  ·cases h
 ·split at h
  ·rename_i hs;cases h;have h1:=alL hs r;have:v.cells= #[v]:=by cases v<;>first|rfl|(simp [Value.oneCell']at h1)
   rw[this];exact⟨⟨v,[],rfl,r,rfl⟩,by simpa using h1⟩
  ·cases h
def XM(E:D4):∀vs:List aMu,kQ E (vs.map XF) vs
 |[]=>rfl
 |v::vs=>⟨v,vs,rfl,aoS E v,XM E vs⟩
def adJ(h:pX P t=some z):∃v,(zeroValue t).run P w=.ok v w/\(∀E,kQ E z v.cells.toList)/\∀u∈v.cells.toList,u.oneCell'=true:=by
 unfold pX at h;cases hi:P.info? t with
 |none=>simp [hi]at h
 |some i=>
  simp only[hi]at h;cases hz:i.zero with
  |none=>simp [hz]at h
  |some v=>
   simp only[hz]at h;split at h
   ·rename_i h1;cases h;exact⟨v,by simp [zeroValue,typeInfo,hi,hz],fun E=>XM E _,bz.1 h1⟩
   ·cases h
def nr.write(S:nr C U J a w){cs':List AV}{c':Array aMu}(hl:J.heap[l]? =some (.cells cs))(hφ:U l=.pointer (some ⟨b,0,none⟩))
 (hh:w.heap[b]? =some (.cells c t (0,0))) (hr:kQ (C.env U J.heap w) cs' c'.toList) (h1:∀u∈c'.toList,u.oneCell'=true):nr C U {J with heap:=J.heap.set l (.cells cs')} a (w.setRow b c'):=by
 refine S.avn hl rfl (by simp) (fun b' o hm=>cell_setRow_other w b c' _ (fun e=>hm (by rw[hφ];exact e))) (fun b' hb=>setRow_other w b b' c' (fun e=>hb (by rw[hφ];exact e))) (fun x=>?_) ⟨rfl,rfl⟩ (fun b' hb=>by rw[hφ]at hb ⊢;exact hb) (fun b' o hb=>by rw[hφ]at hb ⊢;exact hb) (fun E' le hw=>⟨b,c',t,hφ,by rw[hw];exact setRow_heap w b c c' t _ hh,kQ.mono le _ _ (kQ.nb _ _ hr) hr,h1⟩);by_cases e:x.block=b
 ·simp only[World.frozen?];rw[e,setRow_heap w b c c' t _ hh,hh]
 grind [World.frozen?,setRow_other]
def ar7(S:nr C U J a w){ys:List AV}(ht:qB C.P t=some (g,n))(hl:J.heap[l]? =some (.cells cs))
 (hr:kQ (C.env U J.heap w) ys v.cells.toList) (h1:∀u∈v.cells.toList,u.oneCell'=true) (hn:ys.length=n) (aKd:off+n<=cs.length) {p:aMu}
 (hp:pO (C.env U J.heap w) (.ptr l off) p):
 ∃w',(bp t p v).run C.P w=.ok () w'/\nr C U {J with heap:=J.heap.set l (.cells (uL cs off ys))} a w':=by
 obtain⟨_,b,hφ,rfl⟩:=hp;simp only[tg.env]at hφ;obtain⟨b2,c,t2,hφ2,hh,rl,zu⟩:=S.sF l _ hl;have e:b2=b:=by grind
 subst e;simp only[tg.env]at hh;have hcl:c.size=cs.length:=by have:=rl.length;simpa using this
 have hvl:v.cells.size=n:=by have:=hr.length;simp at this;omega
 have VT:=run_storeCells_at C.P b2 off t2 v.cells.toList 0 c w hh (by simp;omega) h1;refine⟨_,?_,S.write hl hφ hh (c':=(c.toList.take off++v.cells.toList++c.toList.drop (off+v.cells.toList.length)).toArray) ?_ ?_⟩
 ·have hs:=(M4 (C:=C) (w:=w) ht).2
  grind [bp,av,storeVar,ai,ae]
 ·have e1:v.cells.toList.length=ys.length:=hr.length;rw[e1];exact((rl.take off).append hr).append (rl.drop _)
 grind
theorem ag2(off:Nat):∀(xs:List aMu)(k:Nat)(cs:Array aMu),off+k+xs.length<=cs.size->
 (((xs.zipIdx k).foldl (fun cs p=>cs.setIfInBounds (off+p.2) p.1) cs).toList=cs.toList.take (off+k)++xs++cs.toList.drop (off+k+xs.length))
 |[],k,cs,_=>by simp
 |x::xs,k,cs,h=>by
  simp only[List.zipIdx_cons,List.foldl_cons];rw[ag2 off xs (k+1) _ (by simp at h ⊢;omega)];have e:=list_seg_step cs.toList (off+k) x xs (by simp at h ⊢;omega)
  simp_all [bR]
def af2{E:D4}(place:Nat->Option (Nat×Nat)): ∀(ps:List (Nat×AV))(qs:List (Nat×aMu))(cs:List AV)(vs:Array aMu)(out:List AV),
 kQ E cs vs.toList->(∀u∈vs.toList,u.oneCell'=true)->qs.map (·.1)=ps.map (·.1)->kQ E (ps.map (·.2)) (qs.map (·.2))->XI place cs ps=some out->
 ∃us,Instr.fill place vs qs=some us/\kQ E out us.toList/\∀u∈us.toList,u.oneCell'=true
 |[],[],cs,vs,out,r,h1,_,_,h=>by
  simp only[XI]at h;cases h;exact⟨vs,rfl,r,h1⟩
 |[],_::_,_,_,_,_,_,h,_,_=>by simp at h
 |_::_,[],_,_,_,_,_,h,_,_=>by simp at h
 |(i,x)::ps,(j,v)::qs,cs,vs,out,r,h1,hi,hr,h=>by
  simp only[bq,aB]at hi;obtain⟨rfl,hi⟩:=hi;obtain⟨u,us,hus,r1,r2⟩:=hr;simp only[bq,aB]at hus;obtain⟨rfl,rfl⟩:=hus;simp only[XI]at h;split at h
  ·rename_i off size xs hp hx;split at h
   ·rename_i hc;obtain⟨hrl,zu⟩:=HB hx r1;have hlen:=hrl.length;have hcl:=r.length;have hsz:v.cells.size=size:=by simp at hlen;omega
    have hsp:off+v.cells.size<=vs.size:=by simp at hcl;omega
    have hf:=ag2 off v.cells.toList 0 vs (by simpa using hsp);simp only[Nat.add_zero]at hf
    have aGm:(v.cells.zipIdx.foldl (fun cs (c,j)=>cs.setIfInBounds (off+j) c) vs).toList=vs.toList.take off++v.cells.toList++vs.toList.drop (off+v.cells.toList.length):=by
     rw[<-hf,<-Array.foldl_toList];simp
    obtain⟨us',aAx,hr',ho'⟩:=af2 place ps qs (uL cs off xs) (v.cells.zipIdx.foldl (fun cs (c,j)=>cs.setIfInBounds (off+j) c) vs) out (by
     rw[aGm,hlen];exact((r.take off).append hrl).append (r.drop _)) (by
     grind) hi r2 h
    grind [Instr.fill]
   ·cases h
  ·cases h
theorem ar8(S:nr C U J a w)(hb:Be C.P t=true)(hz:pX C.P t=some z)
 (hf:XI (nB C.P t) z (parts.toList.map fun p=>(p.1,J.ev p.2))=some cs):
 ∃v,(Instr.build t (parts.map fun(i,x)=>(i,a.eval x))).run C.P w=.ok v w/\pO (C.env U J.heap w) (.agg cs) v:=by
 have XN:∀ps:List (Nat×aMt),kQ (C.env U J.heap w) ((ps.map fun p=>(p.1,J.ev p.2)).map (·.2)) ((ps.map fun p=>(p.1,a.eval p.2)).map (·.2)):=by
  intro ps;induction ps with
  |nil=>rfl
  |cons p ps ih=>exact⟨_,_,rfl,S.ev p.2,ih⟩
 unfold pX at hz;cases hi:C.P.info? t with
 |none=>simp [hi]at hz
 |some it=>
  simp only[hi]at hz;cases hz0:it.zero with
  |none=>simp [hz0]at hz
  |some zv=>
   simp only[hz0]at hz;split at hz
   case isFalse=>cases hz
   rename_i zu;cases hz;obtain⟨us,hus,hr,_⟩:=af2 (nB C.P t) _ (parts.toList.map fun p=>(p.1,a.eval p.2)) _ zv.cells cs (XM (C.env U J.heap w) zv.cells.toList) (bz.1 zu) (by simp) (XN _) hf;refine⟨.agg us,run_build w t _ us ?_,us,rfl,hr⟩;have aDm:(parts.map fun(i,x)=>(i,a.eval x)).toList=parts.toList.map fun p=>(p.1,a.eval p.2):=by simp
   rw[aDm];unfold Be at hb;unfold Program.built;cases hu:C.P.underlying t with
   |none=>simp [SA,hu]at hb
   |some d=>
    cases d<;>try (simp [SA,hu]at hb;done)
    case array n e=>
     cases he:C.P.info? e with
     |none=>simp [SA,hu,he]at hb
     |some ie=>
      have:nB C.P t=fun i=>some (i*ie.size,ie.size):=by grind [nB,SA]
      grind
    case struct fs=>
     cases hp:fs.toList.mapM (fun f=>(C.P.info? f.type).map fun i=>(f.offset,i.size))with
     |none=>simp [SA,hu,hp]at hb
     |some pl=>
      have:nB C.P t=fun i=>pl.toArray[i]? :=by grind [nB,SA]
      grind
end sound
section sound

def Qw {e:aMz}{sz bytes:Nat}(h:oQ P t=some (e,sz,bytes)):P.underlying t=some (.slice e)/\∃i,P.info? e=some i/\i.size=sz/\i.bytes=bytes:=by
 grind [oQ]
theorem ae5(z:List aMu):∀n,(bQ (n*z.length)).map (fun i=>z.toArray[i % z.length]!)=(ak n z).flatten
 |0=>by simp
 |n+1=>by
  rw[ax,b8,Nat.add_comm,List.range_add,List.map_append,List.map_map,bV,aC,<-ae5 z n];congr 1
  ·apply List.ext_getElem?
   grind [Nat.mod_eq_of_lt]
  simp_all
theorem Cb{W:Type}{sz:Nat}:∀{rows:List (List W)},(∀r∈rows,r.length=sz)->rows.flatten.length=rows.length*sz
 |[],_=>by simp
 |r::rows,h=>by
  simp only[aC,List.length_append,a8,ax,b8];rw[Cb (fun q hq=>h q (by simp [hq])),h r (by simp)];omega
theorem ajR{sz:Nat}:∀{rows:List (List AV)}{i:Nat}{xs:List AV},(∀r∈rows,r.length=sz)->i<rows.length->xs.length=sz->
 (rows.set i xs).flatten=uL rows.flatten (i*sz) xs
 |[],_,_,_,h,_=>by simp at h
 |r::rows,0,xs,hl,_,hx=>by
  grind [uL]
 |r::rows,i+1,xs,hl,hi,hx=>by
  have hr:=hl r (by simp);have ih:=ajR (rows:=rows) (i:=i) (xs:=xs) (fun q hq=>hl q (bO _ hq)) (by simpa using hi) hx;simp only[List.set_cons_succ,aC,ih,uL];have e1:(i+1)*sz=r.length+i*sz:=by rw[ax,hr];omega
  have e2:(i+1)*sz+xs.length=r.length+(i*sz+xs.length):=by omega
  rw[e2,e1,List.take_length_add_append,List.drop_length_add_append];simp
def ajS{sz:Nat}: ∀{ps:List (Nat×AV)}{rows out:List (List AV)},(∀r∈rows,r.length=sz)->XJ sz rows ps=some out->
 XI (fun i=>some (i*sz,sz)) rows.flatten ps=some out.flatten/\out.length=rows.length/\∀r∈out,r.length=sz
 |[],rows,out,hl,h=>by
  simp only[XJ]at h;cases h;exact⟨rfl,rfl,hl⟩
 |(i,x)::ps,rows,out,hl,h=>by
  simp only[XJ]at h;split at h
  ·rename_i xs hx;split at h
   ·rename_i hc
    have hl':∀r∈rows.set i xs,r.length=sz:=by
     grind
    obtain⟨h1,h2,h3⟩:=ajS hl' h;refine⟨?_,by simpa using h2,h3⟩;simp only[XI,hx];have hfl:=Cb hl
    have:i*sz+sz<=rows.length*sz:=by
     have:(i+1)*sz<=rows.length*sz:=au _ hc.1;rw[ax]at this;omega
    grind [ajR]
   ·cases h
  ·cases h
theorem Dg{E:D4}{z:List AV}{vs:List aMu}(r:kQ E z vs):∀n,kQ E (ak n z).flatten (ak n vs).flatten
 |0=>by simp [kQ]
 |n+1=>by
  simp only[bV,aC];exact r.append (Dg r n)
theorem ag3(zv:aMu)(n sz:Nat)(hz:zv.cells.size=sz):
 ((bo (n*sz)).map (fun i=>(if n*sz=0 then(#[]:Array aMu)else zv.cells)[i % (if n*sz=0 then(#[]:Array aMu)else zv.cells).size]!)).toList=(ak n zv.cells.toList).flatten:=by
 have:=ae5 zv.cells.toList n;simp only[bj,hz]at this;rw[<-this];by_cases h:n*sz=0
 ·simp [h]
 ·simp [h,hz]
def abi(S:nr C U J a w){e:aMz}{len sz bytes:Nat}(ht:oQ C.P t=some (e,sz,bytes))
 (hz:pX C.P e=some z) (hl:z.length=sz/\len*sz<=16777216) (hf:XJ sz (ak len z) (parts.toList.map fun p=>(p.1,J.ev p.2))=some rows):
 ∃us:Array aMu,(aI t len (parts.map fun(i,x)=>(i,a.eval x))).run C.P w=.ok (.slice (some ⟨w.heap.size,0,none⟩) len len) (World.more w (.cells us e))/\
  kQ (C.env U J.heap w) rows.flatten us.toList/\(∀u∈us.toList,u.oneCell'=true)/\rows.length=len/\(∀r∈rows,r.length=sz)/\us.toList.length=len*sz:=by
 obtain⟨hu,i,hi,rfl,rfl⟩:=Qw ht
 have XN:∀ps:List (Nat×aMt),kQ (C.env U J.heap w) ((ps.map fun p=>(p.1,J.ev p.2)).map (·.2)) ((ps.map fun p=>(p.1,a.eval p.2)).map (·.2)):=by
  intro ps;induction ps with
  |nil=>rfl
  |cons p ps ih=>exact⟨_,_,rfl,S.ev p.2,ih⟩
 obtain⟨zv,hzr,aAy,aIc⟩:=adJ (w:=w) hz;have hzl:zv.cells.size=i.size:=by have:=(aAy (C.env U J.heap w)).length;simp at this;omega
 have hrl:∀r∈ak len z,r.length=i.size:=by
  grind
 obtain⟨h1,h2,h3⟩:=ajS hrl hf
 have abj:kQ (C.env U J.heap w) (ak len z).flatten ((bo (len*i.size)).map (fun j=>(if len*i.size=0 then(#[]:Array aMu)else zv.cells)[j % (if len*i.size=0 then(#[]:Array aMu)else zv.cells).size]!)).toList:=by
  grind [ag3,Dg]
 obtain⟨us,hus,hr,zu⟩:=af2 (fun j=>some (j*i.size,i.size)) _ (parts.toList.map fun p=>(p.1,a.eval p.2)) _ _ rows.flatten abj (by
  grind [ag3,List.mem_flatten]) (by simp) (XN _) h1
 have hlen:rows.length=len:=by simpa using h2
 have aAx:us.toList.length=len*i.size:=by
  rw[hr.length,Cb h3,hlen]
 refine⟨us,?_,hr,zu,hlen,h3,aAx⟩;have aDm:(parts.map fun(i,x)=>(i,a.eval x)).toList=parts.toList.map fun p=>(p.1,a.eval p.2):=by simp
 have hsz:(sizeOf e).run C.P w=.ok i.size w:=by simp [sizeOf,typeInfo,hi]
 by_cases h0:len*i.size=0
 ·simp only[h0,jQ]at hus;simp only[aI,ai,run_underlying hu,ae,hsz,h0,jQ,aDm];simp only[bF,if_false,gt_iff_lt];simp only[hus,newRow,ai,run_newObj,ae,aq];rfl
 ·simp only[h0,if_false]at hus;have hle: ¬ (len*i.size>2 ^ 24):=by omega
  simp only[aI,ai,run_underlying hu,ae,hsz,h0,if_false,aq,aDm,hle,hzr];simp only[hus,newRow,ai,run_newObj,ae,aq];rfl
def aiN(S:nr C U J a w){e:aMz}{len sz bytes:Nat}(ht:oQ C.P t=some (e,sz,bytes))
 (hz:pX C.P e=some z) (hl:z.length=sz/\len*sz<=16777216) (hf:XJ sz (ak len z) (parts.toList.map fun p=>(p.1,J.ev p.2))=some rows):
 ∃v c,(aI t len (parts.map fun(i,x)=>(i,a.eval x))).run C.P w=.ok v (World.more w (.cells c e))/\
  pO (C.env U J.heap (World.more w (.cells c e))) (.lS true sz rows) v:=by
 obtain⟨us,ub,hr,zu,hlen,h3,aAx⟩:=abi S ht hz hl hf;refine⟨.slice (some ⟨w.heap.size,0,none⟩) len len,us,ub,some ⟨w.heap.size,0,none⟩,len,by rw[hlen],by omega,fun _=>hlen.symm,by simp,by simp,?_⟩
 grind [ajP]
end sound
section sound

def aMl {u e:aMz}{i:TypeInfo}{sLen sCap:Nat}{x:aMu}(hu:P.underlying t=some (.slice e))(hi:P.info? e=some i)
 (hd:P.underlying u=some d) (hni:∀k,d≠ .int k) (hlen:(bS x).run P w=.ok n w) (anS:(am i.size n x).run P w=.ok us w) (aiO:sLen+n<=sCap):
 (an #[t,u] ty #[.slice base sLen sCap,x]).run P w=
   (match base with|some a=>(storeCells (a.add (sLen*i.size)) us.toList).run P w|none=>.ok () w).andThen fun _ w'=>.ok (.slice base (sLen+n) sCap) w':=by
 have hsz:(sizeOf e).run P w=.ok i.size w:=by simp [sizeOf,typeInfo,hi]
 cases d<;>try (exact absurd rfl (hni _))
 all_goals
  simp only[an,bK,aL,bE,ai,run_underlying hu,run_underlying hd,ae,hsz,hlen,aiO,jQ,aq,az,if_false,bL,anS];cases base with
  |none=>rfl
  |some b=>simp only[ai,aq]
theorem aoZ(aAz:Nat):∀(r c:Nat),256<=c->bM aAz r c<=2 ^ r*c
 |0,c,_=>by simp [bM]
 |r+1,c,h=>by
  unfold bM;split
  ·have:1<=2 ^ (r+1):=Nat.one_le_two_pow
   calc c=1*c:=by omega
    _<=_:=au _ this
  ·have h1:=aoZ aAz r (c+(c+768) / 4) (by omega);have h2:c+(c+768) / 4<=2*c:=by omega
   calc _<=2 ^ r*(c+(c+768) / 4):=h1
    _<=2 ^ r*(2*c):=Nat.mul_le_mul_left _ h2
    _=2 ^ (r+1)*c:=by grind
def avp{lZ cap:Nat}(h:cap<lZ):bf lZ cap<=16*lZ:=by
 grind [bf,aoZ]
def VU {u e:aMz}{i:TypeInfo}{sLen sCap:Nat}{x zv:aMu}{R3:Array aMu}(hu:P.underlying t=some (.slice e))(hi:P.info? e=some i)
 (hd:P.underlying u=some d) (hni:∀k,d≠ .int k) (hlen:(bS x).run P w=.ok n w) (anS:∀k,(am i.size n x).run P {w with drawn:=k}=.ok us {w with drawn:=k})
 (hold:∀k,(am i.size sLen (.slice base sLen sCap)).run P {w with drawn:=k}=.ok R3 {w with drawn:=k}) (hz:i.zero=some zv)
 (aKe:sCap<sLen+n) (Kp:(sLen+n)*i.bytes<=2 ^ 44) (hb:0<i.bytes):
 ∃cap,sLen+n<=cap/\(an #[t,u] ty #[.slice base sLen sCap,x]).run P w=
  .ok (.slice (some ⟨w.heap.size,0,none⟩) (sLen+n) cap) (World.more {w with drawn:=w.drawn+1} (.cells (R3++us++bt zv.cells (cap-(sLen+n))) e)):=by
 have hsz:∀w:aMv,(sizeOf e).run P w=.ok i.size w:=fun w=>by simp [sizeOf,typeInfo,hi]
 have hti:∀w:aMv,(typeInfo e).run P w=.ok i w:=fun w=>by simp [typeInfo,hi]
 have hzv:∀w:aMv,(zeroValue e).run P w=.ok zv w:=fun w=>by simp [zeroValue,typeInfo,hi,hz]
 have aLp:sLen+n<=2 ^ 44:=bw (Nat.le_mul_of_pos_right _ hb) Kp
 have G9: ¬ (bf (sLen+n) sCap*i.bytes>2 ^ 48):=by
  have h1:=au i.bytes (avp aKe);rw[Nat.mul_assoc]at h1;omega
 have hb0:i.bytes≠0:=by omega
 have aiO: ¬ (sLen+n<=sCap):=by omega
 refine⟨(sLen+n)+w.tape w.drawn (.appendCap (sLen+n) sCap e) % (2 ^ 63-(sLen+n)),by omega,?_⟩;cases d<;>try (exact absurd rfl (hni _))
 all_goals
  simp only[an,bK,aL,bE,ai,run_underlying hu,run_underlying hd,ae,hsz,hlen,aiO,if_false,aq,hti,az,hb0,or_self,and_false,G9,run_choose,Question.forced,Question.cut,run_askRoom,hold,anS,hzv,bL,jQ,newRow,run_newObj];rfl
def nr.avq(S:nr C U J a w){sz:Nat}{vA:Bool}(hl:J.heap[l]? =some (.mE vA sz rows))(hys:0<ys.length\/h'=U l)
 (Sz:w.heap.size<=w'.heap.size)
 (HA:∀b o,b<w.heap.size-> ¬ (kp.mE vA sz rows).Ff (U l) b o->w'.cell? ⟨b,o,none⟩=w.cell? ⟨b,o,none⟩)
 (Jf:∀b,b<w.heap.size-> ¬ (kp.mE vA sz rows).block (U l) b->w'.heap[b]? =w.heap[b]?)
 (agZ:∀x,w'.frozen? x=w.frozen? x) (qz:w'.output=w.output/\w'.os=w.os)
 (Ko:∀b,(kp.mE vA sz (rows++ys)).block h' b->(kp.mE vA sz rows).block (U l) b\/w.heap.size<=b)
 (ag0:∀b o,(kp.mE vA sz (rows++ys)).Ff h' b o->(kp.mE vA sz rows).Ff (U l) b o\/w.heap.size<=b)
 (IM:∀E',(C.env U J.heap w).Le J.heap.length E'->E'.w=w'->rz E' (.mE vA sz (rows++ys)) h'):
 nr C (fun k=>if k=l then h' else U k) {J with heap:=J.heap.set l (.mE vA sz (rows++ys))} a w':=by
 obtain⟨base,cap,hh,_⟩:=S.sF l _ hl;refine S.aIb hl ?_ Sz HA Jf agZ qz Ko ag0 IM;by_cases h0:0<ys.length
 ·exact .inr ⟨⟨_,rfl,fun k' hk=>by simp [nO]at hk;omega⟩,fun a=>by rw[hh];simp,by rw[hh];rfl⟩
 ·have e:ys=[]:=af (by omega);exact .inl ⟨hys.resolve_left h0,by rw[e,List.append_nil]⟩
def nr.XO(S:nr C U J a w){vA:Bool}{sz:Nat}
 (Sz:w.heap.size<=w'.heap.size) (Jf:∀b,b<w.heap.size->w'.heap[b]? =w.heap[b]?)
 (agZ:∀x,w'.frozen? x=w.frozen? x) (qz:w'.output=w.output/\w'.os=w.os)
 (Ko:∀b,(kp.mE vA sz rows).block h' b->w.heap.size<=b)
 (IM:∀E',(C.env U J.heap w).Le J.heap.length E'->E'.w=w'->rz E' (.mE vA sz rows) h'):
 nr C (fun k=>if k=J.heap.length then h' else U k) {J with heap:=J.heap++[.mE vA sz rows]} a w':=(S.ar4 Sz Jf agZ qz Ko IM).1
end sound
section sound

def abk{E:D4}{sz b:Nat}:∀{rows:List (List AV)}{off:Nat},n8 E sz b off rows->ou E b off rows.flatten/\∀r∈rows,r.length=sz
 |[],_,_=>⟨trivial,by simp⟩
 |r::rows,off,⟨h1,h2,h3⟩=>by
  obtain⟨m,hl⟩:=abk h3
  grind [ou.append]
def ae6{E:D4}{b:Nat}:∀{cs:List AV}{off:Nat}{us:List aMu},ou E b off cs->kQ E cs us->(∀j u,us[j]? =some u->E.w.cell? ⟨b,off+j,none⟩=some u)->∀u∈us,u.oneCell'=true
 |[],_,_,_,rfl,_=>by simp
 |c::cs,off,_,⟨⟨_,u,hu,h1,_⟩,r2⟩,⟨u',us,rfl,_,rl⟩,hc=>by
  intro v hv;simp only[aG]at hv;rcases hv with rfl|hv
  ·have:=hc 0 v (by simp)
   grind
  ·exact ae6 r2 rl (fun j w hj=>by rw[<-hc (j+1) w (by simpa using hj)];congr 2;omega) v hv
def aAA(P:aMy)(E:D4)(sz:Nat)(rows:List (List AV))(v:aMu):Prop:=
 ∃us:List aMu,kQ E rows.flatten us/\us.length=rows.length*sz/\(∀r∈rows,r.length=sz)/\(∀u∈us,u.oneCell'=true)/\
  ∀k,(am sz rows.length v).run P {E.w with drawn:=k}=.ok us.toArray {E.w with drawn:=k}
def ao0{sz Po:Nat}{t:Bool}(h:Po=sz\/rows.length=0)(r:pO E (.lS t Po rows) v):aAA P E sz rows v:=by
 obtain⟨base,cap,rfl,h2,h3,h4,h5,h6⟩:=r;cases base with
 |none=>
  have h0:rows.length=0:=by have:=h4 rfl;omega
  have:rows=[]:=af h0;subst this;exact⟨[],rfl,by simp,by simp,by simp,fun k=>by simp [am]⟩
 |some a=>
  by_cases hr:rows=[]
  ·subst hr;exact⟨[],rfl,by simp,by simp,by simp,fun k=>by simp [am,loadCells,loadCellsFrom]⟩
  ·have hsz:Po=sz:=by
    grind
   subst hsz;obtain⟨m,hl⟩:=abk (h6 a rfl);obtain⟨us,rl,hc⟩:=aMk m;have zu:=ae6 m rl hc;have hlen:us.length=rows.length*Po:=by rw[rl.length,Cb hl]
   refine⟨us,rl,hlen,hl,zu,fun k=>?_⟩;have hsp:=h5 a rfl hr;have ha:a=⟨a.block,a.off,none⟩:=by cases a;simp_all
   have:=run_loadCells_list (P:=P) {E.w with drawn:=k} a us (fun j v hj=>by
    rw[ha,AB];exact hc j v hj)
   grind [am]
def ao1(S:nr C U J a w){sz:Nat}{vA:Bool}(hl:J.heap[l]? =some (.mE vA sz rows)):aAA P (C.env U J.heap w) sz rows (U l):=by
 obtain⟨base,cap,hh,h2,h3,h4,h5⟩:=S.sF l _ hl;rw[hh];cases base with
 |none=>
  have h0:rows.length=0:=by have:=h3 rfl;omega
  have:rows=[]:=af h0;subst this;exact⟨[],rfl,by simp,by simp,by simp,fun k=>by simp [am]⟩
 |some b=>
  by_cases G9:cap=0
  ·have h0:rows.length=0:=by omega
   have:rows=[]:=af h0;subst this;exact⟨[],rfl,by simp,by simp,by simp,fun k=>by simp [am,loadCells,loadCellsFrom]⟩
  ·obtain⟨hsp,c,t,hc,hsz,rl,zu⟩:=h5 b rfl G9;have hle:rows.length*sz<=cap*sz:=au _ h2
   have hlen:((c.toList.drop b.off).take (rows.length*sz)).length=rows.length*sz:=by
    grind
   refine⟨_,rl,hlen,h4,zu,fun k=>?_⟩;have ha:b=⟨b.block,b.off,none⟩:=by cases b;simp_all
   grind [run_loadCells_list,AB,World.cell?,am]
def Nz(_S:nr C U J a w){sz:Nat}{vA:Bool}(hl:J.heap[l]? =some (.mE vA sz rows))(hn:rows.length=n)
 (r:pO (C.env U J.heap w) (.mE l n) v):v=U l:=by
 obtain⟨_,_,h⟩:=r
 grind [tg.env,nO]
def abl (S:nr C U J a w){sz:Nat} (hl:J.heap[l]? =some (.mE true sz rows)):pO (C.env U J.heap w) (.lS false sz rows) (U l):=by
 obtain⟨base,cap,hh,h2,h3,h4,h5⟩:=S.sF l _ hl;refine⟨base,cap,hh,h2,(by intro h;cases h),h3,?_,?_⟩
 ·intro b hb wN;have hc:cap≠0:=fun h0=>wN (af (by omega))
  exact(h5 b hb hc).1
 ·intro b hb;by_cases hc:cap=0
  ·have:rows=[]:=af (by omega);subst this;trivial
  ·obtain⟨hsp,c,t,hcb,hsz,rl,zu⟩:=h5 b hb hc;subst hb;have hle:rows.length*sz<=cap*sz:=au _ h2
   have hnm:∀o,o<b.off+rows.length*sz-> ¬ (Sx U J.heap b.block o\/C.A b.block o):=by
    intro o ho hmu;have hbl:(kp.mE true sz rows).block (U l) b.block:=by rw[hh];exact⟨rfl,hc⟩
    rcases hmu with⟨l',x,hx,hm⟩|hA
    ·have e:=S.apart l' l x _ b.block hx hl (kp.sw hm) hbl;subst e;rw[hl]at hx;cases hx;rw[hh]at hm;have:=hm.2 rfl;omega
    ·exact S.Fj l _ b.block o hl hbl hA
   have key: ∀ (rs:List (List AV)) (off:Nat),(∀r∈rs,r.length=sz)->off+rs.length*sz<=b.off+rows.length*sz->
    kQ (C.env U J.heap w) rs.flatten ((c.toList.drop off).take (rs.length*sz))->(∀u∈(c.toList.drop off).take (rs.length*sz),u.oneCell'=true)->n8 (C.env U J.heap w) sz b.block off rs:=by
    have mem:∀(cs:List AV)(off:Nat),off+cs.length<=b.off+rows.length*sz->kQ (C.env U J.heap w) cs ((c.toList.drop off).take cs.length)->(∀u∈(c.toList.drop off).take cs.length,u.oneCell'=true)->
     ou (C.env U J.heap w) b.block off cs:=by
     intro cs;induction cs with
     |nil=>intro _ _ _ _;trivial
     |cons x cs ih=>
      intro off ho r h1;obtain⟨u,us,hu,r1,r2⟩:=r
      have hcu:c[off]? =some u:=by
       have:(c.toList.drop off)[0]? =some u:=by
        have:=congrArg (fun l:List aMu=>l[0]?) hu;simpa using this
       simpa using this
      have htl:us=(c.toList.drop (off+1)).take cs.length:=by
       have h1:=congrArg List.tail hu;simp only[List.tail_cons]at h1;rw[<-h1];cases hd:c.toList.drop off with
       |nil=>rw[hd]at hu;simp at hu
       |cons y ys=>
        grind [bn]
      simp only[a8]at ho;simp only[tg.env]at hcb;refine⟨⟨hnm off (by omega),u,by grind [tg.env,World.cell?],h1 u (by rw[hu];simp),r1⟩,ih (off+1) (by omega) (by rw[<-htl];exact r2) (fun v hv=>h1 v (by rw[hu,htl];simp [hv]))⟩
    intro rs;induction rs with
    |nil=>intro _ _ _ _ _;trivial
    |cons r rs ih=>
     intro off hl' ho h h1;have hr:r.length=sz:=hl' r (by simp);simp only[aC]at h;have h3:=kQ.take r.length h;have h2:=kQ.drop r.length h;simp only[bb,bc,bJ,aY,aQ]at h3 h2
     have e1:min r.length ((r::rs).length*sz)=r.length:=by
      grind [ax]
     have e2:(r::rs).length*sz-r.length=rs.length*sz:=by grind [ax]
     simp only[a8,ax,b8]at ho;rw[e1]at h3;rw[e2,hr]at h2;refine⟨hr,mem r off (by omega) h3 (fun u hu=>h1 u ?_),ih (off+sz) (fun q hq=>hl' q (by simp [hq])) (by omega) h2 (fun u hu=>h1 u ?_)⟩
     ·have:(c.toList.drop off).take r.length=((c.toList.drop off).take ((r::rs).length*sz)).take r.length:=by rw[bJ,e1]
      grind
     ·have:(c.toList.drop (off+sz)).take (rs.length*sz)=((c.toList.drop off).take ((r::rs).length*sz)).drop sz:=by
       grind [aY,aQ]
      grind
   grind
def anT(S:nr C U J a w){sz:Nat}{rd:List Nat}(h:XK J sz y=some (rd,ys))(r:pO (C.env U J.heap w) y v):
 aAA P (C.env U J.heap w) sz ys v/\(bS v).run P w=.ok ys.length w:=by
 unfold XK at h;split at h
 ·split at h
  ·rename_i hc;cases h;refine⟨ao0 hc r,?_⟩;obtain⟨_,_,rfl,_⟩:=r;rfl
  ·cases h
 ·split at h
  ·rename_i hl;split at h
   ·rename_i hc;cases h;have hv:=Nz S hl hc.2 r;subst hv;refine⟨hc.1 ▸ ao1 S hl,?_⟩;obtain⟨base,cap,hh,_⟩:=S.sF _ _ hl;rw[hh];rfl
   ·cases h
  ·cases h
 ·cases h;have r:v=_:=r;subst r;exact⟨⟨[],rfl,by simp,by simp,by simp,fun k=>by rename_i base cap;cases base<;>simp [am,loadCells,loadCellsFrom]⟩,rfl⟩
 ·cases h
theorem abm(z:Array aMu)(n:Nat):(bt z n).size=n*z.size:=by simp [bt]
def alQ {sz cap:Nat}{e:aMz}{us:List aMu}{zs:Array aMu}{vA:Bool}(Pp:∀r∈rows,r.length=sz)
 (hr:kQ E' rows.flatten us) (zu:∀u∈us,u.oneCell'=true) (hw:E'.w.heap[b]? =some (.cells c e (0,0))) (hc:c.toList=us++zs.toList) (hz:zs.size=(cap-rows.length)*sz) (hle:rows.length<=cap):
 rz E' (.mE vA sz rows) (.slice (some ⟨b,0,none⟩) rows.length cap):=by
 have hus:us.length=rows.length*sz:=by rw[hr.length,Cb Pp]
 refine⟨some ⟨b,0,none⟩,cap,rfl,hle,by simp,Pp,fun a ha _=>?_⟩;simp only[aj]at ha;subst ha;refine⟨rfl,c,e,hw,?_,?_⟩
 ·have:c.size=rows.length*sz+(cap-rows.length)*sz:=by grind [bj]
  rw[this,<-ax]
  grind
 grind
theorem alR(J:jX)(dst:Option Tmp)(x:AV)(rd:List Nat)(l:Nat)(o:kp)(p:Prop):
 J.app dst {val:=x,rd,up:=[(l,o)],pre:=p}=jX.put {J with heap:=J.heap.set l o} dst x:=by
 cases dst<;>simp [jX.app,mN,jX.put]
theorem aiP(J:jX)(dst:Option Tmp)(x:AV)(rd:List Nat)(o:kp)(p:Prop):
 J.app dst {val:=x,rd,nw:=[o],pre:=p}=jX.put {J with heap:=J.heap++[o]} dst x:=by
 cases dst<;>simp [jX.app,mN,jX.put]
def aqd (S:nr C U J a w){u e:aMz} {sz bytes:Nat} {vx vy:aMu} (ht:oQ C.P t=some (e,sz,bytes)) (hu:pK C.P u=true)
 (hz:pX C.P e=some z) (hzl:z.length=sz/\0<sz/\0<bytes) {im:Bool} (h:VS im J sz bytes x y=some ef) (hp:ef.pre)
 (rx:pO (C.env U J.heap w) x vx) (ry:pO (C.env U J.heap w) y vy):
 ∃v w' U',(an #[t,u] ty #[vx,vy]).run C.P w=.ok v w'/\nr C U' (J.app dst ef) (a.put dst v) w':=by
 obtain⟨hut,i,hi,rfl,rfl⟩:=Qw ht
 obtain⟨d,hd,hni⟩:∃d,C.P.underlying u=some d/\∀k,d≠ .int k:=by
  grind [pK]
 obtain⟨zv,hzi,hzs⟩:∃zv,i.zero=some zv/\zv.cells.size=i.size:=by
  grind [pX]
 unfold VS at h;split at h
 ·cases h
 rename_i rd ys anS;obtain⟨⟨us,rus,lus,aId,axJ,aDn⟩,ar9⟩:=anT (P:=C.P) S anS ry;simp only[tg.env]at aDn;have aAB:(am i.size ys.length vy).run C.P w=.ok us.toArray w:=aDn w.drawn;split at h
 ·
  rename_i l n;split at h
  ·rename_i vA Po rows hl;split at h
   ·rename_i hc;obtain⟨rfl,hn⟩:=hc;cases h;simp only at hp;have hvx:=Nz S hl hn rx;subst hvx;obtain⟨base,cap,hh,h2,h3,h4,h5⟩:=S.sF l _ hl
    have Pp:∀r∈rows++ys,r.length=i.size:=by
     grind
    have me:l<J.heap.length:=(aw.1 hl).1
    have uA:∀{h':aMu}{w':aMv},(∃b m c,h'=.slice b m c)->(an #[t,u] ty #[U l,vy]).run C.P w=.ok h' w'->
     nr C (fun k=>if k=l then h' else U k) {J with heap:=J.heap.set l (.mE vA i.size (rows++ys))} a w'->
     ∃v w' U',(an #[t,u] ty #[U l,vy]).run C.P w=.ok v w'/\
      nr C U' (J.app dst {val:=.mE l (rows++ys).length,rd:=l::rd,up:=[(l,.mE vA i.size (rows++ys))],pre:=room (rows.length+ys.length) i.bytes}) (a.put dst v) w':=by
     intro h' w' hsl ub hS;refine⟨h',w',(fun k=>if k=l then h' else U k),ub,?_⟩
     have:=hS.put dst (x:=.mE l (rows++ys).length) (v:=h') ⟨by simpa [tg.env] using me,hsl,fun k hk=>by
      grind [tg.env,nO]⟩
     rw[alR];exact this
    by_cases aiO:rows.length+ys.length<=cap
    ·have ub:=aMl (w:=w) (ty:=ty) (base:=base) (sLen:=rows.length) (sCap:=cap) hut hi hd hni ar9 aAB aiO;by_cases G9:cap=0
     ·
      have hr0:rows=[]:=af (by omega);have hy0:ys=[]:=af (by omega);subst hr0 hy0;have hu0:us=[]:=by simpa using lus
      subst hu0;rw[<-hh]at ub
      have alS:(an #[t,u] ty #[U l,vy]).run C.P w=.ok (U l) w:=by
       rw[ub,hh];cases base<;>simp [storeCells]
      refine uA ⟨_,_,_,hh⟩ alS (S.avq hl (.inr rfl) (ar _) (fun _ _ _ _=>rfl) (fun _ _ _=>rfl) (fun _=>rfl) ⟨rfl,rfl⟩ (fun b hb=>.inl (by simpa using hb)) (fun b o hm=>.inl (by simpa using hm)) ?_);intro E' hle hw;rw[hh];exact⟨base,cap,by simp,by simp,h3,by simp,fun b hb hc=>absurd G9 hc⟩
     ·cases base with
      |none=>exact absurd (h3 rfl) G9
      |some b=>
       obtain⟨hsp,c,tc,hcb,hsz,rl,aIe⟩:=h5 b rfl G9;simp only[tg.env]at hcb;have hb:b=⟨b.block,b.off,none⟩:=by cases b;simp_all
       have e1:(rows.length+ys.length)*i.size<=cap*i.size:=au _ aiO;have e2:(rows.length+ys.length)*i.size=rows.length*i.size+ys.length*i.size:=ax ..
       have VT:=run_storeCells_at C.P b.block (b.off+rows.length*i.size) tc us 0 c w hcb (by omega) axJ;simp only[Nat.add_zero]at VT
       let c':Array aMu:=(c.toList.take (b.off+rows.length*i.size)++us++c.toList.drop (b.off+rows.length*i.size+us.length)).toArray
       have alS:(an #[t,u] ty #[U l,vy]).run C.P w=.ok (.slice (some b) (rows.length+ys.length) cap) (w.setRow b.block c'):=by
        grind [AB,ae]
       have aDo:∀o,o<b.off+rows.length*i.size->c'[o]? =c[o]? :=by
        grind [aW]
       refine uA ⟨_,_,_,rfl⟩ alS (S.avq hl ?_ (by simp) ?_ ?_ ?_ ⟨rfl,rfl⟩ ?_ ?_ ?_)
       ·grind
       ·intro b' o Gs hm;by_cases e:b'=b.block
        ·subst e;simp only[World.cell?];rw[setRow_heap w b.block c c' tc _ hcb,hcb];simp only[bZ,az,if_false];apply aDo;rw[hh]at hm;cases vA with
         |false=>exact absurd ⟨⟨rfl,G9⟩,fun h=>by cases h⟩ hm
         |true=>
          by_cases ho:o<b.off+rows.length*i.size
          ·exact ho
          ·exact absurd ⟨⟨rfl,G9⟩,fun _=>by omega⟩ hm
        grind [cell_setRow_other]
       ·intro b' Gs hbl;rw[hh]at hbl;exact setRow_other w b.block b' c' (fun e=>hbl ⟨e,G9⟩)
       ·intro x;by_cases e:x.block=b.block
        ·simp only[World.frozen?];rw[e,setRow_heap w b.block c c' tc _ hcb,hcb]
        grind [World.frozen?,setRow_other]
       ·intro b' Gs;left;rw[hh];exact Gs
       ·intro b' o hm;left;rw[hh];refine⟨hm.1,fun hi'=>?_⟩;have:=hm.2 hi';omega
       ·intro E' hle hw;refine⟨some b,cap,by simp,by simpa using aiO,by simp,Pp,fun b0 hb0 _=>?_⟩;simp only[aj]at hb0;subst hb0;refine⟨hsp,c',tc,by rw[hw];exact setRow_heap w b.block c c' tc _ hcb,?_,?_⟩
        ·have:c'.size=c.size:=by simp [c'];omega
         omega
        ·have rl':=kQ.mono hle _ _ (kQ.nb _ _ rl) rl;have ru':=kQ.mono hle _ _ (kQ.nb _ _ rus) rus;have:=rl'.append ru';rw[bl]
         have e3:(c'.toList.drop b.off).take ((rows++ys).length*i.size)=(c.toList.drop b.off).take (rows.length*i.size)++us:=by
          have hcl:b.off+rows.length*i.size<=c.toList.length:=by simp;omega
          have e4:c'.toList=c.toList.take b.off++((c.toList.drop b.off).take (rows.length*i.size)++(us++c.toList.drop (b.off+rows.length*i.size+us.length))):=by
           simp only[c',aP];rw[<-aP (c.toList.take b.off),<-bT]
          rw[e4,bi (by simp;omega),aY];simp only[b7,List.take_zero,List.nil_append];rw[<-aP];apply bb;simp only[List.length_append,bA,List.length_drop,lus,ax];omega
         rw[e3];exact⟨this,fun v hv=>(aF.1 hv).elim (aIe v) (axJ v)⟩
    ·
     have hold:=(ao1 (P:=C.P) S hl);obtain⟨os,ros,los,_,aAC,ayG⟩:=hold;rw[hh]at ayG;simp only[tg.env]at ayG;obtain⟨aKf,hle,ub⟩:=VU (w:=w) (ty:=ty) hut hi hd hni ar9 aDn ayG hzi (by omega) hp hzl.2.2;rw[<-hh]at ub;refine uA ⟨_,_,_,rfl⟩ ub (S.avq hl (.inl (by omega)) (by simp) ?_ ?_ ?_ ⟨rfl,rfl⟩ ?_ ?_ ?_)
     ·intro b o hb _;exact Nw {w with drawn:=w.drawn+1} _ hb
     ·intro b hb _;exact B8 {w with drawn:=w.drawn+1} _ hb
     ·intro x;rw[wE {w with drawn:=w.drawn+1} _ (by intro c' t' lo hi h;cases h;exact⟨rfl,rfl⟩)];rfl
     ·intro b hb;right;have:b=w.heap.size:=hb.1;omega
     ·intro b o hm;right;have:b=w.heap.size:=hm.1.1;omega
     ·intro E' aAD hw;have ro':=kQ.mono aAD _ _ (kQ.nb _ _ ros) ros;have ru':=kQ.mono aAD _ _ (kQ.nb _ _ rus) rus;have hll:(rows++ys).length=rows.length+ys.length:=by simp
      rw[<-hll];refine alQ (us:=os++us) Pp (by rw[bl];exact ro'.append ru') (fun v hv=>(aF.1 hv).elim (aAC v) (axJ v)) (by rw[hw];exact Km {w with drawn:=w.drawn+1} _) (by simp;rfl) ?_ (by omega);rw[abm,hzs,hll]
   ·cases h
  ·cases h
 ·
  rename_i Po rows;split at h
  ·rename_i hc;split at h
   case isFalse wN=>
    cases h;have hy0:ys=[]:=af (by omega);subst hy0;have hu0:us=[]:=by simpa using lus
    subst hu0;obtain⟨base,cap,rfl,h2,h3,h4,h5,h6⟩:=id rx;have G9:=h3 rfl;subst G9;have ub:=aMl (w:=w) (ty:=ty) (base:=base) (sLen:=rows.length) (sCap:=rows.length) hut hi hd hni ar9 aAB (by simp)
    have alS:(an #[t,u] ty #[.slice base rows.length rows.length,vy]).run C.P w=.ok (.slice base rows.length rows.length) w:=by
     rw[ub];cases base<;>simp [storeCells]
    refine⟨_,w,U,alS,?_⟩;have:=S.put dst rx;simpa [jX.app,mN,jX.put] using (by cases dst<;>simpa [jX.put] using this)
   rename_i wN;cases h;have Kp:=hp;obtain⟨os,ros,los,aIf,aAC,ayG⟩:=ao0 (P:=C.P) hc rx;obtain⟨base,cap,rfl,h2,h3,h4,h5,h6⟩:=rx;have G9:=h3 rfl;subst G9;simp only[tg.env]at ayG
   have Pp:∀r∈rows++ys,r.length=i.size:=by
    intro r hr;rcases aF.1 hr with hr|hr
    ·exact aIf r hr
    ·exact aId r hr
   have uA:∀{h':aMu}{w':aMv},(∃b m c,h'=.slice b m c)->(an #[t,u] ty #[.slice base rows.length rows.length,vy]).run C.P w=.ok h' w'->
    nr C (fun k=>if k=J.heap.length then h' else U k) {J with heap:=J.heap++[.mE im i.size (rows++ys)]} a w'->
    ∃v w' U',(an #[t,u] ty #[.slice base rows.length rows.length,vy]).run C.P w=.ok v w'/\
     nr C U' (J.app dst {val:=.mE J.heap.length (rows++ys).length,rd:=rd,nw:=[.mE im i.size (rows++ys)],pre:=room (rows.length+ys.length) i.bytes}) (a.put dst v) w':=by
    intro h' w' hsl ub hS;refine⟨h',w',(fun k=>if k=J.heap.length then h' else U k),ub,?_⟩
    have:=hS.put dst (x:=.mE J.heap.length (rows++ys).length) (v:=h') ⟨by simp [tg.env],hsl,fun k hk=>by
     simp only[tg.env,br (ar _),b7,aL,nO,aj]at hk;exact⟨by omega,fun _=>by simp [tg.env]⟩⟩
    rw[aiP];exact this
   by_cases aiO:rows.length+ys.length<=rows.length
   ·have hy0:ys=[]:=af (by omega);subst hy0
    have hr0:rows=[]:=by
     rcases wN with h|h
     ·exact af h
     ·simp at h
    subst hr0;have hu0:us=[]:=by simpa using lus
    subst hu0;have ub:=aMl (w:=w) (ty:=ty) (base:=base) (sLen:=0) (sCap:=0) hut hi hd hni ar9 aAB (by simp)
    have alS:(an #[t,u] ty #[.slice base 0 0,vy]).run C.P w=.ok (.slice base 0 0) w:=by
     rw[ub];cases base<;>simp [storeCells]
    refine uA ⟨_,_,_,rfl⟩ alS (S.XO (ar _) (fun _ _=>rfl) (fun _=>rfl) ⟨rfl,rfl⟩ ?_ ?_)
    ·intro b hb;cases base<;>simp [kp.block]at hb
    ·intro E' _ _;exact⟨base,0,rfl,by simp,fun _=>rfl,by simp,fun b _ h0=>absurd rfl h0⟩
   ·obtain⟨aKf,hle,ub⟩:=VU (w:=w) (ty:=ty) hut hi hd hni ar9 aDn ayG hzi (by omega) Kp hzl.2.2;refine uA ⟨_,_,_,rfl⟩ ub (S.XO (by simp) ?_ ?_ ⟨rfl,rfl⟩ ?_ ?_)
    ·intro b hb;exact B8 {w with drawn:=w.drawn+1} _ hb
    ·intro x;rw[wE {w with drawn:=w.drawn+1} _ (by intro c' t' lo hi h;cases h;exact⟨rfl,rfl⟩)];rfl
    ·intro b hb;have:b=w.heap.size:=hb.1;omega
    ·intro E' aAD hw;have ro':=kQ.mono aAD _ _ (kQ.nb _ _ ros) ros;have ru':=kQ.mono aAD _ _ (kQ.nb _ _ rus) rus;have hll:(rows++ys).length=rows.length+ys.length:=by simp
     rw[<-hll];refine alQ (us:=os++us) Pp (by rw[bl];exact ro'.append ru') (fun v hv=>(aF.1 hv).elim (aAC v) (axJ v)) (by rw[hw];exact Km {w with drawn:=w.drawn+1} _) (by simp;rfl) ?_ (by omega);rw[abm,hzs,hll]
  ·cases h
 ·cases h
end sound
section sound

theorem Kq(J:jX)(dst:Option Tmp)(x:AV)(rd:List Nat)(p:Prop):J.app dst {val:=x,rd,pre:=p}=J.put dst x:=by
 cases dst<;>simp [jX.app,mN,jX.put]
theorem lK(S:nr C U J a w){rd:List Nat}{m:Sem aMu}(h:∃v,m.run C.P w=.ok v w/\pO (C.env U J.heap w) x v):
 Am C J a w dst ((do pure (.value (<-m)):Sem Next).run C.P w) {val:=x,rd,pre:=p}:=by
 obtain⟨v,hr,rep⟩:=h;refine⟨.value v,v,w,U,by simp [hr],.inl rfl,?_⟩;rw[Kq];exact S.put dst rep
def axK {u:aMz}{o:Nat}(h:vH P t i=some (o,u)):∃fs f j,P.underlying t=some (.struct fs)/\fs[i]? =some f/\P.info? f.type=some j/\j.size≠0/\f.offset=o/\f.type=u:=by
 grind [vH]
def nr.aAE(S:nr C U J a w){cap sz:Nat}{BD:List (List AV)}{c':Array aMu}(hl:J.heap[l]? =some (.mE false sz rows))(hφ:U l=.slice (some ⟨b,off,none⟩) rows.length cap)(G9:cap≠0)
 (hle:rows.length<=cap) (hlen:BD.length=rows.length) (hh:w.heap[b]? =some (.cells c t (0,0))) (hsz:∀r∈BD,r.length=sz) (aiO:off+cap*sz<=c'.size)
 (hr:kQ (C.env U J.heap w) BD.flatten ((c'.toList.drop off).take (BD.length*sz))) (h1:∀u∈(c'.toList.drop off).take (BD.length*sz),u.oneCell'=true):
 nr C U {J with heap:=J.heap.set l (.mE false sz BD)} a (w.setRow b c'):=by
 have wN:∀b' o,¬ (kp.mE false sz rows).Ff (U l) b' o->b'≠b:=fun b' o hm e=>hm (by rw[hφ];exact⟨⟨e,G9⟩,fun h=>by cases h⟩)
 refine S.avn hl (by simp [nO,hlen]) (by simp) (fun b' o hm=>cell_setRow_other w b c' _ (wN b' o hm)) (fun b' hb=>setRow_other w b b' c' (fun e=>hb (by rw[hφ];exact⟨e,G9⟩))) (fun x=>?_) ⟨rfl,rfl⟩ (fun b' hb=>by rw[hφ]at hb ⊢;exact hb) (fun b' o hm=>by rw[hφ]at hm ⊢;exact⟨hm.1,fun h=>by cases h⟩) (fun E' le hw=>?_)
 ·by_cases e:x.block=b
  ·simp only[World.frozen?];rw[e,setRow_heap w b c c' t _ hh,hh]
  grind [World.frozen?,setRow_other]
 refine⟨some ⟨b,off,none⟩,cap,by rw[hlen];exact hφ,by rw[hlen];exact hle,by simp,hsz,?_⟩;intro a0 ha _;simp only[aj]at ha;subst ha;exact⟨rfl,c',t,by rw[hw];exact setRow_heap w b c c' t _ hh,aiO,kQ.mono le _ _ (kQ.nb _ _ hr) hr,h1⟩
def aAF(S:nr C U J a w){o sz:Nat}(hl:J.heap[l]? =some (.mE false sz rows))(hn:rows.length=n)(hi:rows[i]? =some r)
 (rv:pO (C.env U J.heap w) (.own l i n o sz) v):∃b off cap c t,U l=.slice (some ⟨b,off,none⟩) rows.length cap/\cap≠0/\rows.length<=cap/\v=.pointer (some ⟨b,off+i*sz+o,none⟩)/\w.heap[b]? =some (.cells c t (0,0))/\
   off+cap*sz<=c.size/\(∀q∈rows,q.length=sz)/\kQ (C.env U J.heap w) rows.flatten ((c.toList.drop off).take (rows.length*sz))/\∀u∈(c.toList.drop off).take (rows.length*sz),u.oneCell'=true:=by
 obtain⟨_,_,h⟩:=rv;obtain⟨b,off,m,cp,hφ,hv⟩:=(h rows.length (by simp [tg.env,hl,nO])).2 hn.symm;obtain⟨base,cap,hh,h2,h3,h4,h5⟩:=S.sF l _ hl;simp only[tg.env]at hφ;rw[hh]at hφ;simp only[Value.slice.injEq]at hφ;obtain⟨hb,_,_⟩:=hφ;subst hb;have me:i<rows.length:=(aw.1 hi).1;have G9:cap≠0:=by omega
 obtain⟨_,c,t,h6,h7,h8,h9⟩:=h5 _ rfl G9;exact⟨b,off,cap,c,t,hh,G9,h2,hv,h6,h7,h4,h8,h9⟩
theorem abn{sz:Nat}:∀{rows:List (List AV)}{i:Nat}{r:List AV},(∀q∈rows,q.length=sz)->rows[i]? =some r->rows.flatten.drop (i*sz)=r++(rows.drop (i+1)).flatten
 |q::rows,0,r,_,h=>by simp at h;subst h;simp
 |q::rows,i+1,r,hl,h=>by
  simp at h;have hq:q.length=sz:=hl q (by simp);have:=abn (fun p hp=>hl p (by simp [hp])) h
  grind [ax,List.drop_append,Nat.add_sub_cancel_left,bI]
theorem aAG(S:nr C U J a w){k o sz:Nat}(ht:qB C.P t=some (g,k))(hl:J.heap[l]? =some (.mE false sz rows))(hn:rows.length=n)
 (hi:rows[i]? =some r) (hx:l8 g k (r.drop o)=some x) (rv:pO (C.env U J.heap w) (.own l i n o sz) v):∃u,(aJ t v).run C.P w=.ok u w/\pO (C.env U J.heap w) x u:=by
 obtain⟨b,off,cap,c,t2,hφ,G9,hle,rfl,hh,aiO,hsz,rl,_⟩:=aAF S hl hn hi rv;have hrl:=rl.drop (i*sz);rw[abn hsz hi]at hrl;have hr:=hrl.take r.length;rw[bb rfl]at hr;have hr2:=hr.drop o;have hi':=M4 (C:=C) (w:=w) ht
 have hm:ar6 (C.env U J.heap w) b (off+i*sz+o) (r.drop o):=by
  refine⟨_,hr2,fun j u hj=>?_⟩
  grind [tg.env,World.cell?]
 obtain⟨u,hu,ru⟩:=XL (P:=C.P) (t:=t) hm hi'.1 hi'.2 hx
 grind [aJ,av,tg.env]
theorem ZE{sz:Nat}:∀{rows:List (List AV)}{i:Nat}{r q:List AV},(∀p∈rows,p.length=sz)->rows[i]? =some r->q.length=sz->
 (rows.set i q).flatten=rows.flatten.take (i*sz)++q++rows.flatten.drop (i*sz+sz)
 |p::rows,0,r,q,hl,h,hq=>by
  grind
 |p::rows,i+1,r,q,hl,h,hq=>by
  simp at h;have hp:p.length=sz:=hl p (by simp);have ih:=ZE (q:=q) (fun p hp=>hl p (by simp [hp])) h hq;simp only[List.set_cons_succ,aC,ih]
  grind [ax,List.take_append,List.drop_append,bI]
def aGn{L V:List W}{p k:Nat}(hV:V.length=k)(h:p+k<=n)(hL:off+n<=L.length):
 ((L.take (off+p)++V++L.drop (off+p+k)).drop off).take n=((L.drop off).take n).take p++V++((L.drop off).take n).drop (p+k):=by
 have e1:L.take (off+p)=L.take off++(L.drop off).take p:=by rw[bT]
 have e2:L.drop (off+p+k)=(L.drop off).drop (p+k):=by rw[aQ,bR]
 have hA:(L.take off).length=off:=by rw[bA];omega
 have hB:((L.drop off).take p).length=p:=by grind
 rw[e1,e2,aP,aP,bc hA]
 grind [aY,List.take_append,List.take_of_length_le]
def ayH(S:nr C U J a w){o k sz:Nat}{ys:List AV}{p:aMu}(ht:qB C.P t=some (g,k))(hl:J.heap[l]? =some (.mE false sz rows))(hn:rows.length=n)
 (hi:rows[i]? =some r) (hr:kQ (C.env U J.heap w) ys v.cells.toList) (h1:∀u∈v.cells.toList,u.oneCell'=true) (hk:ys.length=k) (aKd:o+k<=sz) (hp:pO (C.env U J.heap w) (.own l i n o sz) p):
 ∃w',(bp t p v).run C.P w=.ok () w'/\nr C U {J with heap:=J.heap.set l (.mE false sz (rows.set i (uL r o ys)))} a w':=by
 obtain⟨b,off,cap,c,t2,hφ,G9,hle,rfl,hh,aiO,hsz,rl,zu⟩:=aAF S hl hn hi hp;have me:i<rows.length:=(aw.1 hi).1;have hrl:r.length=sz:=hsz r (bP hi);have hvl:v.cells.size=k:=by have:=hr.length;simp at this;omega
 have hmul:i*sz+sz<=rows.length*sz:=by
  have:(i+1)*sz<=rows.length*sz:=au _ me
  grind
 have aLq:rows.length*sz<=cap*sz:=au _ hle;have VT:=run_storeCells_at C.P b (off+i*sz+o) t2 v.cells.toList 0 c w hh (by simp;omega) h1
 have aGm:(uL r o ys).length=sz:=by
  grind [uL]
 have hfl:rows.flatten.length=rows.length*sz:=Cb hsz
 have aIg:(rows.set i (uL r o ys)).flatten=rows.flatten.take (i*sz+o)++ys++rows.flatten.drop (i*sz+o+k):=by
  rw[ZE hsz hi aGm];have hd:=abn hsz hi
  have e1:rows.flatten.take (i*sz+o)=rows.flatten.take (i*sz)++r.take o:=by
   rw[bT,hd,List.take_append_of_le_length (by omega)]
  have e2:rows.flatten.drop (i*sz+o+k)=r.drop (o+k)++rows.flatten.drop (i*sz+sz):=by
   have e3:rows.flatten.drop (i*sz+sz)=(rows.drop (i+1)).flatten:=by
    rw[<-aQ,hd,<-hrl,bc];rfl
   rw[e3,bR,<-aQ,hd,bi (by omega)]
  grind [uL]
 let c':Array aMu:=(c.toList.take (off+i*sz+o)++v.cells.toList++c.toList.drop (off+i*sz+o+v.cells.toList.length)).toArray
 have hc':c'.toList=c.toList.take (off+i*sz+o)++v.cells.toList++c.toList.drop (off+i*sz+o+k):=by
  grind
 have hcs:c'.size=c.size:=by
  grind
 have aKg:(c'.toList.drop off).take (rows.length*sz)=((c.toList.drop off).take (rows.length*sz)).take (i*sz+o)++v.cells.toList++((c.toList.drop off).take (rows.length*sz)).drop (i*sz+o+k):=by
  rw[hc'];have hcl:c.toList.length=c.size:=by simp
  have:=aGn (L:=c.toList) (V:=v.cells.toList) (off:=off) (p:=i*sz+o) (k:=k) (n:=rows.length*sz) (by simpa using hvl) (by omega) (by omega)
  grind
 refine⟨_,?_,S.aAE hl hφ G9 hle (by rw[List.length_set]) hh (c':=c') (hsz:=?_) (by rw[hcs];exact aiO) ?_ ?_⟩
 ·have hs:=(M4 (C:=C) (w:=w) ht).2
  grind [bp,av,storeVar,ai,ae]
 ·grind
 ·rw[aIg,List.length_set,aKg];exact((rl.take _).append hr).append (rl.drop _)
 grind
theorem akr(_S:nr C U J a w){u:aMz}{o:Nat}(h:vH C.P t i=some (o,u))(rx:pO (C.env U J.heap w) x v):
 (∀l off,x=.ptr l off->∃v',(aN t v i).run C.P w=.ok v' w/\pO (C.env U J.heap w) (.ptr l (off+o)) v')/\
 (∀cs,x=.pp cs->∃v',(aN t v i).run C.P w=.ok v' w/\pO (C.env U J.heap w) (.pp (cs.drop o)) v')/\
 (∀l j n o' sz,x=.own l j n o' sz->∃v',(aN t v i).run C.P w=.ok v' w/\pO (C.env U J.heap w) (.own l j n (o'+o) sz) v'):=by
 obtain⟨fs,f,j,hu,hf,hj,hs,rfl,rfl⟩:=axK h;have hsz:(sizeOf f.type).run C.P w=.ok j.size w:=by simp [sizeOf,typeInfo,hj]
 have key:∀b off,(aN t (.pointer (some ⟨b,off,none⟩)) i).run C.P w=.ok (.pointer (some ⟨b,off+f.offset,none⟩)) w:=by
  simp_all [aN,run_underlying,av,fieldPlace,AB]
 refine⟨?_,?_,?_⟩
 ·rintro l off rfl;obtain⟨hl,b,hb,rfl⟩:=rx;exact⟨_,key b off,hl,b,hb,rfl⟩
 ·rintro cs rfl;obtain⟨b,off,rfl,rm⟩:=rx;exact⟨_,key b off,b,_,rfl,rm.drop _⟩
 ·rintro l j n o' sz rfl;obtain⟨hl,⟨ad,rfl⟩,hr⟩:=rx
  have aKh:(aN t (.pointer (some ad)) i).run C.P w=.ok (.pointer (some (ad.add f.offset))) w:=by
   simp_all [aN,run_underlying,av,fieldPlace]
  refine⟨_,aKh,hl,⟨_,rfl⟩,fun k hk=>?_⟩
  grind
def avr {o:Nat}{vs:Array aMu}(ha:(isAgg t).run P w= .ok g w)(hs:(sizeOf t).run P w= .ok n w)
 (r:kQ E cs vs.toList) (hl:l8 g n (cs.drop o)=some x):∃v,(part t vs o).run P w=.ok v w/\pO E x v:=by
 unfold l8 at hl;cases g with
 |true=>
  simp only at hl;split at hl
  ·cases hl;refine⟨.agg (vs.extract o (o+n)),by simp [part,ha,hs],_,rfl,?_⟩;have:=(r.drop o).take n
   simp_all
  ·cases hl
 |false=>
  cases hd:cs.drop o with
  |nil=>rw[hd]at hl;cases hl
  |cons c cs'=>
   rw[hd]at hl;injection hl with hl
   subst hl
   have h0:cs[o]? =some c:=by
    have:=congrArg (fun l:List AV=>l[0]?) hd;simpa using this
   obtain⟨v,hv,rv⟩:=r.get h0
   simp_all [part]
def ae7 {e:aMz}{sz bytes:Nat}{n:Int}(ht:oQ C.P t=some (e,sz,bytes))(hn:0<=n)
 (hr:rows[n.toNat]? =some r) (rx:pO (C.env U J.heap w) (.lS tt sz rows) v):∃v',(aH t v (.int k n)).run C.P w=.ok v' w/\pO (C.env U J.heap w) (.pp r) v':=by
 obtain⟨hu,i,hi,rfl,rfl⟩:=Qw ht;obtain⟨base,cap,rfl,h2,h3,h4,h5,h6⟩:=rx;have me:n.toNat<rows.length:=(aw.1 hr).1;have wN:rows≠[]:=by intro h;subst h;simp at me
 have hsz:(sizeOf e).run C.P w=.ok i.size w:=by simp [sizeOf,typeInfo,hi]
 cases base with
 |none=>have:=h4 rfl;omega
 |some b=>
  have hb:b=⟨b.block,b.off,none⟩:=by have:=h5 b rfl wN;cases b;simp_all
  obtain⟨_,hm⟩:=n8.get (h6 b rfl) hr;refine⟨.pointer (some ⟨b.block,b.off+n.toNat*i.size,none⟩),?_,b.block,_,rfl,hm⟩;have aGo:0<=n/\n<(rows.length:Int):=⟨hn,by omega⟩;simp only[aH,asIntOf,ai,aq,ae,run_underlying hu,aGo,and_self,jQ,hsz];rw[hb,AB]
def anU(S:nr C U J a w){e:aMz}{sz bytes m:Nat}{n:Int}(ht:oQ C.P t=some (e,sz,bytes))(hn:0<=n)
 (hl:J.heap[l]? =some (.mE true sz rows)) (hm:rows.length=m) (hr:rows[n.toNat]? =some r) (rx:pO (C.env U J.heap w) (.mE l m) v):
 ∃v',(aH t v (.int k n)).run C.P w=.ok v' w/\pO (C.env U J.heap w) (.pp r) v':=by
 have hv:=Nz S hl hm rx;subst hv;exact ae7 (tt:=false) ht hn hr (abl S hl)
theorem ajT(b:Addr)(h:b.spot=none)(k:Nat):b.add k=⟨b.block,b.off+k,none⟩:=by
 have hb:b=⟨b.block,b.off,none⟩:=by cases b;simp_all
 rw[hb,AB]
def Cc{n:Int}{y:Nat}{c:BoundsCode}(h:0<=n/\n<=y):(ay (.int k n) y c).run P w=.ok n.toNat w:=by
 simp [ay,asIntOf,h]
def Jg(S:nr C U J a w){d:Nat}{x:Option aMt}{n:Int}(h:BC J d x=some n):(x=none/\n=d)\/∃y k,x=some y/\a.eval y=.int k n:=by
 unfold BC at h;cases x with
 |none=>grind
 |some y=>
  right;simp only at h;have r:=S.ev y;split at h
  ·rename_i k m hm;cases h;rw[hm]at r;exact⟨y,k,rfl,r⟩
  ·cases h
def ZF(S:nr C U J a w){s:Bool}{len cap:Nat}{mx:Option aMt}{l h m:Int}(hl:BC J 0 lo=some l)(hh:BC J len hi=some h)(hm:BC J len mx=some m)
 (hb:0<=l/\l<=h/\h<=m/\m<=len) (hc:len<=cap) (hmx:mx≠none->hi≠none):
 (aD s len cap (lo.map a.eval) (hi.map a.eval) (mx.map a.eval)).run C.P w=.ok (l.toNat,h.toNat,if mx=none then cap else m.toNat) w:=by
 have e0:(0:Int)<=h:=by omega
 rcases Jg S hm with⟨rfl,rfl⟩|⟨ym,km,rfl,em⟩
 ·rcases Jg S hh with⟨rfl,rfl⟩|⟨yh,kh,rfl,eh⟩
  ·rcases Jg S hl with⟨rfl,rfl⟩|⟨yl,kl,rfl,el⟩
   ·simp [aD]
   ·have e3:∀c,(ay (.int kl l) len c).run C.P w=.ok l.toNat w:=fun c=>Cc (by omega)
    simp [aD,el,e3]
  ·have e1:∀c,(ay (.int kh h) cap c).run C.P w=.ok h.toNat w:=fun c=>Cc (by omega)
   rcases Jg S hl with⟨rfl,rfl⟩|⟨yl,kl,rfl,el⟩
   ·simp [aD,eh,e1]
   ·have e3:∀c,(ay (.int kl l) h.toNat c).run C.P w=.ok l.toNat w:=fun c=>Cc (by omega)
    simp_all [aD]
 ·rcases Jg S hh with⟨rfl,rfl⟩|⟨yh,kh,rfl,eh⟩
  ·grind
  ·have e1:∀c,(ay (.int kh h) m.toNat c).run C.P w=.ok h.toNat w:=fun c=>Cc (by omega)
   have e2:∀c,(ay (.int km m) cap c).run C.P w=.ok m.toNat w:=fun c=>Cc (by omega)
   rcases Jg S hl with⟨rfl,rfl⟩|⟨yl,kl,rfl,el⟩
   ·simp_all [aD]
   ·have e3:∀c,(ay (.int kl l) h.toNat c).run C.P w=.ok l.toNat w:=fun c=>Cc (by omega)
    simp_all [aD]
theorem ao2(S:nr C U J a w){e:aMz}{sz Po bytes:Nat}{mx:Option aMt}{l h m:Int}(ht:oQ C.P t=some (e,sz,bytes))
 (hl:BC J 0 lo=some l) (hh:BC J rows.length hi=some h) (hm:BC J rows.length mx=some m) (hsz:Po=sz\/rows.length=0) (hb:0<=l/\l<=h/\h<=m/\m<=rows.length)
 (hmx:(mx.isSome&&hi.isNone)=false) (rx:pO (C.env U J.heap w) (.lS tt Po rows) v):
 ∃v',(aS t v (lo.map a.eval) (hi.map a.eval) (mx.map a.eval)).run C.P w=.ok v' w/\
  pO (C.env U J.heap w) (.lS (adG mx tt h rows.length m) sz ((rows.take h.toNat).drop l.toNat)) v':=by
 obtain⟨hu,i,hi',rfl,rfl⟩:=Qw ht;obtain⟨base,cap,rfl,h2,h3,h4,h5,h6⟩:=rx;have Sz:(sizeOf e).run C.P w=.ok i.size w:=by simp [sizeOf,typeInfo,hi']
 have hbs:=ZF S (s:=true) (cap:=cap) hl hh hm hb h2 (by
  intro h1 h2
  simp_all)
 have hlen:((rows.take h.toNat).drop l.toNat).length=h.toNat-l.toNat:=by
  grind
 obtain⟨m',hm',hm1,hm2⟩:∃m',(if mx=none then cap else m.toNat)=m'/\(mx=none->m'=cap)/\(mx≠none->m'=m.toNat):=by
  grind
 have hm3:h.toNat<=m':=by
  grind
 rw[hm']at hbs;clear hm'
 have ub:(aS t (.slice base rows.length cap) (lo.map a.eval) (hi.map a.eval) (mx.map a.eval)).run C.P w=
  .ok (.slice (if m'=l.toNat then base else base.map (·.add (l.toNat*i.size))) (h.toNat-l.toNat) (m'-l.toNat)) w:=by
  simp_all [aS,run_underlying,Instr.slice]
 refine⟨_,ub,_,_,by rw[hlen],?_,?_,?_,?_,?_⟩
 ·rw[hlen];omega
 ·intro htt;rw[hlen];cases mx with
  |none=>
   grind [adG]
  |some y=>
   grind [adG]
 ·intro ao3;cases base with
  |none=>
   grind
  |some b=>
   grind
 ·intro b Gs wN;cases base with
  |none=>split at Gs<;>simp at Gs
  |some b0=>
   have Pp:rows≠[]:=by intro h0;subst h0;simp at wN
   grind [ajT]
 ·intro b Gs;by_cases Pp:rows=[]
  ·subst Pp;simp [n8]
  ·have aKi:Po=i.size:=by
    grind
   subst aKi;cases base with
   |none=>split at Gs<;>simp at Gs
   |some b0=>
    have hsp:=h5 b0 rfl Pp;have rr:=h6 b0 rfl;split at Gs
    ·rename_i heq;have hlh:h.toNat<=l.toNat:=by omega
     have:(rows.take h.toNat).drop l.toNat=[]:=List.drop_eq_nil_of_le (by rw[bA];omega);rw[this];trivial
    grind [ajT,n8.drop,n8.take]
theorem ayI(S:nr C U J a w){l h:Int}(ht:vz C.P t=true)(hl:BC J 0 lo=some l)(hh:BC J s.size hi=some h)(hb:0<=l/\l<=h/\h<=s.size):
 (aS t (.string s) (lo.map a.eval) (hi.map a.eval) none).run C.P w=.ok (.string (s.extract l.toNat h.toNat)) w:=by
 have hu:C.P.underlying t=some .string:=by
  grind [vz]
 have hbs:=ZF S (s:=false) (mx:=none) (cap:=s.size) (m:=s.size) hl hh rfl (by omega) (ar _) (by intro h;exact absurd rfl h);simp only[Option.map_none]at hbs;simp only[aS,ai,run_underlying hu,ae,Instr.slice,bZ,az,if_false,hbs,aq]
end sound
section sound

def asa{op:BinOp}{oy:aMt}{r:AV}{vx vy:aMu}(h:aoT op x y=some r)(rx:pO E x vx)(ry:pO E y vy):
 ∃v,(do eqGuard op t ox oy vx vy;binOp op t vx vy:Sem aMu).run C.P w=.ok v w/\pO E r v:=by
 unfold aoT at h;split at h
 ·rename_i k m k' n;simp only[pO]at rx ry;subst rx ry;split at h
  ·cases h
  ·rename_i hk;have OZ:k=k':=by simpa using hk
   subst OZ
   have hg:(eqGuard op t ox oy (.int k m) (.int k n)).run C.P w=.ok () w:=by
    unfold eqGuard;split<;>rfl
   cases op with
   |quo=>
    simp only at h;split at h
    ·cases h
    ·rename_i hz;cases h;exact⟨_,by simp [hg,binOp,Op.intDiv,hz],rfl⟩
   |rem=>
    simp only at h;split at h
    ·cases h
    ·rename_i hz;cases h;exact⟨_,by simp [hg,binOp,Op.intDiv,hz],rfl⟩
   |and=>cases h;exact⟨_,by simp only[ai,hg,ae,binOp];rw[if_neg hk];rfl,rfl⟩
   |or=>cases h;exact⟨_,by simp only[ai,hg,ae,binOp];rw[if_neg hk];rfl,rfl⟩
   |xor=>cases h;exact⟨_,by simp only[ai,hg,ae,binOp];rw[if_neg hk];rfl,rfl⟩
   |andNot=>cases h;exact⟨_,by simp only[ai,hg,ae,binOp];rw[if_neg hk];rfl,rfl⟩
   |_=>simp at h<;>subst h<;>refine⟨_,?_,rfl⟩<;>simp [hg,binOp,Op.intArith,Op.intCmp]
 ·rename_i s u;simp only[pO]at rx ry;subst rx ry
  have hg:(eqGuard op t ox oy (.string s) (.string u)).run C.P w=.ok () w:=by
   unfold eqGuard;split<;>rfl
  cases op with
  |add=>
   simp only at h;split at h
   ·rename_i hz;cases h
    have hz': ¬ ((s.size+u.size:Nat):Int)>IntKind.i64.max:=by
     have:IntKind.i64.max=9223372036854775807:=by decide
     rw[this];omega
    exact⟨_,by simp_all [binOp,Op.stringOp],rfl⟩
   ·cases h
  |_=>simp at h<;>subst h<;>refine⟨_,?_,rfl⟩<;>simp [hg,binOp,Op.stringOp]
 ·cases h
def ao4(h:tbl P t=true):P.underlying t=some .bool:=by
 grind [tbl]
def ao5{op:BinOp}{oy:aMt}{p q:Bool}:(eqGuard op t ox oy (.bool p) (.bool q)).run P w=.ok () w:=by
 unfold eqGuard;split<;>rfl
def aGp{p q:Bool}(h:tbl P t=true):(binOp .eql t (.bool p) (.bool q)).run P w=.ok (.bool (p==q)) w:=by
 simp_all [run_equal_bool,ao4,binOp]
def aGq{p q:Bool}(h:tbl P t=true):(binOp .neq t (.bool p) (.bool q)).run P w=.ok (.bool (!(p==q))) w:=by
 simp_all [run_equal_bool,ao4,binOp]
def ayJ(S:nr C U J a w){rd:List Nat}{r:Result Next}{o:Obj}(ho:∀c t lo hi,o=.cells c t (lo,hi)->lo=0/\hi=0)
 (hr:r=.ok (.value v) (World.more w o)) (rep:pO (C.env U J.heap (World.more w o)) x v):Am C J a w dst r {val:=x,rd,pre:=p}:=by
 refine⟨.value v,v,_,U,hr,.inl rfl,?_⟩;rw[Kq];exact(S.more o ho).put dst rep
def ao6(S:nr C U J a w){r:Result Next}{rd:List Nat}(hr:r=.ok (.value (.pointer (some ⟨w.heap.size,0,none⟩))) (World.more w (.cells c t)))
 (rep:kQ (C.env U J.heap w) cs c.toList) (h1:∀u∈c.toList,u.oneCell'=true):Am C J a w dst r {val:=.ptr J.heap.length 0,rd,nw:=[.cells cs],pre:=p}:=by
 obtain⟨S',le⟩:=S.name c t rep h1;refine⟨_,_,_,(fun l=>if l=J.heap.length then .pointer (some ⟨w.heap.size,0,none⟩)else U l),hr,.inl rfl,?_⟩;rw[aiP];exact S'.put dst ⟨by simp [tg.env],w.heap.size,by simp [tg.env],rfl⟩
def ag4(h:vz P t=true):P.underlying t=some .string:=by
 grind [vz]
def axL(h:aqb P t=some k):P.underlying t=some (.int k):=by
 grind [aqb]
def alU(h:(oQ P t).isSome=true):∃e,P.underlying t=some (.slice e):=by
 obtain⟨⟨e,sz,b⟩,hx⟩:=Option.isSome_iff_exists.1 h;exact⟨e,(Qw hx).1⟩
def ayK(S:nr C U J a w)(h:aoW C.P J t x=some ef)(rx:pO (C.env U J.heap w) x v):
 ∃y rd,ef={val:=y,rd}/\∃u,(bB #[t] ty #[v]).run C.P w=.ok u w/\pO (C.env U J.heap w) y u:=by
 unfold aoW at h;split at h
 ·split at h
  ·rename_i ht;cases h;simp only[pO]at rx;subst rx;exact⟨_,_,rfl,_,by simp [bB,run_underlying (ag4 ht)];rfl,rfl⟩
  ·cases h
 ·split at h
  ·rename_i ht;obtain⟨e,hu⟩:=alU ht;cases h;obtain⟨b,cap,rfl,_⟩:=rx;exact⟨_,_,rfl,_,by simp [bB,run_underlying hu];rfl,rfl⟩
  ·cases h
 ·split at h
  ·rename_i ht;obtain⟨e,hu⟩:=alU ht;split at h
   ·rename_i hl;split at h
    ·rename_i hn;cases h;have hv:=Nz S hl hn rx;subst hv;obtain⟨b,cap,hh,_⟩:=S.sF _ _ hl;refine⟨_,_,rfl,.int .i64 _,?_,rfl⟩;rw[hh,<-hn];simp [bB,run_underlying hu];rfl
    ·cases h
   ·cases h
  ·cases h
 ·cases h
theorem aks(S:nr C U J a w){e:aMz}{sz bytes:Nat}{n:Int}{rd:List Nat}(ht:oQ C.P t=some (e,sz,bytes))(hz:pX C.P e=some z)
 (hc:z.length=sz/\0<sz/\0<=n) (Kp:room n.toNat bytes/\n<2 ^ 62):
 Am C J a w dst ((do pure (.value (<-bg t (.int .i64 n) (.int .i64 n))):Sem Next).run C.P w)
  {val:=.mE J.heap.length n.toNat,rd,nw:=[.mE false sz (ak n.toNat z)],pre:=p}:=by
 obtain⟨hu,i,hi,rfl,rfl⟩:=Qw ht;obtain⟨zv,hzr,aAy,aIc⟩:=adJ (w:=w) hz;have hzl:zv.cells.size=i.size:=by have:=(aAy (C.env U J.heap w)).length;simp at this;omega
 have aFY:IntKind.i64.wrap n=n:=by
  grind [IntKind.wrap,IntKind.bits]
 have hti:(typeInfo e).run C.P w=.ok i w:=by simp [typeInfo,hi]
 have hsz:(sizeOf e).run C.P w=.ok i.size w:=by simp [sizeOf,typeInfo,hi]
 have hb:(i.bytes:Int)*n<=2 ^ 44:=by
  grind [room]
 have tP:kQ (C.env U J.heap w) (ak n.toNat z).flatten ((bo (n.toNat*i.size)).map (fun j=>(if n.toNat*i.size=0 then(#[]:Array aMu)else zv.cells)[j % (if n.toNat*i.size=0 then(#[]:Array aMu)else zv.cells).size]!)).toList:=by
  grind [ag3,Dg]
 have zu:∀u∈((bo (n.toNat*i.size)).map (fun j=>(if n.toNat*i.size=0 then(#[]:Array aMu)else zv.cells)[j % (if n.toNat*i.size=0 then(#[]:Array aMu)else zv.cells).size]!)).toList,u.oneCell'=true:=by
  grind [ag3,List.mem_flatten]
 generalize aqe:(bo (n.toNat*i.size)).map (fun j=>(if n.toNat*i.size=0 then(#[]:Array aMu)else zv.cells)[j % (if n.toNat*i.size=0 then(#[]:Array aMu)else zv.cells).size]!)=c at tP zu
 have hzs:∀r∈ak n.toNat z,r.length=i.size:=by
  grind
 have aKj:c.size=n.toNat*i.size:=by
  grind
 have axM:(c.toList.drop 0).take (n.toNat*i.size)=c.toList:=by
  grind [bj]
 have S':=S.XO (vA:=false) (sz:=i.size) (rows:=ak n.toNat z) (w':=World.more w (.cells c e)) (h':=.slice (some ⟨w.heap.size,0,none⟩) n.toNat n.toNat) (by simp) (fun b hb=>B8 w _ hb)
  (wE w _ (by grind)) ⟨rfl,rfl⟩ (by
    rintro b ⟨rfl,_⟩;exact ar _) (by
    intro E' le hw;refine⟨some ⟨w.heap.size,0,none⟩,n.toNat,by rw[bN],by grind,by simp,hzs,?_⟩;intro a0 ha _;simp only[aj]at ha;subst ha;refine⟨rfl,c,e,by rw[hw];exact Km w _,by rw[aKj];simp,?_,?_⟩
    ·rw[bN,axM];exact kQ.mono le _ _ (kQ.nb _ _ tP) tP
    grind)
 have S2:=S'.put dst (x:=.mE J.heap.length n.toNat) (v:=.slice (some ⟨w.heap.size,0,none⟩) n.toNat n.toNat) ⟨by simp [tg.env],⟨_,_,_,rfl⟩,fun k hk=>by
  grind [tg.env,nO]⟩
 have ub:((do pure (.value (<-bg t (.int .i64 n) (.int .i64 n))):Sem Next).run C.P w)=.ok (.value (.slice (some ⟨w.heap.size,0,none⟩) n.toNat n.toNat)) (World.more w (.cells c e)):=by
  have h1: ¬ (((n<0\/(i.bytes:Int)*n>2 ^ 48)\/n<0)\/n>n):=by omega
  by_cases h0:n.toNat*i.size=0
  ·simp only[h0,jQ]at aqe;simp only[bg,ai,run_underlying hu,ae,asInt,asIntOf,aq,hti,aFY,jP,bh,h1,if_false,run_askRoom,hsz,h0,jQ,newRow,run_newObj];rw[aqe];rfl
  ·simp only[h0,if_false]at aqe;simp only[bg,ai,run_underlying hu,ae,asInt,asIntOf,aq,hti,aFY,jP,bh,h1,if_false,run_askRoom,hsz,h0,hzr,newRow,run_newObj];rw[aqe];rfl
 rw[<-aiP J dst _ rd _ p]at S2;exact⟨_,_,_,_,ub,.inl rfl,S2⟩
theorem ag5(S:nr C U J a w){e:aMz}{len sz bytes:Nat}{vA:Bool}(ht:oQ C.P t=some (e,sz,bytes))
 (hz:pX C.P e=some z) (hl:z.length=sz/\len*sz<=16777216) (hf:XJ sz (ak len z) (parts.toList.map fun p=>(p.1,J.ev p.2))=some rows):
 Am C J a w dst ((do pure (.value (<-aI t len (parts.map fun(i,x)=>(i,a.eval x)))):Sem Next).run C.P w)
  {val:=.mE J.heap.length rows.length,nw:=[.mE vA sz rows]}:=by
 obtain⟨us,ub,hr,zu,hlen,h3,aAx⟩:=abi S ht hz hl hf;have hsz:us.size=len*sz:=by simpa using aAx
 have axM:(us.toList.drop 0).take (rows.length*sz)=us.toList:=by
  grind
 have S':=S.XO (vA:=vA) (sz:=sz) (rows:=rows) (w':=World.more w (.cells us e)) (h':=.slice (some ⟨w.heap.size,0,none⟩) len len) (by simp) (fun b hb=>B8 w _ hb)
  (wE w _ (by grind)) ⟨rfl,rfl⟩ (by
    rintro b ⟨rfl,_⟩;exact ar _) (by
    intro E' le hw;refine⟨some ⟨w.heap.size,0,none⟩,len,by rw[hlen],by omega,by simp,h3,?_⟩;intro a0 ha _;simp only[aj]at ha;subst ha;refine⟨rfl,us,e,by rw[hw];exact Km w _,by rw[hsz];simp,?_,?_⟩
    ·rw[axM];exact kQ.mono le _ _ (kQ.nb _ _ hr) hr
    ·rw[axM];exact zu)
 have S2:=S'.put dst (x:=.mE J.heap.length rows.length) (v:=.slice (some ⟨w.heap.size,0,none⟩) len len) ⟨by simp [tg.env],⟨_,_,_,rfl⟩,fun k hk=>by
  grind [tg.env,nO]⟩
 have aIh:((do pure (.value (<-aI t len (parts.map fun(i,x)=>(i,a.eval x)))):Sem Next).run C.P w)=.ok (.value (.slice (some ⟨w.heap.size,0,none⟩) len len)) (World.more w (.cells us e)):=by
  simp_all
 rw[<-aiP J dst _ [] _ True]at S2;exact⟨_,_,_,_,aIh,.inl rfl,S2⟩
def Am.of_eq{r r':Result Next}{e:wO}(h:r=r')(d:Am C J a w dst r' e):Am C J a w dst r e:=h ▸ d
def aDp{f:W->O}{l:List W}{x:O}(h:l.map f=[x]):∃y,l=[y]/\f y=x:=by
 simp_all
def aqf{f:W->O}{l:List W}{x x':O}(h:l.map f=[x,x']):∃y y',l=[y,y']/\f y=x/\f y'=x':=by
 cases l with
 |nil=>simp at h
 |cons y l=>cases l with
  |nil=>simp at h
  |cons z l=>cases l with
   |nil=>grind
   |cons _ _=>simp at h
def anV(S:nr C U J a w){b:Builtin}{args:Array aMt}{ts:Array aMz}{e:wO}(ho:o.op= .call {callee:= .builtin b,args,argTypes:=ts})
 (h:M2 C.P J b args.toList ts.toList (args.toList.map J.ev)=some e) (hp:e.pre):Am C J a w o.dst ((execOp a.eval o).run C.P w) e:=by
 obtain⟨ts,rfl⟩:∃l:List aMz,ts=l.toArray:=⟨ts.toList,by simp⟩;obtain⟨args,rfl⟩:∃l:List aMt,args=l.toArray:=⟨args.toList,by simp⟩;simp only at h
 have ub:(execOp a.eval o).run C.P w=(builtin b ts.toArray o.type (args.toArray.map fun|.const _=>true|_=>false) (args.toArray.map a.eval)).run C.P w:=by
  grind [execOp,resolve,invoke]
 refine Am.of_eq ub ?_;unfold M2 at h;split at h
 ·rename_i t x hx;obtain⟨ox,rfl,rfl⟩:=aDp hx;obtain⟨y,rd,rfl,hv⟩:=ayK (ty:=o.type) S h (S.ev ox)
  grind [lK,builtin]
 ·rename_i t u x y hx;obtain⟨ox,oy,rfl,rfl,rfl⟩:=aqf hx;split at h
  ·rename_i et sz bytes ht hu;split at h
   ·rename_i z hz;split at h
    ·rename_i hc;obtain⟨v,w',U',hr,hS⟩:=aqd (dst:=o.dst) (ty:=o.type) S ht hu hz hc h hp (S.ev ox) (S.ev oy);refine⟨.value v,v,w',U',?_,.inl rfl,hS⟩;simp [builtin,hr]
    ·cases h
   ·cases h
  ·cases h
 ·rename_i t u k m k' n hx;obtain⟨ox,oy,rfl,hx1,hx2⟩:=aqf hx;have r1:=S.ev ox;have r2:=S.ev oy;rw[hx1]at r1;rw[hx2]at r2;simp only[pO]at r1 r2;cases h;refine Am.of_eq ?_ (lK (rd:=[]) (p:=True) (m:=pure (.int k (if n>m then n else m))) S ⟨_,rfl,rfl⟩);simp [builtin,Builtin.max_,r1,r2,Builtin.max2]
 ·rename_i t u k m k' n hx;obtain⟨ox,oy,rfl,hx1,hx2⟩:=aqf hx;have r1:=S.ev ox;have r2:=S.ev oy;rw[hx1]at r1;rw[hx2]at r2;simp only[pO]at r1 r2;cases h;refine Am.of_eq ?_ (lK (rd:=[]) (p:=True) (m:=pure (.int k (if n<m then n else m))) S ⟨_,rfl,rfl⟩);simp [builtin,Builtin.min_,r1,r2,Builtin.min2]
 ·cases h
theorem NU(S:nr C U J a w):∀xs:List aMt,kQ (C.env U J.heap w) (xs.map J.ev) (xs.map a.eval)
 |[]=>rfl
 |x::xs=>⟨_,_,rfl,S.ev x,NU S xs⟩
end sound
open Go.MapKept
section

def nr.aDq(S:nr C U J a w):
 nr C (fun l=>if l=J.heap.length then .map (some w.heap.size)else U l) {J with heap:=J.heap++[.map []]} a (World.more w (.map #[] 0)):=(S.ar4 (z:=.map []) (h':=.map (some w.heap.size)) (w':=World.more w (.map #[] 0)) (by simp) (fun b hb=>B8 w _ hb) (wE w _ (by intro c t lo hi h;cases h)) ⟨rfl,rfl⟩ (fun b hb=>bX hb.symm) (fun E' _ hw=>⟨w.heap.size,#[],0,rfl,by rw[hw];exact Km _ _,rfl⟩)).1
def nr.aAH(S:nr C U J a w)(s:ByteArray):
 nr C (fun l=>if l=J.heap.length then .pointer (some ⟨w.heap.size,0,none⟩)else U l) {J with heap:=J.heap++[.iter s 0]} a (World.more w (.stringIter s 0)):=(S.ar4 (z:=.iter s 0) (h':=.pointer (some ⟨w.heap.size,0,none⟩)) (w':=World.more w (.stringIter s 0)) (by simp) (fun b hb=>B8 w _ hb) (wE w _ (by intro c t lo hi h;cases h)) ⟨rfl,rfl⟩ (fun b hb=>bX hb.symm) (fun E' _ hw=>⟨w.heap.size,rfl,by rw[hw];exact Km _ _⟩)).1
def nr.aAI(S:nr C U J a w){r:Nat}{es':List (AV×AV)}{xs xs':Array MapEntry}{cl cl':Nat}(hl:J.heap[l]? =some (.map es))(hφ:U l=.map (some r))
 (hw:w.heap[r]? =some (.map xs cl)) (hr:sN (C.env U J.heap w) es' xs'.toList):nr C U {J with heap:=J.heap.set l (.map es')} a (w.putObj r (.map xs' cl')):=by
 have aAJ:=(aT.1 hw).1;have XP:∀b,b≠r->(w.putObj r (.map xs' cl')).heap[b]? =w.heap[b]? :=fun b hb=>World.putObj_heap_other hb
 exact S.avn hl rfl (by rw[World.putObj_size];exact ar _) (by grind [World.cell?,World.putObj_heap_same]) (fun b hb=>XP b (fun e=>hb (by rw[hφ];exact e))) (fun x=>by grind [World.frozen?,World.putObj_heap_same]) ⟨rfl,rfl⟩ (fun b hb=>by rw[hφ]at hb ⊢;exact hb) (fun b o hb=>by rw[hφ]at hb ⊢;exact hb) (fun E' le hw2=>⟨r,xs',cl',hφ,by rw[hw2];exact World.putObj_heap_same aAJ,sN.mono le (sN.nb hr) hr⟩)
def nr.aDr(S:nr C U J a w){r:Nat}{s':ByteArray}{p p':Nat}(hl:J.heap[l]? =some (.iter s p))(hφ:U l=.pointer (some ⟨r,0,none⟩))
 (hw:w.heap[r]? =some (.stringIter s p)):nr C U {J with heap:=J.heap.set l (.iter s' p')} a (w.putObj r (.stringIter s' p')):=by
 have aAJ:=(aT.1 hw).1;have XP:∀b,b≠r->(w.putObj r (.stringIter s' p')).heap[b]? =w.heap[b]? :=fun b hb=>World.putObj_heap_other hb
 exact S.avn hl rfl (by rw[World.putObj_size];exact ar _) (by grind [World.cell?,World.putObj_heap_same]) (fun b hb=>XP b (fun e=>hb (by rw[hφ];exact e))) (fun x=>by grind [World.frozen?,World.putObj_heap_same]) ⟨rfl,rfl⟩ (fun b hb=>by rw[hφ]at hb ⊢;exact hb) (fun b o hb=>by rw[hφ]at hb ⊢;exact hb) (fun E' le hw2=>⟨r,hφ,by rw[hw2];exact World.putObj_heap_same aAJ⟩)
def avs(S:nr C U J a w){e:wO}(h:adI l J.heap[l]? =some e)(hv:pO (C.env U J.heap w) (.ptr l 0) v):
 ∃u w',(Instr.next v true ty).run C.P w=.ok u w'/\pO (C.env U (mN J.heap e.up) w') e.val u/\nr C U {J with heap:=mN J.heap e.up} a w'/\e.nw=[]:=by
 unfold adI at h;split at h
 ·rename_i s p hl;obtain⟨b,hφ,hb⟩:=S.sF l _ hl;have hb:w.heap[b]? =some (.stringIter s p):=hb;obtain⟨me,b',hφ',rfl⟩:=hv;have hφ':U l=.pointer (some ⟨b',0,none⟩):=hφ';have hbb:b'=b:=by grind
  subst hbb;split at h
  ·rename_i hp;cases h;have hb2:=(aT.1 hb).1;refine⟨.tuple #[.bool true,goInt p,.int .i32 (Utf8.decode s p).1],w.putObj b' (.stringIter s (p+(Utf8.decode s p).2)),?_,?_,S.aDr hl hφ hb,rfl⟩
   ·simp [Instr.next,getObj,setObj,Sem.run,hb,hp,World.putObj,aA]
   ·exact⟨_,rfl,_,_,rfl,rfl,_,_,rfl,rfl,_,_,rfl,rfl,rfl⟩
  ·rename_i hp;cases h;refine⟨.tuple #[.bool false],w,?_,⟨_,rfl,_,_,rfl,rfl,rfl⟩,by simpa [mN] using S,rfl⟩;simp [Instr.next,getObj,Sem.run,hb,hp,aA]
 ·cases h
def axN{z:AV}(h:tz1 P t=some z):∃v,(zeroValue t).run P w=.ok v w/\∀E,pO E z v:=by
 unfold tz1 at h;cases hi:P.info? t with
 |none=>simp [hi]at h
 |some i=>
  simp only[hi]at h;split at h
  ·rename_i b hz;cases h;exact⟨.bool b,by simp [zeroValue,typeInfo,hi,hz],fun E=>rfl⟩
  ·rename_i k n hz;cases h;exact⟨.int k n,by simp [zeroValue,typeInfo,hi,hz],fun E=>rfl⟩
  ·rename_i s hz;cases h;exact⟨.string s,by simp [zeroValue,typeInfo,hi,hz],fun E=>rfl⟩
  ·rename_i vs hz;cases h;exact⟨.agg vs,by simp [zeroValue,typeInfo,hi,hz],fun E=>⟨vs,rfl,XM E _⟩⟩
  ·cases h
def alV{z:AV}(h:abh P t=some z):∃k e,P.underlying t=some (.map k e)/\P.underlying k=some .string/\tz1 P e=some z:=by
 grind [abh]
def alh{E:D4}{s:ByteArray}{v:AV}{u:aMu}(hv:pO E v u): ∀(es:List (AV×AV))(xs:List MapEntry)(i:Nat),aMj es=true->sN E es xs->
 (∃j x e,yK s es=some x/\aU .string (.string s) xs i=some (some (i+j,e.val))/\xs[j]? =some e/\e.key=.string s/\pO E x e.val/\sN E (M3 s v es) (xs.modify j fun e=>{e with key:=.string s,val:=u}))\/
 (yK s es=none/\aU .string (.string s) xs i=some none/\∀b,sN E (M3 s v es) (xs++[{key:=.string s,val:=u,born:=b}]))
 |[],_,i,_,rfl=>.inr ⟨rfl,rfl,fun b=>⟨_,[],rfl,rfl,hv,rfl⟩⟩
 |(k,x)::es,xs,i,hs,⟨e,r,hx,r1,r2,r3⟩=>by
  subst hx;cases k with
  |str b=>
   have hs':aMj es=true:=hs;have hk:e.key=.string b:=r1;cases hb:s==b with
   |true=>
    have hsb:s=b:=(bytes_beq s b).1 hb;subst hsb;refine .inl ⟨0,x,e,?_,?_,rfl,hk,r2,?_⟩
    ·simp only[yK,hb,jK]
    ·grind [aU,bU]
    ·simp only[M3,hb,jK];exact⟨_,r,rfl,rfl,hv,r3⟩
   |false=>
    rcases alh hv es r (i+1) hs' r3 with⟨j,x',e',h1,h2,h3,h4,h5,h6⟩|⟨h1,h2,h3⟩
    ·refine .inl ⟨j+1,x',e',?_,?_,by simpa using h3,h4,h5,?_⟩
     ·grind [yK]
     ·grind [aU,bU]
     ·simp only[M3,hb,jL,List.modify_succ_cons];exact⟨e,_,rfl,r1,r2,h6⟩
    ·refine .inr ⟨?_,?_,fun q=>?_⟩
     ·grind [yK]
     ·grind [aU,bU]
     ·simp only[M3,hb,jL,List.cons_append];exact⟨e,_,rfl,r1,r2,h3 q⟩
  |_=>cases hs
def aqg(S:nr C U J a w){z:AV}(ht:abh C.P t=some z)(hl:J.heap[l]? =some (.map es))(hs:aMj es=true)
 (hv:pO (C.env U J.heap w) (.map l) v):∃u,(aX t v (.string s) false).run C.P w=.ok u w/\pO (C.env U J.heap w) ((yK s es).getD z) u:=by
 obtain⟨kt,et,hu,hk,hz⟩:=alV ht;obtain⟨zv,hzr,hzE⟩:=axN (w:=w) hz;obtain⟨r,xs,cl,hφ,hb,tP⟩:=S.sF l _ hl;have hb:w.heap[r]? =some (.map xs cl):=hb;obtain⟨_,rfl,_⟩:=hv;have hφ':(C.env U J.heap w).U l=.map (some r):=hφ;rw[hφ'];have hck:=run_checkKey (P:=C.P) (w:=w) hk (d:=.string) (k:=.string s) trivial xs.isEmpty 9999;rcases alh (s:=s) (v:=.any) (u:=undef) (E:=C.env U J.heap w) trivial es xs.toList 0 hs tP with⟨j,x,e,h1,h2,_,_,h5,_⟩|⟨h1,h2,_⟩
 ·refine⟨e.val,?_,by rw[h1];exact h5⟩;simp [aX,run_underlying hu,run_getObj_map hb,hck,run_findKey hk h2,aA]
 ·refine⟨zv,?_,by rw[h1];exact hzE _⟩;simp [aX,run_underlying hu,run_getObj_map hb,hck,run_findKey hk h2,hzr,aA]
def alW(S:nr C U J a w){z:AV}(ht:abh C.P t=some z)(hl:J.heap[l]? =some (.map es))(hs:aMj es=true)
 (hv:pO (C.env U J.heap w) (.map l) v):∃u,∃_:Unit,(aX t v (.string s) true).run C.P w=.ok u w/\pO (C.env U J.heap w) (aoY z l (yK s es)).val u:=by
 obtain⟨kt,et,hu,hk,hz⟩:=alV ht;obtain⟨zv,hzr,hzE⟩:=axN (w:=w) hz;obtain⟨r,xs,cl,hφ,hb,tP⟩:=S.sF l _ hl;have hb:w.heap[r]? =some (.map xs cl):=hb;obtain⟨_,rfl,_⟩:=hv;have hφ':(C.env U J.heap w).U l=.map (some r):=hφ;rw[hφ'];have hck:=run_checkKey (P:=C.P) (w:=w) hk (d:=.string) (k:=.string s) trivial xs.isEmpty 9999;rcases alh (s:=s) (v:=.any) (u:=undef) (E:=C.env U J.heap w) trivial es xs.toList 0 hs tP with⟨j,x,e,h1,h2,_,_,h5,_⟩|⟨h1,h2,_⟩
 ·refine⟨.tuple #[e.val,.bool true],(),?_,by rw[h1];exact⟨_,rfl,_,_,rfl,h5,_,_,rfl,rfl,rfl⟩⟩;simp [aX,run_underlying hu,run_getObj_map hb,hck,run_findKey hk h2,aA]
 ·refine⟨.tuple #[zv,.bool false],(),?_,by rw[h1];exact⟨_,rfl,_,_,rfl,hzE _,_,_,rfl,rfl,rfl⟩⟩;simp [aX,run_underlying hu,run_getObj_map hb,hck,run_findKey hk h2,hzr,aA]
def ZG(S:nr C U J a w){z:AV}(ht:abh C.P t=some z)(hl:J.heap[l]? =some (.map es))(hs:aMj es=true)
 (hv:pO (C.env U J.heap w) (.map l) v) (hy:pO (C.env U J.heap w) y u):∃w',(bG t v (.string s) u).run C.P w=.ok () w'/\nr C U {J with heap:=J.heap.set l (.map (M3 s y es))} a w':=by
 obtain⟨kt,et,hu,hk,hz⟩:=alV ht;obtain⟨r,xs,cl,hφ,hb,tP⟩:=S.sF l _ hl;have hb:w.heap[r]? =some (.map xs cl):=hb;obtain⟨_,rfl,_⟩:=hv;have hφ':(C.env U J.heap w).U l=.map (some r):=hφ;rw[hφ'];have hck:=run_checkKey (P:=C.P) (w:=w) hk (d:=.string) (k:=.string s) trivial false 9999;rcases alh (s:=s) (v:=y) (u:=u) (E:=C.env U J.heap w) hy es xs.toList 0 hs tP with⟨j,x,e,h1,h2,h3,h4,_,h6⟩|⟨h1,h2,h3⟩
 ·have hj:xs[j]? =some e:=by simpa using h3
  have h2':aU .string (.string s) xs.toList 0=some (some (j,e.val)):=by simpa using h2
  refine⟨w.putObj r (.map (xs.modify j fun e=>{e with key:=.string s,val:=u}) cl),?_,S.aAI hl hφ hb ?_⟩
  ·simp [bG,run_underlying hu,run_getObj_map hb,hck,run_findKey hk h2',hj,h4,run_keyThatStays (d:=.string) (k:=.string s) trivial,run_setObj_map _ hb,aA,World.putObj]
  grind
 ·refine⟨w.putObj r (.map (xs.push {key:=.string s,val:=u,born:=cl}) (cl+1)),?_,S.aAI hl hφ hb ?_⟩
  ·simp [bG,run_underlying hu,run_getObj_map hb,hck,run_findKey hk h2,run_setObj_map _ hb,aA,World.putObj]
  grind
end
section sound

def asb(S:nr C U J a w)(ht:qB C.P t=some (g,n))(hl:J.heap[l]? =some (.cells cs))(hx:l8 g n (cs.drop off)=some x)
 (r:pO (C.env U J.heap w) (.ptr l off) v):∃u,(aJ t v).run C.P w=.ok u w/\pO (C.env U J.heap w) x u:=by
 obtain⟨_,b,hφ,rfl⟩:=r;obtain⟨b2,c,t2,hφ2,hh,rl,_⟩:=S.sF l _ hl;have e:b2=b:=by grind [tg.env]
 subst e;have hi:=M4 (C:=C) (w:=w) ht;obtain⟨u,hu,ru⟩:=XL (P:=C.P) (t:=t) (alO hh rl off) hi.1 hi.2 hx
 grind [aJ,av,tg.env]
def adK(S:nr C U J a w): ∀{cs ds:List AV}{ns:List Nat}{vs:List aMu},vwL J.heap cs=some (ds,ns)->kQ (C.env U J.heap w) cs vs->kQ (C.env U J.heap w) ds vs
 |[],_,_,_,h,r=>by grind [vwL]
 |c::cs,ds,ns,vs,h,⟨u,us,hv,r1,r2⟩=>by
  unfold vwL at h;split at h
  ·cases ‹_::_=[]›
  ·rename_i l n cs' heq;simp only[aB]at heq;obtain⟨rfl,rfl⟩:=heq;split at h
   ·rename_i vA sz rows hl;split at h
    ·rename_i hn;split at h
     ·rename_i es ms he;simp only[aj,aE]at h;obtain⟨rfl,_⟩:=h;cases vA with
      |false=>exact⟨u,us,hv,r1,adK S he r2⟩
      |true=>
       have hu:=Nz S hl hn r1;subst hu;exact⟨_,us,hv,abl S hl,adK S he r2⟩
     ·cases h
    ·cases h
   ·cases h
  ·rename_i c' cs' _ heq;simp only[aB]at heq;obtain⟨rfl,rfl⟩:=heq;split at h
   ·rename_i es ms he;simp only[aj,aE]at h;obtain⟨rfl,_⟩:=h;exact⟨u,us,hv,r1,adK S he r2⟩
   ·cases h
def ayL(S:nr C U J a w){v:AV}{e:wO}(h:ldV J.heap l v=some e)(r:pO (C.env U J.heap w) v u):e.up=[]/\e.nw=[]/\e.pre=True/\pO (C.env U J.heap w) e.val u:=by
 unfold ldV at h;split at h
 ·split at h
  ·rename_i ds ns he;cases h;obtain⟨vs,hv,rl⟩:=r;exact⟨rfl,rfl,rfl,vs,hv,adK S he rl⟩
  ·cases h
 grind
theorem aDs(ht:qB C.P t=some (g,n))(hx:l8 g n cs=some x)
 (r:pO (C.env U J.heap w) (.pp cs) v):∃u,(aJ t v).run C.P w=.ok u w/\pO (C.env U J.heap w) x u:=by
 obtain⟨b,off,rfl,rm⟩:=r;have hi:=M4 (C:=C) (w:=w) ht;obtain⟨u,hu,ru⟩:=XL (P:=C.P) (t:=t) (aMk rm) hi.1 hi.2 hx
 grind [aJ,av,tg.env]
def ag6{m:Sem W}{f:W->Sem O}{x:W}{r:Result O}(h1:m.run P w=.ok x w)(h2:(f x).run P w=r):(m>>=f).run P w=r:=by
 rw[ai,h1];exact h2
def NV {t':aMz}{x y:aMt}(ht:avo P t=true):
 ((∀op,(eqGuard op t x y (.iface t' u) .nilIface).run P w=.ok () w)/\∀op,(eqGuard op t x y .nilIface .nilIface).run P w=.ok () w)/\
 ((binOp .eql t (.iface t' u) .nilIface).run P w=.ok (.bool false) w/\(binOp .neq t (.iface t' u) .nilIface).run P w=.ok (.bool true) w)/\
 (binOp .eql t .nilIface .nilIface).run P w=.ok (.bool true) w/\(binOp .neq t .nilIface .nilIface).run P w=.ok (.bool false) w:=by
 unfold avo at ht;split at ht
 ·rename_i ms hu;obtain⟨d,hd⟩:∃d,Op.maxDepth=d+1:=⟨_,rfl⟩
  have e1:(Op.equal t (.iface t' u) .nilIface).run P w=.ok false w:=by
   simp_all [Op.equal,Op.equalIn,run_underlying]
  have e2:(Op.equal t .nilIface .nilIface).run P w=.ok true w:=by
   unfold Op.equal;simp_all [Op.equalIn,run_underlying]
  have key:(Op.eqGuardIn Op.maxDepth t .nilIface .nilIface).run P w=.ok false w:=by
   simp_all [Op.eqGuardIn,run_underlying]
  have g1:∀op,(eqGuard op t x y (.iface t' u) .nilIface).run P w=.ok () w:=by
   simp_all [eqGuard]
  have hg:∀op,(eqGuard op t x y .nilIface .nilIface).run P w=.ok () w:=by
   simp_all [eqGuard]
  exact⟨⟨g1,hg⟩,⟨ag6 e1 rfl,ag6 e1 rfl⟩,ag6 e2 rfl,ag6 e2 rfl⟩
 ·cases ht
def aDt{op:BinOp}{y:aMt}{e:wO}(h:af1 P op t x y=some e)(r:pO E x v):
 ∃b,a.eval y=.slice none 0 0/\(do eqGuard op t ox y v (.slice none 0 0);binOp op t v (.slice none 0 0):Sem aMu).run P w=.ok (.bool b) w/\e={val:=.bool b}:=by
 have key:∀(base:Option Addr)(n c:Nat),(oQ P t).isSome=true->(do eqGuard .eql t ox y (.slice base n c) (.slice none 0 0);binOp .eql t (.slice base n c) (.slice none 0 0):Sem aMu).run P w=.ok (.bool base.isNone) w:=by
  intro base n c ht
  obtain⟨e',he'⟩:∃e',P.underlying t=some (.slice e'):=by
   grind [oQ]
  exact ag6 rfl (Lib.run_eql_slice_nil w t e' base n c 0 0 he')
 unfold af1 at h;split at h
 ·rename_i base n c;split at h
  ·rename_i ht;cases h;have r:v=_:=r;subst r;exact⟨_,rfl,key base n c ht,rfl⟩
  ·cases h
 ·split at h
  ·rename_i ht;cases h;obtain⟨base,cap,rfl,h2,_,h4,_⟩:=r;refine⟨_,rfl,key base _ cap ht.2,?_⟩;cases base with
   |none=>
    simp_all
   |some a=>rfl
  ·cases h
 ·cases h
theorem ou.take:∀{cs:List AV}{off:Nat}(k:Nat),ou E b off cs->ou E b off (cs.take k)
 |[],_,_,_=>by simp [ou]
 |_::_,_,0,_=>by simp [ou]
 |_::_,_,k+1,⟨h,r⟩=>by
  rw[List.take_succ_cons];exact⟨h,ou.take k r⟩
def alX{E:D4}{b sz:Nat}:∀{n:Nat}{cs ds:List AV}{off:Nat},alI sz n cs=some ds->ou E b off cs->ou E b (off+n*sz) ds
 |0,cs,ds,off,h,r=>by
  grind [alI,ou.take]
 |n+1,cs,ds,off,h,r=>by
  have:=alX (n:=n) h (r.drop sz)
  grind
def SB (S:nr C U J a w) {e:wO} (h:lC C.P J o.op=some e) (hp:e.pre):Am C J a w o.dst ((execOp a.eval o).run C.P w) e:=by
 cases ho:o.op with
 |move x=>
  rw[ho]at h;cases h;refine Am.of_eq ?_ (lK (rd:=[]) (p:=True) (m:=pure (a.eval x)) S ⟨_,rfl,S.ev x⟩);simp [execOp,ho]
 |assign x=>
  rw[ho]at h;cases h;refine Am.of_eq ?_ (lK (rd:=[]) (p:=True) (m:=pure (a.eval x)) S ⟨_,rfl,S.ev x⟩);simp [execOp,ho]
 |pick c x y=>
  rw[ho]at h;have hc:=S.ev c;simp only[lC]at h;split at h
  ·rename_i b hb;rw[hb]at hc;simp only[pO]at hc;cases h;refine Am.of_eq ?_ (lK (rd:=[]) (p:=True) (m:=pure (bif b then a.eval x else a.eval y)) S ⟨_,rfl,?_⟩)
   ·grind [execOp,asBool]
   ·cases b
    ·exact S.ev y
    ·exact S.ev x
  ·cases h
 |alloc t=>
  rw[ho]at h;simp only[lC]at h;split at h
  ·rename_i z hz;cases h;obtain⟨v,hv,hr,zu⟩:=adJ (w:=w) hz;refine ao6 (c:=v.cells) (t:=t) S ?_ (hr _) zu;simp only[execOp,ho,Instr.alloc,ai,hv,ae,newVar,newRow,run_newObj,aq];rfl
  ·cases h
 |box t x=>
  rw[ho]at h;simp only[lC]at h;split at h
  ·rename_i cs hc;cases h;refine ao6 (c:=(a.eval x).cells) (t:=t) S ?_ (HB hc (S.ev x)).1 (HB hc (S.ev x)).2;simp only[execOp,ho,Instr.box,ai,ae,newVar,newRow,run_newObj,aq];rfl
  ·cases h
 |build t parts=>
  rw[ho]at h;simp only[lC]at h
  grind [lK,ar8,execOp]
 |buildSlice t len parts=>
  rw[ho]at h;simp only[lC]at h;split at h
  ·rename_i et sz by' ht;split at h
   ·rename_i z hz;split at h
    ·rename_i hc;split at h
     ·rename_i rows hr;cases aDu:aDh t (aoX (parts.toList.map (·.2)))with
      |true=>
       grind [ag5,execOp]
      |false=>
      rw[aDu]at h;cases h;obtain⟨v,c,ub,tP⟩:=aiN S ht hz hc hr;refine ayJ S (o:=.cells c et) (by grind) (v:=v) ?_ tP;simp [execOp,ho,ub]
     ·cases h
    ·cases h
   ·cases h
  ·cases h
 |load t x=>
  rw[ho]at h;have hx:=S.ev x;simp only[lC]at h;split at h
  ·rename_i g n l off ht hp';rw[hp']at hx;split at h
   ·rename_i cs hl;split at h
    ·rename_i v hv;obtain⟨u,hu,ru⟩:=asb S ht hl hv hx;obtain⟨h1,h2,h3,h4⟩:=ayL S h ru;obtain⟨val,rd,up,nw,pre⟩:=e;simp only at h1 h2 h3 h4;subst h1 h2 h3;refine Am.of_eq ?_ (lK (rd:=rd) (p:=True) S ⟨u,hu,h4⟩);simp [execOp,ho]
    ·cases h
   ·cases h
  ·grind [lK,aDs,execOp]
  ·grind [lK,aAG,execOp]
  ·rename_i n rv ht hp';rw[hp']at hx;simp only[pO]at hx;unfold alJ at h;split at h
   case h_2=>cases h
   rename_i b o';split at h
   ·rename_i k hk;rw[aM]at h;obtain⟨m,hm,h⟩:=h;cases h;obtain⟨hd,hkv⟩:=aDj hk hm;obtain⟨v,hc,hv,_⟩:=S.know b o' hd;have:=hkv v hv;subst this;have hi:=M4 (C:=C) (w:=w) ht;refine Am.of_eq ?_ (lK (rd:=[]) (p:=True) (m:=aJ t (a.eval x)) S ⟨.int k m,?_,rfl⟩)
    ·simp [execOp,ho]
    ·rw[hx]
     have hM:ar6 (C.env U J.heap w) b o' [.int k m]:=⟨[.int k m],⟨_,_,rfl,rfl,rfl⟩,fun j u hj=>by
      cases j with
      |zero=>simp at hj;subst hj;exact hc
      |succ j=>simp at hj⟩
     obtain⟨u,hu,ru⟩:=XL (P:=C.P) (t:=t) hM hi.1 hi.2 (x:=.int k m) rfl;have ru:u=.int k m:=ru
     grind [aJ,av,tg.env]
   ·cases h
  ·cases h
 |store t x y=>
  rw[ho]at h;have hx:=S.ev x;simp only[lC]at h;split at h
  ·rename_i g n l off ys ht hp' hc;rw[hp']at hx;split at h
   ·rename_i cs hl;split at h
    ·rename_i asc;cases h;obtain⟨hr,h1⟩:=HB hc (S.ev y);obtain⟨w',ub,hS⟩:=ar7 S ht hl hr h1 asc.1 asc.2 hx;refine⟨.skip,undef,w',U,?_,.inr ⟨rfl,rfl⟩,?_⟩
     ·simp [execOp,ho,ub]
     ·rw[alR];exact hS.put _ trivial
    ·cases h
   ·cases h
  ·rename_i g n l i m o' sz ys ht hp' hc;rw[hp']at hx;split at h
   ·rename_i Po rows hl;split at h
    ·rename_i hcc;obtain⟨rfl,hm⟩:=hcc;split at h
     ·rename_i r hr';split at h
      ·rename_i asc;cases h;obtain⟨hr,h1⟩:=HB hc (S.ev y);obtain⟨w',ub,hS⟩:=ayH S ht hl hm hr' hr h1 asc.1 asc.2 hx;refine⟨.skip,undef,w',U,?_,.inr ⟨rfl,rfl⟩,?_⟩
       ·simp [execOp,ho,ub]
       ·rw[alR];exact hS.put _ trivial
      ·cases h
     ·cases h
    ·cases h
   ·cases h
  ·cases h
 |nilCheck x=>
  rw[ho]at h;have hx:=S.ev x;simp only[lC]at h;split at h
  ·rename_i l off hp';rw[hp']at hx;cases h;obtain⟨hl,b,hb,hv⟩:=hx;refine Am.of_eq ?_ (lK (rd:=[]) (p:=True) (m:=pure (a.eval x)) S ⟨_,rfl,hl,b,hb,hv⟩);simp [execOp,ho,hv]
  ·rename_i cs hp';rw[hp']at hx;cases h;obtain⟨b,off,hv,hm⟩:=hx;refine Am.of_eq ?_ (lK (rd:=[]) (p:=True) (m:=pure (a.eval x)) S ⟨_,rfl,b,off,hv,hm⟩);simp [execOp,ho,hv]
  ·rename_i f fs cs hp';rw[hp']at hx;cases h;obtain⟨f',c',hv,r1,r2⟩:=hx;refine Am.of_eq ?_ (lK (rd:=[]) (p:=True) (m:=pure (a.eval x)) S ⟨_,rfl,f',c',hv,r1,r2⟩);simp [execOp,ho,hv]
  ·cases h
 |binOp op t x y ty=>
  rw[ho]at h;simp only[lC]at h;split at h
  ·rename_i v hv;cases h;refine Am.of_eq ?_ (lK (rd:=[]) (p:=True) S (asa (t:=t) (ox:=x) (oy:=y) (w:=w) hv (S.ev x) (S.ev y)));simp [execOp,ho]
  ·have hx:=S.ev x;have hy:=S.ev y;unfold aoV at h;split at h
   ·rename_i e' he;have hq:=aDt (a:=a) (w:=w) (ox:=x) he hx;cases h;obtain⟨b,hb,hv,he2⟩:=hq;subst he2;refine Am.of_eq ?_ (lK (rd:=[]) (p:=True) (m:=(do eqGuard op t x y (a.eval x) (a.eval y);binOp op t (a.eval x) (a.eval y):Sem aMu)) S ⟨.bool b,?_,rfl⟩)
    all_goals grind [execOp]
   rename_i hnE;clear hnE;unfold aiL at h;split at h
   ·rename_i cs ds h1 h2 _;cases h;rw[h1]at hx;rw[h2]at hy;obtain⟨vs,hvs,r1⟩:=hx;obtain⟨us,hus,r2⟩:=hy;refine Am.of_eq ?_ (lK (rd:=[]) (p:=aoU C.P t cs ds) S ⟨.bool (eqB cs ds),(hp _ vs us w x y r1 r2).1,rfl⟩);simp [execOp,ho,hvs,hus]
   ·rename_i cs ds h1 h2 _;cases h;rw[h1]at hx;rw[h2]at hy;obtain⟨vs,hvs,r1⟩:=hx;obtain⟨us,hus,r2⟩:=hy;refine Am.of_eq ?_ (lK (rd:=[]) (p:=aoU C.P t cs ds) S ⟨.bool (!eqB cs ds),(hp _ vs us w x y r1 r2).2,rfl⟩);simp [execOp,ho,hvs,hus]
   ·rename_i p q h1 h2 _;split at h
    ·rename_i ht;cases h;rw[h1]at hx;rw[h2]at hy;simp only[pO]at hx hy;refine Am.of_eq ?_ (lK (rd:=[]) (p:=True) (m:=pure (.bool (p==q))) S ⟨_,rfl,rfl⟩)
     simp_all [execOp,ao5,aGp]
    ·cases h
   ·rename_i p q h1 h2 _;split at h
    ·rename_i ht;cases h;rw[h1]at hx;rw[h2]at hy;simp only[pO]at hx hy;refine Am.of_eq ?_ (lK (rd:=[]) (p:=True) (m:=pure (.bool (!(p==q)))) S ⟨_,rfl,rfl⟩)
     simp_all [execOp,ao5,aGq]
    ·cases h
   all_goals first
    |(cases h;done)
    |skip
   ·rename_i t' z h1 h2 _;split at h
    ·rename_i ht;cases h;rw[h1]at hx;rw[h2]at hy;obtain⟨u,hx,_⟩:=hx;have hy:a.eval y=.nilIface:=hy;refine Am.of_eq ?_ (lK (rd:=[]) (p:=True) (m:=pure (.bool false)) S ⟨_,rfl,rfl⟩);simp [execOp,ho,hx,hy,(NV (w:=w) (t':=t') (u:=u) (x:=x) (y:=y) ht).1.1,(NV (w:=w) (t':=t') (u:=u) (x:=x) (y:=y) ht).2.1.1]
    ·cases h
   ·rename_i t' z h1 h2 _;split at h
    ·rename_i ht;cases h;rw[h1]at hx;rw[h2]at hy;obtain⟨u,hx,_⟩:=hx;have hy:a.eval y=.nilIface:=hy;refine Am.of_eq ?_ (lK (rd:=[]) (p:=True) (m:=pure (.bool true)) S ⟨_,rfl,rfl⟩);simp [execOp,ho,hx,hy,(NV (w:=w) (t':=t') (u:=u) (x:=x) (y:=y) ht).1.1,(NV (w:=w) (t':=t') (u:=u) (x:=x) (y:=y) ht).2.1.2]
    ·cases h
   ·rename_i h1 h2 _;split at h
    ·rename_i ht;cases h;rw[h1]at hx;rw[h2]at hy;have hx:a.eval x=.nilIface:=hx;have hy:a.eval y=.nilIface:=hy;refine Am.of_eq ?_ (lK (rd:=[]) (p:=True) (m:=pure (.bool true)) S ⟨_,rfl,rfl⟩);simp [execOp,ho,hx,hy,(NV (w:=w) (t':=t) (u:=undef) (x:=x) (y:=y) ht).1.2,(NV (w:=w) (t':=t) (u:=undef) (x:=x) (y:=y) ht).2.2.1]
    ·cases h
   ·rename_i h1 h2 _;split at h
    ·rename_i ht;cases h;rw[h1]at hx;rw[h2]at hy;have hx:a.eval x=.nilIface:=hx;have hy:a.eval y=.nilIface:=hy;refine Am.of_eq ?_ (lK (rd:=[]) (p:=True) (m:=pure (.bool false)) S ⟨_,rfl,rfl⟩);simp [execOp,ho,hx,hy,(NV (w:=w) (t':=t) (u:=undef) (x:=x) (y:=y) ht).1.2,(NV (w:=w) (t':=t) (u:=undef) (x:=x) (y:=y) ht).2.2.2]
    ·cases h
 |unOp op t x=>
  rw[ho]at h;have hx:=S.ev x;simp only[lC]at h;split at h
  ·rename_i b hb;rw[hb]at hx;simp only[pO]at hx;cases h;refine Am.of_eq ?_ (lK (rd:=[]) (p:=True) (m:=pure (.bool !b)) S ⟨_,rfl,rfl⟩);simp [execOp,ho,hx,Op.unary]
  ·rename_i k n hb;rw[hb]at hx;simp only[pO]at hx;cases h;refine Am.of_eq ?_ (lK (rd:=[]) (p:=True) (m:=pure (.int k (k.wrap (0-n)))) S ⟨_,rfl,rfl⟩);simp [execOp,ho,hx,Op.unary,Op.intArith]
  ·rename_i k n hb;rw[hb]at hx;simp only[pO]at hx;cases h;refine Am.of_eq ?_ (lK (rd:=[]) (p:=True) (m:=Op.intBits .xor k (if k.signed then-1 else k.max) n) S ⟨_,rfl,rfl⟩);simp [execOp,ho,hx,Op.unary]
  ·cases h
 |convert s d x=>
  rw[ho]at h;have hx:=S.ev x;simp only[lC]at h;split at h
  ·rename_i v hv;rw[hv]at hx;simp only[pO]at hx;split at h
   ·rename_i hc;simp only[aR]at hc;cases h;refine Am.of_eq ?_ (lK (rd:=[]) (p:=True) (m:=pure (.string v)) S ⟨_,rfl,rfl⟩)
    simp_all [execOp,convert,run_underlying,ag4]
   ·cases h
  ·rename_i k n hv;rw[hv]at hx;simp only[pO]at hx;split at h
   ·rename_i k1 k2 h1 h2;cases h;refine Am.of_eq ?_ (lK (rd:=[]) (p:=True) (m:=pure (.int k2 (k2.wrap n))) S ⟨_,rfl,rfl⟩)
    simp_all [execOp,convert,run_underlying,axL,Conv.intToInt]
   ·rename_i k1 h1 h2;split at h
    ·rename_i hs;cases h;refine Am.of_eq ?_ (lK (rd:=[]) (p:=True) (m:=pure (.string (Utf8.encode n))) S ⟨_,rfl,rfl⟩)
     simp_all [execOp,convert,run_underlying,axL,ag4,Conv.intToString]
    ·cases h
   ·cases h
  ·cases h
 |makeInterface t x=>
  rw[ho]at h;simp only[lC]at h;split at h
  ·rename_i hc;cases h;refine Am.of_eq ?_ (lK (rd:=[]) (p:=True) (m:=pure (.iface t (a.eval x))) S ⟨_,rfl,_,rfl,S.ev x⟩);unfold si at hc;cases hu:C.P.underlying t with
   |none=>simp [hu]at hc
   |some d=>
    simp only[hu]at hc;cases d<;>simp_all [execOp,Instr.makeInterface,run_underlying hu]
  ·cases h
 |makeFunc fn f c=>
  rw[ho]at h;cases h;refine Am.of_eq ?_ (lK (rd:=[]) (p:=True) (m:=Instr.makeFunc fn (f.map a.eval) (c.map a.eval)) S ⟨_,rfl,_,_,rfl,?_,?_⟩)
  all_goals simp_all [execOp,NU]
 |makeSlice t x y=>
  rw[ho]at h;have hx:=S.ev x;have hy:=S.ev y;simp only[lC]at h
  grind [pO,aks,execOp]
 |slice t x lo hi mx=>
  rw[ho]at h;have hx:=S.ev x;simp only[lC]at h
  have hex:(execOp a.eval o).run C.P w=(do pure (.value (<-aS t (a.eval x) (lo.map a.eval) (hi.map a.eval) (mx.map a.eval))):Sem Next).run C.P w:=by
   simp [execOp,ho]
  refine Am.of_eq hex ?_;split at h
  ·rename_i et sz by' ht;split at h
   ·cases h
   ·rename_i hmx;have aKk:(mx.isSome&&hi.isNone)=false:=(Bool.not_eq_true _).mp hmx;unfold ag1 at h;split at h
    ·grind [lK,ao2]
    ·rename_i k n hv;rw[hv]at hx;split at h
     ·rename_i Po rows hl;split at h
      ·rename_i l hh m h1 h2 h3;split at h
       ·rename_i hc;obtain⟨rfl,hn,hc⟩:=hc;cases h;have hvv:=Nz S hl hn hx;have:=ao2 (tt:=false) S ht h1 h2 h3 (.inl rfl) hc aKk (abl S hl)
        grind [lK]
       ·cases h
      ·cases h
     ·cases h
    ·cases h
  ·split at h
   ·rename_i s ht hv;rw[hv]at hx;simp only[pO]at hx;split at h
    ·rename_i l hh h1 h2;split at h
     ·rename_i hc;cases h;exact lK S ⟨_,by grind [ayI],rfl⟩
     ·cases h
    ·cases h
   ·cases h
 |fieldAddr t x i=>
  rw[ho]at h;have hx:=S.ev x;simp only[lC]at h
  grind [execOp,lK,akr]
 |field t x i=>
  rw[ho]at h;have hx:=S.ev x;simp only[lC]at h;split at h
  ·rename_i f u cs hf hv;rw[hv]at hx;split at h
   ·rename_i g n ht;split at h
    ·rename_i v hl;cases h;obtain⟨vs,hvs,rl⟩:=hx;obtain⟨fs,fd,j,hu,hfi,hj,_,rfl,rfl⟩:=axK hf;have hi:=M4 (C:=C) (w:=w) ht;refine Am.of_eq ?_ (lK (rd:=[]) (p:=True) S (avr hi.1 hi.2 rl hl))
     simp_all [execOp,Instr.field,run_underlying,asAgg]
    ·cases h
   ·cases h
  ·cases h
 |indexAddr t x i=>
  rw[ho]at h;have hx:=S.ev x;have hi:=S.ev i;simp only[lC]at h
  have hex:(execOp a.eval o).run C.P w=(do pure (.value (<-aH t (a.eval x) (a.eval i))):Sem Next).run C.P w:=by
   simp [execOp,ho]
  refine Am.of_eq hex ?_;split at h
  ·rename_i et sz by' ht;split at h
   ·rename_i tt Po rows k n hv hn;rw[hv]at hx;rw[hn]at hi;simp only[pO]at hi;split at h
    ·rename_i hc;obtain⟨rfl,hc⟩:=hc;split at h
     ·rename_i r hr;cases h;have:=ae7 (k:=k) ht hc hr hx
      grind [lK]
     ·cases h
    ·cases h
   ·rename_i l m k n hv hn;rw[hv]at hx;rw[hn]at hi;simp only[pO]at hi;split at h
    ·rename_i Po rows hl;split at h
     ·rename_i hc;obtain⟨rfl,hc,hm⟩:=hc;split at h
      ·rename_i r hr;cases h;have:=anU (k:=k) S ht hc hl hm hr hx
       grind [lK]
      ·cases h
     ·cases h
    ·rename_i Po rows hl;split at h
     ·rename_i hc;obtain⟨rfl,hc,hm,me⟩:=hc;cases h;obtain⟨hu,ti,hti,rfl,rfl⟩:=Qw ht;have hv':=Nz S hl hm hx;obtain⟨base,cap,hh,h2,h3,h4,h5⟩:=S.sF l _ hl;have hsz:(sizeOf et).run C.P w=.ok ti.size w:=by simp [sizeOf,typeInfo,hti]
      cases base with
      |none=>have:=h3 rfl;omega
      |some b=>
       obtain⟨hsp,_⟩:=h5 b rfl (by omega);have hb:b=⟨b.block,b.off,none⟩:=by cases b;simp_all
       refine lK S ⟨.pointer (some ⟨b.block,b.off+n.toNat*ti.size,none⟩),?_,hx.1,⟨_,rfl⟩,?_⟩
       ·rw[hi,hv',hh];have aGo:0<=n/\n<(rows.length:Int):=⟨hc,by omega⟩;simp only[aH,asIntOf,ai,aq,ae,run_underlying hu,aGo,and_self,jQ,hsz];rw[hb,AB]
       ·intro k' OZ;simp only[tg.env,hl,nO,aj]at OZ;refine⟨by omega,fun _=>⟨b.block,b.off,rows.length,cap,?_,rfl⟩⟩
        grind [tg.env]
     ·cases h
    ·cases h
   ·cases h
  ·split at h
   ·rename_i len sz ht;split at h
    ·rename_i l off k n hv hn;rw[hv]at hx;rw[hn]at hi;simp only[pO]at hi;split at h
     ·rename_i hc;cases h;unfold ar5 at ht;split at ht
      ·rename_i n' e hu;split at ht
       ·rename_i ti hti;simp only[aj,aE]at ht;obtain⟨rfl,rfl⟩:=ht;obtain⟨hl,b,hb,hv'⟩:=hx;have hsz:(sizeOf e).run C.P w=.ok ti.size w:=by simp [sizeOf,typeInfo,hti]
        refine lK S ⟨.pointer (some ⟨b,off+n.toNat*ti.size,none⟩),?_,hl,b,hb,rfl⟩;rw[hi,hv'];simp only[aH,asIntOf,ai,aq,ae,run_underlying hu,av,hc,and_self,jQ,hsz];rw[AB]
       ·cases ht
      ·cases ht
     ·cases h
    ·rename_i cs k n hv hn;rw[hv]at hx;rw[hn]at hi;simp only[pO]at hi;split at h
     ·rename_i hc;rw[aM]at h;obtain⟨ds,hd,he⟩:=h;obtain rfl:=Option.some.inj he;unfold ar5 at ht;split at ht
      ·rename_i n' e hu;split at ht
       ·rename_i ti hti;simp only[aj,aE]at ht;obtain⟨rfl,rfl⟩:=ht;obtain⟨b,off,hv',rm⟩:=hx;have hsz:(sizeOf e).run C.P w=.ok ti.size w:=by simp [sizeOf,typeInfo,hti]
        refine lK S ⟨.pointer (some ⟨b,off+n.toNat*ti.size,none⟩),?_,b,_,rfl,alX hd rm⟩;rw[hi,hv'];simp only[aH,asIntOf,ai,aq,ae,run_underlying hu,av,hc,and_self,jQ,hsz];rw[AB]
       ·cases ht
      ·cases ht
     ·cases h
    ·rename_i b off k n hv hn;rw[hv]at hx;rw[hn]at hi;simp only[pO]at hi hx;split at h
     ·rename_i hc;cases h;unfold ar5 at ht;split at ht
      ·rename_i n' e hu;split at ht
       ·rename_i ti hti;simp only[aj,aE]at ht;obtain⟨rfl,rfl⟩:=ht;have hsz:(sizeOf e).run C.P w=.ok ti.size w:=by simp [sizeOf,typeInfo,hti]
        refine lK S ⟨.pointer (some ⟨b,off+n.toNat*ti.size,none⟩),?_,rfl⟩;rw[hi,hx];simp only[aH,asIntOf,ai,aq,ae,run_underlying hu,av,hc,and_self,jQ,hsz];rw[AB]
       ·cases ht
      ·cases ht
     ·cases h
    ·cases h
   ·cases h
 |index t x i=>
  rw[ho]at h;have hx:=S.ev x;have hi:=S.ev i;simp only[lC]at h;split at h
  ·rename_i s k n ht hv hn;rw[hv]at hx;rw[hn]at hi;simp only[pO]at hi hx;split at h
   ·rename_i hc;split at h
    ·rename_i b hb;cases h;refine Am.of_eq ?_ (lK (rd:=[]) (p:=True) (m:=pure (.int .u8 b.toNat)) S ⟨_,rfl,rfl⟩)
     simp_all [execOp,Instr.index,asIntOf,run_underlying,ag4]
    ·cases h
   ·cases h
  ·cases h
 |extract x i=>
  rw[ho]at h;have hx:=S.ev x;simp only[lC]at h;split at h
  ·rename_i vs hv;rw[hv]at hx;split at h
   ·rename_i v hi;cases h;obtain⟨us,hu,rl⟩:=hx;obtain⟨u,hu',ru⟩:=rl.get hi;refine Am.of_eq ?_ (lK (rd:=[]) (p:=True) (m:=pure u) S ⟨_,rfl,ru⟩)
    grind [execOp,Instr.extract]
   ·cases h
  ·cases h
 |call c=>
  obtain⟨cl,args,ts⟩:=c;cases cl with
  |builtin b=>
   rw[ho]at h;exact anV S ho h hp
  |value f=>rw[ho]at h;cases h
  |invoke r m=>rw[ho]at h;cases h
 |makeMap t r=>
  rw[ho]at h;cases r with
  |some r=>cases h
  |none=>
   cases h;have S':=S.aDq;refine⟨.value (.map (some w.heap.size)),.map (some w.heap.size),World.more w (.map #[] 0),(fun l=>if l=J.heap.length then .map (some w.heap.size)else U l),?_,.inl rfl,?_⟩
   ·simp_all [execOp,Instr.makeMap,World.more]
   ·rw[aiP];refine S'.put _ ⟨by simp [tg.env],by simp [tg.env],w.heap.size,by simp [tg.env,hdl]⟩
 |typeAssert x u t ok=>
  rw[ho]at h;cases ok with
  |false=>cases h
  |true=>
   have hx:=S.ev x;simp only[lC]at h;unfold aqc at h;split at h
   ·rename_i t' z VO;split at h
    ·rename_i hc;obtain⟨rfl,hc⟩:=hc;cases h;rw[VO]at hx;obtain⟨q,hq,hr⟩:=hx;refine Am.of_eq ?_ (lK (rd:=[]) (p:=True) (m:=pure (.tuple #[q,.bool true])) S ⟨_,rfl,_,rfl,_,_,rfl,hr,_,_,rfl,rfl,rfl⟩);unfold si at hc;cases hu:C.P.underlying t' with
     |none=>simp [hu]at hc
     |some d=>
      simp only[hu]at hc;cases d<;>simp_all [execOp,Instr.typeAssert,run_underlying hu]
    ·cases h
   ·cases h
 |lookup t x k ok=>
  rw[ho]at h;cases ok with
  |true=>
   have hx:=S.ev x;have hk:=S.ev k;simp only[lC]at h;split at h
   ·rename_i z l s ht VO OZ;rw[VO]at hx;rw[OZ]at hk;have hk:a.eval k=.string s:=hk;unfold aiM at h;split at h
    ·rename_i es hl;split at h
     ·rename_i hs;cases h;obtain⟨u,b,ub,tP⟩:=alW (s:=s) S ht hl hs hx;have hv:aoY z l (yK s es)={val:=(aoY z l (yK s es)).val,rd:=[l]}:=by cases yK s es<;>rfl
      grind [lK,execOp]
     ·cases h
    ·cases h
   ·cases h
  |false=>
   have hx:=S.ev x;have hk:=S.ev k;simp only[lC]at h;split at h
   ·rename_i z l s ht VO OZ;rw[VO]at hx;rw[OZ]at hk;have hk:a.eval k=.string s:=hk;unfold adH at h;split at h
    ·rename_i es hl;split at h
     ·rename_i hs;cases h;obtain⟨u,ub,tP⟩:=aqg (s:=s) S ht hl hs hx
      grind [lK,execOp]
     ·cases h
    ·cases h
   ·cases h
 |range t x=>
  rw[ho]at h;have hx:=S.ev x;simp only[lC]at h;split at h
  ·rename_i s ht hv;rw[hv]at hx;simp only[pO]at hx;cases h;have S':=S.aAH s;refine⟨.value (.pointer (some ⟨w.heap.size,0,none⟩)),.pointer (some ⟨w.heap.size,0,none⟩),World.more w (.stringIter s 0),(fun l=>if l=J.heap.length then .pointer (some ⟨w.heap.size,0,none⟩)else U l),?_,.inl rfl,?_⟩
   ·simp [execOp,ho,hx,Instr.range,run_underlying (ag4 ht),newObj,Sem.run,World.more,aA]
   ·rw[aiP];refine S'.put _ ⟨by simp [tg.env],w.heap.size,by simp [tg.env],rfl⟩
  ·cases h
 |next x st=>
  rw[ho]at h;cases st with
  |false=>cases h
  |true=>
   have hx:=S.ev x;simp only[lC]at h;split at h
   ·rename_i l hv;rw[hv]at hx;obtain⟨u,w',ub,tP,hS,hn⟩:=avs (ty:=o.type) S h hx;refine⟨.value u,u,w',U,?_,.inl rfl,?_⟩
    ·simp [execOp,ho,ub]
    ·have:=hS.put o.dst tP;cases hd:o.dst<;>simpa [jX.app,jX.put,hn,hd] using this
   ·cases h
 |mapUpdate t x k y=>
  rw[ho]at h;have hx:=S.ev x;have hk:=S.ev k;simp only[lC]at h;split at h
  ·rename_i z l s ht VO OZ;rw[VO]at hx;rw[OZ]at hk;have hk:a.eval k=.string s:=hk;unfold Ca at h;split at h
   ·rename_i es hl;split at h
    ·rename_i hs;cases h;obtain⟨w',ub,hS⟩:=ZG (s:=s) S ht hl hs hx (S.ev y);refine⟨.skip,undef,w',U,?_,.inr ⟨rfl,rfl⟩,?_⟩
     ·simp [execOp,ho,hk,ub]
     ·rw[alR];exact hS.put _ trivial
    ·cases h
   ·cases h
  ·cases h
 |insert t x k y=>
  rw[ho]at h;have hx:=S.ev x;have hk:=S.ev k;simp only[lC]at h;split at h
  ·rename_i z l s ht VO OZ;rw[VO]at hx;rw[OZ]at hk;have hk:a.eval k=.string s:=hk;unfold Ca at h;split at h
   ·rename_i es hl;split at h
    ·rename_i hs;cases h;obtain⟨w',ub,hS⟩:=ZG (s:=s) S ht hl hs hx (S.ev y);refine⟨.skip,undef,w',U,?_,.inr ⟨rfl,rfl⟩,?_⟩
     ·simp [execOp,ho,hk,ub]
     ·rw[alR];exact hS.put _ trivial
    ·cases h
   ·cases h
  ·cases h
 |_=>rw[ho]at h;cases h
end sound
inductive nW where
 |normal
 |exit (id:Nat)
 |goto (l:Nat)
 |ret
 |panic (x:AV)
inductive uP where
 |ret (r:AV)
 |panic (x:AV)
def uP.rep(E:D4):uP->Ending->Prop
 |.ret r,.returned v=>pO E r v
 |.panic x,.panicked chain=>∃v,chain=[{v,recovered:=false}]/\pO E x v
 |_,_=>False
def enters(P:aMy)(f:aMw):Bool:=
 match P.funcs[f]? with
 |some fn=>fn.body.isSome&&fn.name != "runtime.NumGoroutine"
 |none=>false
def BE(P:aMy)(f:aMw)(args:List AV)(J:jX)(K:uP->List kp->Prop):Prop:=
 enters P f=true/\∀(C:tg)(U:Nat->aMu)(a:Act)(w:aMv),C.P=P->nr C U J a w->∀vs:Array aMu,kQ (C.env U J.heap w) args vs.toList->
  Calls P f vs w fun e w'=>∃o U' H',K o H'/\nr C U' {J with heap:=H'} a w'/\o.rep (C.env U' H' w') e
def Kr(J J':jX):Prop:=∀(C:tg)(U:Nat->aMu)(a:Act)(w:aMv),nr C U J a w->∃U',nr C U' J' a w
theorem Kr.refl(J:jX):Kr J J:=fun _ U _ _ S=>⟨U,S⟩
theorem Kr.trans {σ'':jX}(h:Kr J J')(h':Kr J' σ''):Kr J σ'':=fun C U a w S=>
 let ⟨U',S'⟩:=h C U a w S
 h' C U' a w S'
def nF(J:jX):Op->Option (aMw×List AV)
 | .call {callee:= .value f,args,..}=>match J.ev f with
   |.func (.func fid) first cap=>some (fid,first++args.toList.map J.ev++cap)
   |_=>none
 |_=>none
def Gt(J:jX):Op->Option (Nat×List AV)
 | .call {callee:= .value f,args,..}=>match J.ev f with
   |.map l=>some (l,args.toList.map J.ev)
   |_=>none
 |_=>none
def Gu(J:jX):Op->Option (aMw×List AV)
 | .defer {callee:= .value f,args,..}=>match J.ev f with
   |.func (.func fid) first cap=>some (fid,first++args.toList.map J.ev++cap)
   |_=>none
 |_=>none
def VV(J:jX):Op->Option AV
 | .panic x=>match J.ev x with
   |.iface t y=>some (.iface t y)
   |_=>none
 |_=>none
def jX.dfr(J:jX)(p:aMw×List AV)(dst:Option Tmp):jX:={J with df:=p::J.df}.put dst (.uE undef)
def Fk(ro:Option Nat):Fence:={aZ with round:=ro}
def Jh{args:Array aMu}:CallsIn (Fk ro) n P f args w R↔Calls P f args w R:=by
 rw[<-callsIn_wide (n:=n)];exact Iff.rfl
def asd{tmps:Array aMu}{as body:Code}:RoundIn (Fk ro) n P l f tmps as body w R↔RoundIn aZ n P l f tmps as body w R:=Iff.rfl
def abo(P:aMy)(h:aMu)(w:aMv)(vs:Array aMu)(R:Ending->aMv->Prop):Prop:=
 ∀ (D:Nat) (rec:Loop),h= .func (.yield (D+1)) #[] #[]->w.heap[D+1]? =some (.loop rec)->
   RoundIn aZ 0 P (D+1) rec.fn ((rec.params.zip vs).foldl (fun tmps (t,a)=>tmps.setIfInBounds t a) rec.tmps) rec.assign rec.body w R
def M5(P:aMy)(l:Nat)(args:List AV)(J:jX)(K:uP->List kp->Prop):Prop:=
 (∃k kr st uK,J.heap[l]? =some (.loop k kr st uK)/\args.length=k.ps.size)/\∀(C:tg)(U:Nat->aMu)(a:Act)(w:aMv),C.P=P->nr C U J a w->∀vs:Array aMu,kQ (C.env U J.heap w) args vs.toList->
   abo P (U l) w vs fun e w'=>∃o U' H',K o H'/\nr C U' {J with heap:=H'} a w'/\o.rep (C.env U' H' w') e
def qE(ky:Array aMx)(o:aMx)(J:jX):Option Bool:=
 match o.guard with
 |none=>some true
 |some (j,want)=>match (ky[j]?).bind (·.dst)with
  |some d=>match J.kr[d]? with
   |some (.bool b)=>some (b==want)
   |some (.uE (.tuple _))=>some false
   |_=>none
  |none=>none
def UB (P:aMy) (ky:Array aMx):List aMx->(nW->jX->Prop)->jX->Prop
 |[],Q,J=>Q .normal J
 |o::rest,Q,J=>match qE ky o J with
  |none=>False
  |some b=>(b=true->match nF J o.op with
    |some (f,args)=>BE P f args J fun o' H'=>match o' with
     |.ret r=>UB P ky rest Q (jX.put {J with heap:=H'} o.dst r)
     |.panic x=>Q (.panic x) {J with heap:=H'}
    |none=>match Gt J o.op with
     |some (l,args)=>M5 P l args J fun o' H'=>match o' with
      |.ret r=>UB P ky rest Q (jX.put {J with heap:=H'} o.dst r)
      |.panic _=>False
     |none=>match lC P J o.op with
      |some e=>e.pre/\UB P ky rest Q (J.app o.dst e)
      |none=>match Gu J o.op with
       |some p=>UB P ky rest Q (J.dfr p o.dst)
       |none=>match VV J o.op with
        |some x=>Q (.panic x) J
        |none=>False)/\
   (b=false->UB P ky rest Q (J.put o.dst (.uE undef)))
def QC(C:tg)(Q:nW->jX->Prop):Exit->Act->aMv->Prop
 |.normal,a,w=>∃U J,nr C U J a w/\Q .normal J
 |.exit id,a,w=>∃U J,nr C U J a w/\Q (.exit id) J
 |.goto l,a,w=>∃U J,nr C U J a w/\Q (.goto l) J
 |.ret,a,w=>∃U J,nr C U J a w/\Q .ret J
 |.panic chain,a,w=>∃U J x v,nr C U J a w/\Q (.panic x) J/\chain=[{v,recovered:=false}]/\pO (C.env U J.heap w) x v
 |.outgrown,_,_=>False
section sound

theorem zj(S:nr C U J a w){ky:Array aMx}{b:Bool}(h:qE ky o J=some b):Region.wanted o (yielded ky a.tmps)=b:=by
 unfold qE at h;unfold Region.wanted;split at h
 ·rename_i hg;rw[hg];simpa using h
 ·rename_i j want hg;rw[hg];split at h
  ·rename_i d hd
   have hy:yielded ky a.tmps j=match a.tmps[d]? with|some (.bool b)=>some b|_=>none:=by
    unfold yielded;rw[hd];rfl
   split at h
   ·rename_i b' hs;obtain⟨v,hv,r⟩:=S.kr.get hs
    simp_all [pO]
   ·rename_i vs hs;obtain⟨v,hv,r⟩:=S.kr.get hs
    grind [pO]
   ·cases h
  ·cases h
def Ks(S:nr C U J a w)(h:nF J o.op=some (f,args))(hf:enters C.P f=true):
 ∃vs:Array aMu,(execOp a.eval o).run C.P w=.ok (.enter f vs) w/\kQ (C.env U J.heap w) args vs.toList:=by
 unfold nF at h;split at h
 ·rename_i x xs ts ho;split at h
  ·rename_i fid first cap hv
   cases h;have hx:=S.ev x;rw[hv]at hx;obtain⟨f',c',hx,r1,r2⟩:=hx;refine⟨f'++xs.map a.eval++c',?_,?_⟩
   ·unfold enters at hf;split at hf
    ·rename_i fn hfn;simp only[aR,bne_iff_ne,ne_eq]at hf;have ao3:fn.body≠none:=by intro hb;simp [hb]at hf
     simp [execOp,ho,resolve,hx,Deferred.ofValue,invoke,callFunc,hfn,hf.2,ao3]
    ·cases hf
   ·simp only[bW,bC];exact(r1.append (NU S xs.toList)).append r2
  ·cases h
 ·cases h
theorem NW{o:Op}{q:aMw×List AV}(h:nF J o=some q):∀c,o≠ .defer c:=by
 rintro c rfl;simp [nF]at h
theorem avt{o:Op}{q:Nat×List AV}(h:Gt J o=some q):∀c,o≠ .defer c:=by
 rintro c rfl;simp [Gt]at h
theorem ase{o:Op}{e:wO}(h:lC P J o=some e):∀c,o≠ .defer c:=by
 rintro c rfl;simp [lC]at h
def asf(S:nr C U J a w){D:Nat}{rec:Loop}(h:Gt J o.op=some (l,args))(hφ:U l=.func (.yield (D+1)) #[] #[])(hw:w.heap[D+1]? =some (.loop rec))(hn:args.length=rec.params.size):
 ∃vs:Array aMu,(execOp a.eval o).run C.P w=.ok (.round (D+1) rec.fn ((rec.params.zip vs).foldl (fun tmps (t,a)=>tmps.setIfInBounds t a) rec.tmps) rec.assign rec.body) w/\kQ (C.env U J.heap w) args vs.toList:=by
 unfold Gt at h;split at h
 ·rename_i x xs ts ho;split at h
  ·rename_i l' hv;cases h;have hx:=S.ev x;rw[hv]at hx;obtain⟨_,hx,_⟩:=hx;have VO:a.eval x=.func (.yield (D+1)) #[] #[]:=hx.trans hφ;refine⟨xs.map a.eval,?_,?_⟩
   all_goals grind [run_yield,execOp,resolve,Deferred.ofValue,invoke,bC,NU]
  ·cases h
 ·cases h
theorem aAK{o:Op}{q:AV}(h:VV J o=some q):∀c,o≠ .defer c:=by
 rintro c rfl;simp [VV]at h
def axO:Op->Bool
 |.defer _=>true
 |_=>false
def asg(S:nr C U J a w){p:aMw×List AV}(h:Gu J o.op=some p):
 ∃d:Deferred,(execOp a.eval o).run C.P w=.ok (.defer d) w/\agY d=false/\∃cap,d.target=.fn (.func p.1) cap/\kQ (C.env U J.heap w) p.2 (d.args++cap).toList:=by
 unfold Gu at h;split at h
 ·rename_i x xs ts ho;split at h
  ·rename_i fid first cap hv
   cases h;have hx:=S.ev x;rw[hv]at hx;obtain⟨f',c',hx,r1,r2⟩:=hx;refine⟨{target:=.fn (.func fid) c',args:=f'++xs.map a.eval},?_,rfl,c',rfl,?_⟩
   ·simp [execOp,ho,resolve,hx,Deferred.ofValue]
   ·simp only[bW,bC];exact(r1.append (NU S xs.toList)).append r2
  ·cases h
 ·cases h
def ayM(S:nr C U J a w)(h:VV J o.op=some x):∃v,(execOp a.eval o).run C.P w=.halt (.panic v) w/\pO (C.env U J.heap w) x v:=by
 unfold VV at h;split at h
 ·rename_i y ho;split at h
  ·rename_i t z hv;cases h;have hx:=S.ev y;rw[hv]at hx;obtain⟨u,hu,r⟩:=hx;refine⟨.iface t u,?_,u,rfl,r⟩;simp [execOp,ho,hu,Instr.panic]
  ·cases h
 ·cases h
def nr.dfr(S:nr C U J a w){p:aMw×List AV}{d:Deferred}{cap:Array aMu}(hm:agY d=false)(hd:d.target=.fn (.func p.1) cap)(hr:kQ (C.env U J.heap w) p.2 (d.args++cap).toList):
 nr C U (J.dfr p dst) ({a with defers:=d::a.defers}.put dst undef) w:=by
 have S1:nr C U {J with df:=p::J.df} {a with defers:=d::a.defers} w:=by
  refine {S with kr:=S.kr,defers:=⟨?_,?_,?_⟩}
  ·simp only[List.filter_cons,hm,az,if_false];exact S.defers.1
  ·intro d' hd' hm';rcases aG.1 hd' with rfl|hd'
   ·rw[hm]at hm';cases hm'
   ·exact S.defers.2.1 d' hd' hm'
  ·simp only[List.filter_cons,hm,bL,jQ];exact⟨d,_,cap,rfl,hd,hr,S.defers.2.2⟩
 exact S1.put dst rfl
def ag7 {ro:Option Nat} {P:aMy} (hP:C.P=P) {ky:Array aMx} {Q:nW->jX->Prop}: ∀ (rest:List aMx) (k:Nat),(ro=none\/rest.all (fun o=> !axO o.op)=true)->ky.toList.drop k=rest-> ∀ (U:Nat->aMu) (J:jX) (a:Act) (w:aMv),
 UB P ky rest Q J->nr C U J a w->wpOpsIn (Fk ro) 0 P ky (QC C Q) (List.range' k rest.length) a w
 |[],k,_,_,U,J,a,w,h,S=>⟨U,J,S,h⟩
 |o::rest,k,hro,hk,U,J,a,w,h,S=>by
  have ho:ky[k]? =some o:=by
   have:=congrArg (fun l:List aMx=>l[0]?) hk;simpa using this
  have qz:ky.toList.drop (k+1)=rest:=by
   grind [bn]
  have ih:=ag7 (ro:=ro) hP (Q:=Q) rest (k+1) (hro.imp id fun h=>by grind) qz;simp only[a8,List.range'_succ,wpOpsIn,ho];simp only[UB]at h;split at h
  ·exact h.elim
  ·rename_i b hb;rw[zj S hb];cases b with
   |false=>
    simp only[az,if_false];exact⟨fun _ _=>trivial,ih U _ _ w (h.2 rfl) (S.put o.dst rfl)⟩
   |true=>
    simp only[jQ];have h:=h.1 rfl;split at h
    ·rename_i f args hc;obtain⟨he,xk⟩:=h;subst hP;obtain⟨vs,ub,hr⟩:=Ks S hc he;refine⟨fun _ _=>trivial,?_⟩;rw[aO _ _ _ (NW hc),ub,bu];refine⟨fun h=>by simp [Fk,aZ]at h,Jh.2 ?_⟩;refine(xk C U a w rfl S vs hr).mono fun e w' ⟨o',U',H',hK,S',tP⟩=>?_
     cases o' with
     |ret r=>
      cases e with
      |returned v=>exact ih U' _ _ w' hK (S'.put o.dst tP)
      |panicked chain=>exact tP.elim
      |outgrown=>exact tP.elim
     |panic x=>
      cases e with
      |returned v=>exact tP.elim
      |panicked chain=>
       obtain⟨v,hc,hr⟩:=tP;exact⟨U',_,x,v,S',hK,hc,hr⟩
      |outgrown=>exact tP.elim
    ·split at h
     ·rename_i l args hy;obtain⟨⟨k,kr,st,uK,hl,hn⟩,xk⟩:=h;subst hP;obtain⟨D,rec,hφ,hw1,hw2,aah,rl⟩:=S.sF l _ hl;obtain⟨vs,ub,hr⟩:=asf S hy hφ hw1 (by rw[aah.1];exact hn);refine⟨fun _ _=>trivial,?_⟩;rw[aO _ _ _ (avt hy),ub,Oper.uponIn_round];refine⟨fun h=>by simp [Fk,aZ]at h,asd.2 ?_⟩;refine(xk C U a w rfl S vs hr D rec hφ hw1).mono fun e w' ⟨o',U',H',hK,S',tP⟩=>?_
      cases o' with
      |ret r=>
       cases e with
       |returned v=>exact ih U' _ _ w' hK (S'.put o.dst tP)
       |panicked chain=>exact tP.elim
       |outgrown=>exact tP.elim
      |panic x=>exact hK.elim
     ·split at h
      ·rename_i e he;obtain⟨n,v,w',U',hr,hn,S'⟩:=SB S (hP ▸ he) h.1;refine⟨fun _ _=>trivial,?_⟩
       grind [aO,ase,Oper.uponIn_value,Oper.uponIn_skip]
      ·split at h
       ·rename_i p hd;obtain⟨d,ub,hm,cap,aKl,hr⟩:=asg S hd
        have aKm:ro=none:=by
         rcases hro with hro|hro
         ·exact hro
         ·rw[List.all_cons,aR]at hro;unfold Gu at hd;split at hd
          ·rename_i ho';rw[ho']at hro;cases hro.1
          ·cases hd
        subst aKm;refine⟨fun _ _=>trivial,?_⟩;have aKn:Oper.semAt (Fk none).round a.eval o=execOp a.eval o:=Oper.semAt_none _ _;rw[aKn,<-hP,ub,Oper.uponIn_defer,hP];exact ih U _ _ w h (S.dfr hm aKl hr)
       ·split at h
        ·rename_i x hx;obtain⟨v,ub,hr⟩:=ayM S hx;refine⟨fun _ _=>trivial,?_⟩;rw[<-hP,aO _ _ _ (aAK hx),ub,Oper.uponIn_panic];exact⟨U,J,x,v,S,h,rfl,hr⟩
        ·exact h.elim
end sound
def Ku(P:aMy)(f:aMw)(args:List AV)(V:AV->Prop):Prop:=
 enters P f=true/\xB 0 args/\∀(C:tg)(U:Nat->aMu)(w:aMv),C.P=P->C.w0=w->C.N0=0->(∀b o,¬ C.M0 b o)->∀vs:Array aMu,kQ (C.env U [] w) args vs.toList->
  Calls P f vs w fun e w'=>∃r v U',V r/\e=.returned v/\pO (C.env U' [] w') r v/\w.heap.size<=w'.heap.size/\(∀b,b<w.heap.size->w'.heap[b]? =w.heap[b]?)/\
   (∀x,x.block<w.heap.size->w'.frozen? x=w.frozen? x)/\w'.output=w.output/\w'.os=w.os
section axP

theorem ag8(hh:∀b,b<w.heap.size->w'.heap[b]? =w.heap[b]?){o:Nat}(hb:b<w.heap.size):w'.cell? ⟨b,o,none⟩=w.cell? ⟨b,o,none⟩:=by
 simp only[World.cell?,hh b hb]
def nr.axP(S:nr C U J a w)(hs:w.heap.size<=w'.heap.size)(hh:∀b,b<w.heap.size->w'.heap[b]? =w.heap[b]?)(hf:∀x,x.block<w.heap.size->w'.frozen? x=w.frozen? x)(hr:w'.output=w.output/\w'.os=w.os):
 nr C U J a w':=by
 have le:(C.env U J.heap w).Le J.heap.length (C.env U J.heap w'):=
  tg.XH (ar _) (fun _ _=>⟨rfl,rfl⟩) (fun b o u hm hc=>⟨hm,by grind [ag8,Sy]⟩)
 refine {kr:=kQ.mono le _ _ (kQ.nb _ _ S.kr) S.kr,defers:=S.defers.P8 le hh,sF:=?_,apart:=S.apart,Fj:=S.Fj,size:=bw S.size hs,R3:=?_,tC:=?_,XG:=S.XG,Hz:=fun x hx=>by rw[hf x (ah hx S.size)];exact S.Hz x hx,rest:=⟨by rw[hr.1];exact S.rest.1,by rw[hr.2];exact S.rest.2⟩,low:=S.low,oe:=S.oe}
 ·intro l x hx;have r:=S.sF l x hx;exact rz.mono r le (fun b hb=>hh b (r.B9 hb))
 ·intro b o hb hm;rw[ag8 hh (ah hb S.size)];exact S.R3 b o hb hm
 ·intro b hb hm;rw[hh b (ah hb S.size)];exact S.tC b hb hm
def nr.callee(S:nr C U J a w):tg:=
 {P:=C.P,w0:=w,M0:=fun _ _=>False,A:=fun b o=>Sx U J.heap b o\/C.A b o,
  hA:=by
   rintro b o (⟨l,x,hx,hm⟩|hA)
   ·exact(S.sF l x hx).B9 (kp.sw hm)
   ·exact ah (C.hA b o hA) S.size
  hk:=fun b o h=>let ⟨v,h1,h2,_⟩:=S.know b o h;⟨v,h1,h2,fun f=>f⟩}
def nr.ayN(S:nr C U J a w)(U':Nat->aMu)(w1:aMv):(C.env U J.heap w1).Le 0 (S.callee.env U' [] w1):=by
 refine⟨Nat.zero_le _,fun l hl=>absurd hl (bF _),fun b o u hm hc=>⟨?_,hc⟩⟩;simp only[tg.env,nr.callee]at hm ⊢;rintro(⟨l,x,hx,_⟩|h)
 ·simp at hx
 ·exact hm h
def nr.ayO(S:nr C U J a w)(U':Nat->aMu)(w1:aMv):(S.callee.env U' [] w1).Le 0 (C.env U J.heap w1):=by
 refine⟨Nat.zero_le _,fun l hl=>absurd hl (bF _),fun b o u hm hc=>⟨?_,hc⟩⟩
 simp_all [tg.env,nr.callee]
def ag9{V:AV->Prop}{K:uP->List kp->Prop}(h:Ku P f args V)(hK:∀r,V r->K (.ret r) J.heap):BE P f args J K:=by
 obtain⟨he,hn,hc⟩:=h;refine⟨he,fun C U a w hP S vs hr=>?_⟩;refine(hc S.callee U w hP rfl rfl (fun _ _ h=>h) vs (kQ.mono (S.ayN U w) _ _ hn hr)).mono ?_;rintro e w' ⟨r,v,U',hV,rfl,rep,hs,hh,hf,ho⟩;refine⟨.ret r,U,J.heap,hK r hV,S.axP hs hh hf ho,?_⟩;exact pO.mono (S.ayO U' w') _ _ (pO.nb _ _ rep) rep
end axP
section loc

def aha{c:Call}{x:aMt}(h:x∈c.args):x∈(Op.call c).operands:=by
 grind [aa,Call.operands]
def abp{d:Nat}{x:Option aMt}(h:∀y,x=some y->J'.ev y=J.ev y):BC J' d x=BC J d x:=by
 cases x with
 |none=>rfl
 |some y=>simp only[BC,h y rfl]
theorem aiQ{H H':List kp}:∀{cs ds:List AV}{ns:List Nat},vwL H cs=some (ds,ns)->(∀l∈ns,H'[l]? =H[l]?)->vwL H' cs=some (ds,ns)
 |[],_,_,h,_=>by simp only[vwL]at h ⊢;exact h
 |c::cs,ds,ns,h,hr=>by
  unfold vwL at h ⊢;split at h
  ·cases ‹_::_=[]›
  ·rename_i l n cs' heq;simp only[aB]at heq;obtain⟨rfl,rfl⟩:=heq;split at h
   ·rename_i vA sz rows hl;split at h
    ·rename_i hn;split at h
     ·rename_i es ms he;simp only[aj,aE]at h;obtain⟨rfl,rfl⟩:=h;have:=aiQ he (fun k hk=>hr k (by simp [hk]))
      grind
     ·cases h
    ·cases h
   ·cases h
  ·rename_i c' cs' wN heq;simp only[aB]at heq;obtain⟨rfl,rfl⟩:=heq;split at h
   ·rename_i es ms he;simp only[aj,aE]at h;obtain⟨rfl,rfl⟩:=h;have:=aiQ he hr
    grind
   ·cases h
theorem avu{H:List kp}:∀{cs ds:List AV}{ns:List Nat},vwL H cs=some (ds,ns)->∀l∈ns,l<H.length
 |[],_,_,h=>by grind [vwL]
 |c::cs,ds,ns,h=>by
  unfold vwL at h;split at h
  ·cases ‹_::_=[]›
  ·rename_i l n cs' heq;simp only[aB]at heq;obtain⟨rfl,rfl⟩:=heq;split at h
   ·rename_i vA sz rows hl;split at h
    ·split at h
     ·rename_i es ms he;simp only[aj,aE]at h;obtain⟨_,rfl⟩:=h;intro k hk;simp only[aG]at hk;rcases hk with rfl|hk
      ·grind
      ·exact avu he k hk
     ·cases h
    ·cases h
   ·cases h
  ·rename_i c' cs' wN heq;simp only[aB]at heq;obtain⟨rfl,rfl⟩:=heq;split at h
   ·rename_i es ms he;simp only[aj,aE]at h;obtain⟨_,rfl⟩:=h;exact avu he
   ·cases h
theorem ayP{v:AV}{e:wO}(h:ldV H l v=some e)(hr:∀k∈e.rd,H'[k]? =H[k]?):ldV H' l v=some e:=by
 unfold ldV at h ⊢
 grind [aiQ]
theorem aAL{v:AV}{e:wO}(h:ldV H l v=some e):l∈e.rd/\e.up=[]/\∀k∈e.rd,k=l\/k<H.length:=by
 unfold ldV at h
 grind [avu]
theorem ash {o:Op} {e:wO} (h:lC P J o=some e) (XN: ∀x∈o.operands,J'.ev x=J.ev x) (hrd: ∀l∈e.rd,J'.heap[l]? =J.heap[l]?) (hnw:e.nw≠[]->J'.heap.length=J.heap.length):
 lC P J' o=some e:=by
 cases o with
 |move x=>simp only[lC]at h ⊢;grind [aa]
 |assign x=>simp only[lC]at h ⊢;grind [aa]
 |pick c x y=>simp only[lC]at h ⊢;grind [aa]
 |alloc t=>
  simp only[lC]at h ⊢
  grind
 |box t x=>
  simp only[lC]at h ⊢
  grind [aa]
 |build t parts=>
  simp only[lC]at h ⊢
  grind [aK,aa]
 |buildSlice t len parts=>
  simp only[lC]at h ⊢
  have:(parts.toList.map fun p=>(p.1,J'.ev p.2))=(parts.toList.map fun p=>(p.1,J.ev p.2)):=by
   grind [aK,aa]
  rw[this];cases aDu:aDh t (aoX (parts.toList.map (·.2)))with
  |false=>rw[aDu]at h;exact h
  |true=>
   rw[aDu]at h;have hn:J'.heap.length=J.heap.length:=hnw (by grind);rw[hn];exact h
 |load t x=>
  simp only[lC]at h ⊢;rw[XN x (by simp [aa])];split at h
  ·grind [aAL,ayP]
  all_goals grind
 |store t x y=>
  simp only[lC]at h ⊢;rw[XN x (by simp [aa]),XN y (by simp [aa])];split at h
  all_goals grind
 |nilCheck x=>simp only[lC]at h ⊢;grind [aa]
 |binOp op t x y ty=>simp only[lC]at h ⊢;grind [aa]
 |unOp op t x=>simp only[lC]at h ⊢;grind [aa]
 |convert s d x=>simp only[lC]at h ⊢;grind [aa]
 |makeInterface t x=>simp only[lC]at h ⊢;grind [aa]
 |makeFunc fn f c=>
  simp only[lC]at h ⊢
  grind [aK,aa]
 |makeSlice t x y=>
  simp only[lC]at h ⊢;rw[XN x (by simp [aa]),XN y (by simp [aa])];split at h
  all_goals grind
 |slice t x lo hi mx=>
  simp only[lC]at h ⊢;have hx:=XN x (by simp [aa]);have h1:∀d,BC J' d lo=BC J d lo:=fun d=>abp fun y hy=>XN y (by simp [aa,hy])
  have h2:∀d,BC J' d hi=BC J d hi:=fun d=>abp fun y hy=>XN y (by simp [aa,hy])
  have h3:∀d,BC J' d mx=BC J d mx:=fun d=>abp fun y hy=>XN y (by simp [aa,hy])
  rw[hx];simp only[ag1,h1,h2,h3]at h ⊢;split at h
  ·split at h
   ·cases h
   ·rename_i hmx;rw[if_neg hmx];split at h
    all_goals grind
  ·exact h
 |fieldAddr t x i=>simp only[lC]at h ⊢;grind [aa]
 |field t x i=>simp only[lC]at h ⊢;grind [aa]
 |indexAddr t x i=>
  simp only[lC]at h ⊢;rw[XN x (by simp [aa]),XN i (by simp [aa])];split at h
  ·split at h
   all_goals grind
  ·exact h
 |index t x i=>simp only[lC]at h ⊢;grind [aa]
 |extract x i=>simp only[lC]at h ⊢;grind [aa]
 |call c=>
  obtain⟨cl,args,ts⟩:=c;cases cl with
  |builtin b=>
   simp only[lC]at h ⊢;have e1:args.toList.map J'.ev=args.toList.map J.ev:=aK fun x hx=>XN x (aha (by simpa using hx))
   rw[e1];revert h;generalize args.toList.map J.ev=xs;generalize ts.toList=tl;intro h;unfold M2 at h ⊢;split at h
   ·rename_i t x;unfold aoW at h ⊢
    grind
   ·rename_i t u x y;split at h
    ·rename_i et sz by' ht hu;split at h
     ·split at h
      ·rename_i hc;rw[if_pos hc];unfold VS at h ⊢;split at h
       ·cases h
       ·rename_i rd ys anS
        have aea:∀l∈rd,l∈e.rd:=by
         grind
        have aIi:XK J' sz y=some (rd,ys):=by
         unfold XK at anS ⊢;split at anS
         all_goals grind
        rw[aIi];simp only;split at h
        all_goals grind
      ·cases h
     ·cases h
    ·cases h
   all_goals grind
  |value f=>cases h
  |invoke r m=>cases h
 |makeMap t r=>
  cases r with
  |some r=>cases h
  |none=>cases h;simp only[lC];rw[hnw (by simp)]
 |typeAssert x u t ok=>
  cases ok with
  |false=>cases h
  |true=>simp only[lC]at h ⊢;grind [aa]
 |lookup t x k ok=>
  cases ok with
  |true=>
   simp only[lC]at h ⊢;rw[XN x (by simp [aa]),XN k (by simp [aa])];split at h
   ·rename_i z l s ht VO OZ;unfold aiM at h ⊢;split at h
    ·rename_i es hl;split at h
     ·rename_i hs;cases h;rw[hrd l (by cases yK s es<;>simp [aoY]),hl];simp [hs]
     ·cases h
    ·cases h
   ·cases h
  |false=>
   simp only[lC]at h ⊢;rw[XN x (by simp [aa]),XN k (by simp [aa])];split at h
   ·rename_i z l s ht VO OZ;unfold adH at h ⊢
    grind
   ·cases h
 |range t x=>
  simp only[lC]at h ⊢
  grind [aa]
 |next x st=>
  cases st with
  |false=>cases h
  |true=>
   simp only[lC]at h ⊢;rw[XN x (by simp [aa])];split at h
   ·rename_i l hv;unfold adI at h ⊢
    grind
   ·cases h
 |mapUpdate t x k y=>
  simp only[lC]at h ⊢;rw[XN x (by simp [aa]),XN k (by simp [aa]),XN y (by simp [aa])];split at h
  ·rename_i z l s ht VO OZ;unfold Ca at h ⊢
   grind
  ·cases h
 |insert t x k y=>
  simp only[lC]at h ⊢;rw[XN x (by simp [aa]),XN k (by simp [aa]),XN y (by simp [aa])];split at h
  ·rename_i z l s ht VO OZ;unfold Ca at h ⊢
   grind
  ·cases h
 |_=>cases h
end loc
def An(o:aMx):List Nat:=(o.after.toList.filter (Region.binds .any)).map (·.on)
def aqh:List aMx->List Nat->List Nat
 |[],mE=>mE
 |o::os,mE=>aqh os (mE++[(An o).foldl (fun s d=>s|||2 ^ d|||mE.getD d 0) 0])
def pY(ky:Array aMx)(i j:Nat):Bool:=((aqh ky.toList []).getD j 0).testBit i
def Cd:Op->Bool
 |.call {callee:=.builtin _,..}=>false
 |.call _=>true
 |_=>false
def IN (ky:Array aMx):Bool:=
 Region.noSelect ky&&
 (let r:=aqh ky.toList []
  (bQ ky.size).all fun j=>match ky[j]? with
   |none=>true
   |some oj=>(An oj).all (· <j)&&(bQ j).all fun i=>match ky[i]? with
    |none=>true
    |some oi=>(r.getD j 0).testBit i||(oi.apart ky oj&& !(Cd oi.op&&Cd oj.op)))
structure Tr where
 j:Nat
 n:Nat
 e:wO
def Ji(a b:List Nat):Bool:=a.all fun x=> !b.contains x
def Ce(t:Tr)(e:wO):Bool:=
 Ji (t.e.up.map (·.1)) (e.rd++e.up.map (·.1))&&Ji (e.up.map (·.1)) t.e.rd&&
 (t.e.nw.isEmpty||(e.nw.isEmpty&&(e.rd++e.up.map (·.1)).all fun l=>decide (l<t.n)))&&
 ((!t.e.whole||(e.up.isEmpty&&e.nw.isEmpty))&&(!e.whole||(t.e.up.isEmpty&&t.e.nw.isEmpty)))
def ahb:Op->Bool
 |.move _|.assign _|.pick _ _ _|.load _ _|.store _ _ _|.binOp _ _ _ _ _|.unOp _ _ _|.fieldAddr _ _ _|.field _ _ _|.indexAddr _ _ _|.index _ _ _|.extract _ _=>true
 |_=>false
def XQ(o:aMx):Bool:=(match o.op with|.alloc _=>true|_=>false)&&o.guard.isNone
def abq (ky:Array aMx) (i j:Nat):Bool:=
 match ky[i]?,ky[j]? with
 |some oi,some oj=>XQ oi&&XQ oj&&(An oi).isEmpty&&(An oj).isEmpty&&decide (i<j)&&
  (bQ ky.size).all fun k=>k==i||k==j||(match ky[k]? with
    |none=>true
    |some o=>ahb o.op&&(pY ky i k==pY ky j k))
 |_,_=>false
def akt(ky:Array aMx)(i j:Nat):Bool:=pY ky i j||abq ky i j
def Dh(ky:Array aMx)(tr:List Tr)(j:Nat)(e:wO):Bool:=tr.all fun t=>Ce t e||akt ky t.j j
def NY(P:aMy)(f:aMw)(args:List AV)(J:jX)(e:wO):Prop:=
 ((∀l∈e.rd,l<J.heap.length)/\∀l∈e.up.map (·.1),l∈e.rd)/\
 ∀J':jX,(∀l∈e.rd,J'.heap[l]? =J.heap[l]?)->(e.nw≠[]->J'.heap.length=J.heap.length)->(e.whole=true->J'.heap=J.heap)->BE P f args J' (fun o H'=>o=.ret e.val/\H'=mN J'.heap e.up++e.nw)
def NY.move{e:wO}(h:NY P f args J e)(h1:∀l∈e.rd,J'.heap[l]? =J.heap[l]?)(h2:e.nw≠[]->J'.heap.length=J.heap.length)(h3:e.whole=true->J'.heap=J.heap):NY P f args J' e:=by
 refine⟨⟨fun l hl=>?_,h.1.2⟩,fun J2 k1 k2 k3=>h.2 J2 (fun l hl=>(k1 l hl).trans (h1 l hl)) (fun hn=>(k2 hn).trans (h2 hn)) (fun hw=>(k3 hw).trans (h3 hw))⟩;have me:=h.1.1 l hl
 grind
def xP(P:aMy)(ky:Array aMx)(o:aMx)(J:jX)(S:wO->Prop):Prop:=
 (qE ky o J=some false/\∀e,S e↔e={val:=.uE undef})\/
 (qE ky o J=some true/\nF J o.op=none/\∃e,lC P J o.op=some e/\e.pre/\∀e',S e'↔e'=e)\/
 (qE ky o J=some true/\∃f args V,nF J o.op=some (f,args)/\Ku P f args V/\(∃r,V r)/\∀e,S e↔ ∃r,V r/\e={val:=r})\/
 (qE ky o J=some true/\∃f args e,nF J o.op=some (f,args)/\NY P f args J e/\∀e',S e'↔e'=e)
def aeb(P:aMy)(ky:Array aMx)(K:jX->Prop):List Nat->List Tr->jX->Prop
 |[],_,J=>K J
 |j::rest,tr,J=>∃o S,ky[j]? =some o/\xP P ky o J S/\∀e,S e->Dh ky tr j e=true/\aeb P ky K rest (tr++[⟨j,J.heap.length,e⟩]) (J.app o.dst e)
section
variable {ky:Array aMx} {K:jX->Prop}
theorem asi:∀{R:List Nat}{tr tr':List Tr}{J:jX},(∀t∈tr',t∈tr)->aeb P ky K R tr J->aeb P ky K R tr' J
 |[],_,_,_,_,h=>h
 |j::rest,tr,tr',J,hs,⟨o,S,ho,VT,h⟩=>by
  refine⟨o,S,ho,VT,fun e he=>?_⟩;obtain⟨hc,hr⟩:=h e he;refine⟨?_,asi ?_ hr⟩
  all_goals grind [Dh]
def xP.aAM{S:wO->Prop}(h:xP P ky o J S):∃e,S e:=by
 rcases h with⟨_,h⟩|⟨_,_,e,_,_,h⟩|⟨_,f,args,V,_,_,⟨r,hr⟩,h⟩|⟨_,f,args,e,_,_,h⟩
 ·exact⟨_,(h _).2 rfl⟩
 ·exact⟨e,(h e).2 rfl⟩
 ·exact⟨_,(h _).2 ⟨r,hr,rfl⟩⟩
 ·exact⟨e,(h e).2 rfl⟩
def xP.det{S:wO->Prop}(h:xP P ky o J S)(hc:Cd o.op=false):∃e,∀e',S e'↔e'=e:=by
 rcases h with⟨_,h⟩|⟨_,_,e,_,_,h⟩|⟨_,f,args,V,h1,_,_,h⟩|⟨_,f,args,e,_,_,h⟩
 ·exact⟨_,h⟩
 ·exact⟨e,h⟩
 rotate_left
 ·exact⟨e,h⟩
 ·exfalso;unfold nF at h1
  grind [Cd]
def xP.eq{S S':wO->Prop}(h:xP P ky o J S)(h':xP P ky o J S')(hc:Cd o.op=false):∀e,S e↔S' e:=by
 have nc:∀{f args},nF J o.op≠some (f,args):=by
  intro f args h1;unfold nF at h1
  grind [Cd]
 rcases h with⟨hw,h⟩|⟨hw,_,e,he,_,h⟩|⟨_,f,args,V,h1,_⟩|⟨_,f,args,_,h1,_⟩
 ·rcases h' with⟨_,h'⟩|⟨hw',_⟩|⟨_,f,args,V,h1,_⟩|⟨_,f,args,_,h1,_⟩
  all_goals grind
 ·rcases h' with⟨hw',_⟩|⟨_,_,e2,he2,_,h'⟩|⟨_,f,args,V,h1,_⟩|⟨_,f,args,_,h1,_⟩
  all_goals grind
 all_goals grind
def NA(h:∀j b d,o.guard=some (j,b)->(ky[j]?).bind (·.dst)=some d->J'.kr[d]? =J.kr[d]?):qE ky o J'=qE ky o J:=by
 grind [qE]
theorem Kv{o:Op}(h:∀x∈o.operands,J'.ev x=J.ev x):nF J' o=nF J o:=by
 unfold nF;split
 all_goals grind [aa,Call.operands,aK]
def xP.local{S:wO->Prop}(h:xP P ky o J S)(XN:∀x∈o.op.operands,J'.ev x=J.ev x)(hw:qE ky o J'=qE ky o J)
 (hh:∀e,S e->((∀l∈e.rd,J'.heap[l]? =J.heap[l]?)/\(e.nw≠[]->J'.heap.length=J.heap.length))/\(e.whole=true->J'.heap=J.heap)):xP P ky o J' S:=by
 rcases h with⟨h1,h⟩|⟨h1,h2,e,he,hp,h⟩|⟨h1,f,args,V,h2,h3,h4,h⟩|⟨h1,f,args,e,h2,h3,h⟩
 ·exact .inl ⟨by rw[hw];exact h1,h⟩
 ·refine .inr (.inl ⟨by rw[hw];exact h1,by rw[Kv XN];exact h2,e,?_,hp,h⟩)
  grind [ash]
 ·exact .inr (.inr (.inl ⟨by rw[hw];exact h1,f,args,V,by rw[Kv XN];exact h2,h3,h4,h⟩))
 ·obtain⟨⟨a,b⟩,c⟩:=hh e ((h e).2 rfl);exact .inr (.inr (.inr ⟨by rw[hw];exact h1,f,args,e,by rw[Kv XN];exact h2,h3.move a b c,h⟩))
theorem uC:∀(ups:List (Nat×kp))(H:List kp),(mN H ups).length=H.length
 |[],_=>rfl
 |(l,x)::r,H=>by simp [mN,uC r]
theorem ahc:∀(ups:List (Nat×kp))(H:List kp)(l:Nat),l ∉ ups.map (·.1)->(mN H ups)[l]? =H[l]?
 |[],_,_,_=>rfl
 |(k,x)::r,H,l,h=>by
  simp only[bq,aG,not_or]at h;rw[mN,ahc r _ l h.2,be (fun e=>h.1 e.symm)]
theorem ahd{e:wO}(h1:l ∉ e.up.map (·.1))(h2:l<J.heap.length):(J.app dst e).heap[l]? =J.heap[l]? :=by
 have:(J.app dst e).heap=mN J.heap e.up++e.nw:=rfl
 grind [uC,ahc]
theorem avv{e:wO}{x:aMt}(h:∀d,dst=some d->x≠ .tmp d):(J.app dst e).ev x=J.ev x:=by
 cases x with
 |tmp t=>
  cases dst with
  |none=>rfl
  |some d=>
   grind [jX.ev,jX.app,jX.put]
 |const v=>rfl
 |global g=>rfl
 |func f=>rfl
theorem aiR{e:wO}{t:Nat}(h:∀d,dst=some d->t≠d):(J.app dst e).kr[t]? =J.kr[t]? :=by
 cases dst with
 |none=>rfl
 |some d=>
  grind [jX.app,jX.put]
def aAN {o:Op} {e:wO} (h:lC P J o=some e):(∀l∈e.rd,l<J.heap.length)/\ ∀l∈e.up.map (·.1),l<J.heap.length:=by
 have lt:∀{l:Nat}{x:kp},J.heap[l]? =some x->l<J.heap.length:=fun h=>(aw.1 h).1
 cases o with
 |load t x=>
  simp only[lC]at h;split at h
  ·split at h
   ·rename_i hl;split at h
    ·obtain⟨_,h2,h3⟩:=aAL h
     grind
    ·cases h
   ·cases h
  ·grind
  ·grind
  ·unfold alJ at h
   grind [aM]
  ·cases h
 |store t x y=>
  simp only[lC]at h
  grind
 |indexAddr t x i=>
  simp only[lC]at h;split at h
  ·grind
  grind [aM]
 |slice t x lo hi mx=>
  simp only[lC]at h;split at h
  ·split at h
   ·cases h
   ·unfold ag1 at h
    grind
  grind
 |call c=>
  obtain⟨cl,args,ts⟩:=c;cases cl with
  |builtin b=>
   simp only[lC]at h;unfold M2 at h;split at h
   ·unfold aoW at h
    grind
   ·split at h
    ·split at h
     ·split at h
      ·unfold VS at h;split at h
       ·cases h
       ·rename_i rd ys anS
        have hrd:∀l∈rd,l<J.heap.length:=by
         unfold XK at anS
         grind
        grind
      ·cases h
     ·cases h
    ·cases h
   all_goals grind
  |value f=>cases h
  |invoke r m=>cases h
 |move x=>cases h;simp
 |assign x=>cases h;simp
 |makeFunc fn f c=>cases h;simp
 |pick c x y=>simp only[lC]at h;split at h<;>cases h;simp
 |alloc t=>simp only[lC]at h;split at h<;>cases h;simp
 |box t x=>simp only[lC]at h;split at h<;>cases h;simp
 |build t parts=>
  simp only[lC]at h
  grind
 |buildSlice t len parts=>
  simp only[lC]at h
  grind
 |nilCheck x=>simp only[lC]at h;split at h<;>cases h<;>simp
 |binOp op t x y ty=>
  simp only[lC]at h;split at h
  ·cases h;simp
  ·unfold aoV af1 at h;split at h
   ·grind
   unfold aiL at h
   grind
 |unOp op t x=>simp only[lC]at h;split at h<;>cases h<;>simp
 |convert s d x=>
  simp only[lC]at h
  grind
 |makeInterface t x=>simp only[lC]at h;split at h<;>cases h;simp
 |makeSlice t x y=>
  simp only[lC]at h
  grind
 |fieldAddr t x i=>simp only[lC]at h;split at h<;>cases h<;>simp
 |field t x i=>
  simp only[lC]at h
  grind
 |index t x i=>
  simp only[lC]at h
  grind
 |extract x i=>
  simp only[lC]at h
  grind
 |makeMap t r=>
  cases r with
  |some r=>cases h
  |none=>cases h;simp
 |typeAssert x u t ok=>
  cases ok with
  |false=>cases h
  |true=>
   simp only[lC]at h;unfold aqc at h
   grind
 |lookup t x k ok=>
  cases ok with
  |true=>
   simp only[lC]at h;split at h
   ·unfold aiM at h;split at h
    ·rename_i hl;split at h
     ·cases h;have:=lt hl;unfold aoY;split<;>simp [this]
     ·cases h
    ·cases h
   ·cases h
  |false=>
   simp only[lC]at h;split at h
   ·unfold adH at h
    grind
   ·cases h
 |range t x=>simp only[lC]at h;split at h<;>cases h;simp
 |next x st=>
  cases st with
  |false=>cases h
  |true=>
   simp only[lC]at h;split at h
   ·unfold adI at h
    grind
   ·cases h
 |mapUpdate t x k y=>
  simp only[lC]at h;split at h
  ·unfold Ca at h
   grind
  ·cases h
 |insert t x k y=>
  simp only[lC]at h;split at h
  ·unfold Ca at h
   grind
  ·cases h
 |_=>cases h
end
section
variable {ky:Array aMx} {K:jX->Prop}
theorem ZH:∀(ups:List (Nat×kp))(H N:List kp),(∀l∈ups.map (·.1),l<H.length)->mN (H++N) ups=mN H ups++N
 |[],_,_,_=>rfl
 |(l,x)::r,H,N,h=>by
  simp only[mN];rw[List.set_append_left _ _ (h l (by simp))];exact ZH r _ N (fun k hk=>by grind)
theorem ahe:∀(ups:List (Nat×kp))(H:List kp)(l:Nat)(x:kp),l ∉ ups.map (·.1)->mN (H.set l x) ups=(mN H ups).set l x
 |[],_,_,_,_=>rfl
 |(k,y)::r,H,l,x,h=>by
  simp only[bq,aG,not_or]at h;simp only[mN];rw[List.set_comm _ _ h.1,ahe r _ l x h.2]
theorem ae8:∀(u v:List (Nat×kp))(H:List kp),(∀l∈u.map (·.1),l ∉ v.map (·.1))->mN (mN H u) v=mN (mN H v) u
 |[],_,_,_=>rfl
 |(l,x)::r,v,H,h=>by
  simp only[mN];rw[ae8 r v _ (fun k hk=>h k (by simp at hk ⊢;exact .inr hk)),ahe v H l x (h l (by simp))]
theorem Qx{a b:List Nat}(h:Ji a b=true):∀l∈a,l ∉ b:=by
 grind [Ji]
def asj{d d':Option Tmp}{e e':wO}(hd: ∀x,d=some x->d'≠some x)(hi:Ce ⟨j,J.heap.length,e⟩ e'=true)
 (h1:∀l∈e.up.map (·.1),l<J.heap.length) (h2:∀l∈e'.up.map (·.1),l<(J.app d e).heap.length):(J.app d e).app d' e'=(J.app d' e').app d e:=by
 unfold Ce at hi;simp only[aR,bh]at hi;obtain⟨⟨⟨i1,i2⟩,i3⟩,_⟩:=hi;have dis:∀l∈e.up.map (·.1),l ∉ e'.up.map (·.1):=fun l hl hl'=>Qx i1 l hl (aF.2 (.inr hl'))
 have h2':∀l∈e'.up.map (·.1),l<J.heap.length:=by
  grind [jX.app,uC]
 have aGr:((J.app d e).app d' e').kr=((J.app d' e').app d e).kr:=by
  cases d with
  |none=>cases d'<;>rfl
  |some x=>cases d' with
   |none=>rfl
   |some y=>
    grind [jX.app,jX.put,List.set_comm]
 have Jf:((J.app d e).app d' e').heap=((J.app d' e').app d e).heap:=by
  grind [jX.app,ZH,uC,ae8]
 have ext:∀(s t:jX),s.kr=t.kr->s.heap=t.heap->s.low=t.low->s.df=t.df->s=t:=by
  intro s t h h' h'' h3;cases s;cases t;simp_all
 refine ext _ _ aGr Jf ?_ ?_<;>cases d<;>cases d'<;>rfl
def xP.lt{S:wO->Prop}(h:xP P ky o J S){e:wO}(he:S e):(∀l∈e.rd,l<J.heap.length)/\∀l∈e.up.map (·.1),l<J.heap.length:=by
 rcases h with⟨_,h⟩|⟨_,_,e',he',_,h⟩|⟨_,f,args,V,_,_,_,h⟩|⟨_,f,args,e',_,hl,h⟩
 ·rw[(h e).1 he];simp
 ·rw[(h e).1 he];exact aAN he'
 ·grind
 ·rw[(h e).1 he];exact⟨hl.1.1,fun l hm=>hl.1.1 l (hl.1.2 l hm)⟩
theorem NB{d:Tmp}(h:d ∉ o.looksAt ky):∀x∈o.op.operands,x≠ .tmp d:=by
 intro x hx e;subst e;apply h;unfold Oper.looksAt;refine aF.2 (.inl ?_);simp only[List.mem_filterMap];exact⟨.tmp d,by simpa using hx,rfl⟩
theorem SC{d:Tmp}(h:d ∉ o.looksAt ky){b:Bool}{k:Tmp}(hg:o.guard=some (j,b))(hk:(ky[j]?).bind (·.dst)=some k):k≠d:=by
 grind [Oper.looksAt]
def xP.ahf {oi:aMx}{S:wO->Prop}{er:wO}(h:xP P ky oi (J.app or'.dst er) S)(hap:∀d,or'.dst=some d->d ∉ oi.looksAt ky)
 (hi:∀e,S e->Ce ⟨j,J.heap.length,er⟩ e=true):xP P ky oi J S:=by
 refine h.local (fun x hx=>?_) (NA fun k b d hg hd=>?_) (fun e he=>?_)
 ·grind [avv,NB]
 ·grind [aiR,SC]
 ·have me:=h.lt he
  grind [Ce,jX.app,mN,uC,ahd,Qx]
def xP.fwd {oi:aMx}{S:wO->Prop}{ei:wO}(h:xP P ky or' J S)(hap:∀d,oi.dst=some d->d ∉ or'.looksAt ky)
 (hi:∀e,S e->Ce ⟨j,J.heap.length,e⟩ ei=true):xP P ky or' (J.app oi.dst ei) S:=by
 refine h.local (fun x hx=>?_) (NA fun k b d hg hd=>?_) (fun e he=>?_)
 ·grind [avv,NB]
 ·grind [aiR,SC]
 ·have me:=h.lt he
  grind [Ce,jX.app,mN,ahd,Qx,uC]
def Fl(h:IN ky=true):Region.noSelect ky=true/\∀(j:Nat)(oj:aMx),ky[j]? =some oj->(∀d∈An oj,d<j)/\
 ∀(i:Nat)(oi:aMx),i<j->ky[i]? =some oi->pY ky i j=false->oi.apart ky oj=true/\ ¬ (Cd oi.op=true/\Cd oj.op=true):=by
 grind [IN,pY]
theorem ayQ {n':Nat}{e e':wO}(h:n<=n')(hi:Ce ⟨j,n,e⟩ e'=true):Ce ⟨j,n',e⟩ e'=true:=by
 grind [Ce]
def alY:∀{R:List Nat}{tr tr':List Tr}{J:jX},(∀t'∈tr',∃t∈tr,t.j=t'.j/\t.e=t'.e/\t.n<=t'.n)->aeb P ky K R tr J->aeb P ky K R tr' J
 |[],_,_,_,_,h=>h
 |j::rest,tr,tr',J,hs,⟨o,S,ho,VT,h⟩=>by
  refine⟨o,S,ho,VT,fun e he=>?_⟩;obtain⟨hc,hr⟩:=h e he;refine⟨?_,alY ?_ hr⟩
  ·unfold Dh at*;rw[bz]at*;intro t' ht';obtain⟨t,ht,h1,h2,h3⟩:=hs t' ht';have:=hc t ht;simp only[bh]at*;rw[<-h1];refine this.imp (fun hi=>?_) id;obtain⟨a,b,c⟩:=t;obtain⟨a',b',c'⟩:=t'
   grind [ayQ]
  grind
def ayR(h:akt ky i j=false):pY ky i j=false:=by
 grind [akt]
def asl(L9:IN ky=true){i:Nat}: ∀{R:List Nat}{tr:List Tr}{J:jX},aeb P ky K R tr J->i∈R->R.Pairwise (· < ·)->(∀r∈R,r<i->akt ky r i=false)->
 ∃o S,ky[i]? =some o/\xP P ky o J S/\∀e,S e->Dh ky tr i e=true/\aeb P ky K (R.erase i) tr (J.app o.dst e)
 |[],_,_,_,hi,_,_=>by simp at hi
 |r::R,tr,J,⟨or',Sr,hor,VT,h⟩,hi,hpw,asn=>by
  by_cases e:r=i
  ·grind [asi]
  ·have hiR:i∈R:=by
    grind
   rw[List.pairwise_cons]at hpw;have hri:r<i:=hpw.1 i hiR;have aIj:akt ky r i=false:=asn r (by simp) hri;have ih:∀er,Sr er->_:=fun er her=>asl L9 (h er her).2 hiR hpw.2 (fun q hq me=>asn q (by simp [hq]) me)
   obtain⟨er0,aKo⟩:=VT.aAM;obtain⟨oi,S0,Qy,aKp,h0⟩:=ih er0 aKo;obtain⟨_,VW⟩:=Fl L9;obtain⟨al0,aKq⟩:=(VW i oi Qy).2 r or' hri hor (ayR aIj);obtain⟨a1,a2,a3⟩:=Oper.apart_spec al0
   have aAO:∀{er:wO}{S:wO->Prop},(∀e,S e->Dh ky (tr++[⟨r,J.heap.length,er⟩]) i e=true/\aeb P ky K (R.erase i) (tr++[⟨r,J.heap.length,er⟩]) ((J.app or'.dst er).app oi.dst e))->
    ∀e,S e->Ce ⟨r,J.heap.length,er⟩ e=true:=by
    grind [Dh]
   have abr:xP P ky oi J S0:=aKp.ahf (j:=r) a1 (aAO h0);refine⟨oi,S0,Qy,abr,fun ei hei=>?_⟩
   have P8:∀er,Sr er->Dh ky (tr++[⟨r,J.heap.length,er⟩]) i ei=true/\aeb P ky K (R.erase i) (tr++[⟨r,J.heap.length,er⟩]) ((J.app or'.dst er).app oi.dst ei):=by
    intro er her;obtain⟨oi',S',aIk,aKr,h'⟩:=ih er her;rw[Qy]at aIk;cases aIk;by_cases hc:Cd oi.op=true
    ·
     have hcr:Cd or'.op=false:=by
      grind
     obtain⟨ex,hex⟩:=VT.det hcr
     grind
    ·have hc':Cd oi.op=false:=by simpa using hc
     have Gs:xP P ky oi J S':=aKr.ahf (j:=r) a1 (aAO h');exact h' ei ((abr.eq Gs hc' ei).1 hei)
   have aKs:xP P ky or' (J.app oi.dst ei) Sr:=by
    refine VT.fwd (j:=r) a3 (fun er her=>?_)
    grind [Dh]
   refine⟨?_,?_⟩
   ·grind [Dh]
   ·have wN:(r::R).erase i=r::R.erase i:=List.erase_cons_tail (by simpa using e);rw[wN];refine⟨or',Sr,hor,aKs,fun er her=>⟨(h er her).1,?_⟩⟩;have hs:=P8 er her
    have hi':Ce ⟨r,J.heap.length,er⟩ ei=true:=by
     grind [Dh]
    have aAP:=asj (d:=or'.dst) (d':=oi.dst) a2 hi' (VT.lt her).2 (by
     intro l hl;have:=(abr.lt hei).2 l hl
     grind [jX.app,uC])
    rw[<-aAP];refine alY ?_ hs.2;intro t' ht';rcases aF.1 ht' with ht'|ht'
    ·grind
    simp_all [jX.app,uC]
def VX{f:Nat->Nat}{r:Nat}:∀(ds:List Nat)(s:Nat),(ds.foldl (fun s d=>s|||2 ^ d|||f d) s).testBit r=true->s.testBit r=true\/∃d∈ds,d=r\/(f d).testBit r=true
 |[],s,h=>.inl h
 |d::ds,s,h=>by
  simp only[List.foldl_cons]at h;rcases VX ds _ h with h|⟨d',hd',h⟩
  all_goals grind
def ajU{L:Nat->Prop}{all:List aMx}(axQ: ∀j o,all[j]? =some o->L j-> ∀d∈An o,L d): ∀(os:List aMx)(mE:List Nat),all.drop mE.length=os->
 (∀k o,all[k]? =some o->k<mE.length->(∀d∈An o,L d)->∀r,(mE.getD k 0).testBit r=true->L r)->(∀k o,all[k]? =some o->∀d∈An o,d<k)->
 ∀k o,all[k]? =some o->(∀d∈An o,L d)->∀r,((aqh os mE).getD k 0).testBit r=true->L r
 |[],mE,hd,h,_=>by
  intro k o hk D6 r hr;refine h k o hk ?_ D6 r hr;have h1:all.length<=mE.length:=by simpa using hd
  grind
 |o::os,mE,hd,h,me=>by
  refine ajU axQ os _ ?_ ?_ me
  ·grind [bn]
  ·intro k o' hk hkl D6 r hr
   have ho:all[mE.length]? =some o:=by
    have:=congrArg (fun l:List aMx=>l[0]?) hd;simpa using this
   by_cases e:k<mE.length
   ·rw[aV,aW e,<-aV]at hr;exact h k o' hk e D6 r hr
   ·have e2:k=mE.length:=by simp at hkl;omega
    subst e2;rw[ho]at hk;cases hk;rw[aV,br (ar _)]at hr;simp only[b7,aL,Option.getD_some]at hr;rcases VX (f:=fun d=>mE.getD d 0) _ _ hr with h0|⟨d,hd',rfl|h1⟩
    ·simp at h0
    ·exact D6 d hd'
    ·have hdl:d<mE.length:=me _ _ ho d hd';have aIl:d<all.length:=by grind
     exact h d all[d] (bD aIl) hdl (axQ d _ (bD aIl) (D6 d hd')) r h1
end
theorem ow(m j:Nat):(Array.replicate m false).getD j false=false:=by
 by_cases h:j<m<;>simp [Array.getD,h]
section region
variable {ky:Array aMx} {Q:nW->jX->Prop}
def M6(S:nr C U J a w){E:wO->Prop}(ho:ky[i]? =some o)(h:xP C.P ky o J E){K:Act->aMv->Prop}{Q':Exit->Act->aMv->Prop}
 (hK:∀e U' v w',E e->nr C U' (J.app o.dst e) (a.put o.dst v) w'->K (a.put o.dst v) w'):wpOpIn (Fk ro) 0 C.P ky Q' i K a w:=by
 unfold wpOpIn;simp only[ho];rcases h with⟨hw,h⟩|⟨hw,_,e,he,hp,h⟩|⟨hw,f,args,V,hc,hf,_,h⟩|⟨hw,f,args,e,hc,hf,h⟩
 ·rw[zj S hw];simp only[az,if_false];refine⟨fun _ _=>trivial,hK _ U undef w ((h _).2 rfl) ?_⟩;rw[Kq];exact S.put o.dst rfl
 ·rw[zj S hw];simp only[jQ];obtain⟨n,v,w',U',hr,hn,S'⟩:=SB S he hp;refine⟨fun _ _=>trivial,?_⟩
  grind [aO,ase,Oper.uponIn_value,Oper.uponIn_skip]
 ·rw[zj S hw];simp only[jQ];have xk:BE C.P f args J (fun o' H'=>∃r,V r/\o'=.ret r/\H'=J.heap):=ag9 hf (fun r hr=>⟨r,hr,rfl,rfl⟩);obtain⟨vs,ub,hr⟩:=Ks S hc xk.1;refine⟨fun _ _=>trivial,?_⟩;rw[aO _ _ _ (NW hc),ub,bu];refine⟨fun h=>by simp [Fk,aZ]at h,Jh.2 ?_⟩;refine(xk.2 C U a w rfl S vs hr).mono fun en w' ⟨o',U',H',⟨r,hV,ho',hH⟩,S',tP⟩=>?_
  subst ho' hH;cases en with
  |returned v=>
   refine hK {val:=r} U' v w' ((h _).2 ⟨r,hV,rfl⟩) ?_;rw[Kq];exact S'.put o.dst tP
  |panicked chain=>exact tP.elim
  |outgrown=>exact tP.elim
 ·rw[zj S hw];simp only[jQ];have xk:=hf.2 J (fun _ _=>rfl) (fun _=>rfl) (fun _=>rfl);obtain⟨vs,ub,hr⟩:=Ks S hc xk.1;refine⟨fun _ _=>trivial,?_⟩;rw[aO _ _ _ (NW hc),ub,bu];refine⟨fun h=>by simp [Fk,aZ]at h,Jh.2 ?_⟩;refine(xk.2 C U a w rfl S vs hr).mono fun en w' ⟨o',U',H',⟨ho',hH⟩,S',tP⟩=>?_
  subst ho' hH;cases en with
  |returned v=>
   refine hK e U' v w' ((h _).2 rfl) ?_;have:=S'.put o.dst tP
   have e1:({J with heap:=mN J.heap e.up++e.nw}:jX).put o.dst e.val=J.app o.dst e:=by
    cases hd:o.dst<;>rfl
   rw[e1]at this;exact this
  |panicked chain=>exact tP.elim
  |outgrown=>exact tP.elim
end region
end Go.Abs
