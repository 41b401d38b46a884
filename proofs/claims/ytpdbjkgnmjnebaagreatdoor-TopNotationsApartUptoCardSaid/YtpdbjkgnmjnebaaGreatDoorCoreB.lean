/- A part of the proof: abstract states and the rules for them. -/
import Derived.Test.YtpdbjkgnmjnebaaGreatDoorCoreA
import Derived.RangeFuncLeaves
import Derived.Attr
set_option linter.all false
open Go renaming Oper→aJ1,Value→aJ2,Code→aJ3,FuncId→aJ4,Program→aJ5,World→aJ6,Ending→aJ7
open List renaming getElem?_eq_getElem→bW,getElem?_eq_some_iff→bX,range→cm,replicate→cn,getElem?_append_left→cq,range_eq_range'→ct,eq_nil_of_length_eq_zero→cv,mem_append→cw,getElem?_append_right→cx,range'→cD,mem_cons→cH,pairwise_cons→cJ,take_left'→cK,drop_left'→cM,mem_cons_self→cN,flatten_cons→cO,mem_of_getElem?→cP,getD_eq_getElem?_getD→cQ,pairwise_lt_range→cW,set_comm→cY,range'_succ→db,mem_of_mem_erase→dh,getElem?_set_ne→di,tail_drop→dm,length_erase_of_mem→dr,length_cons→dw,filter_cons→dx,nodup_cons→dy,getElem?_set_self→dz,set_getElem_self→dA,erase_cons_tail→dD,getElem?_of_mem→dG,map_cons→dH
open Option.some renaming injEq→bY
open Nat renaming lt_of_lt_of_le→bZ,le_refl→b9,not_lt_zero→ck,add_right_cancel_iff→cE,ne_of_lt→dj,zero_le→dK
open Iff renaming rfl→b7
open Array renaming replicate→b8,toList_push→cz,getElem?_eq_getElem→cC,toList_append→cR,toList_replicate→cX,getElem?_eq_some_iff→dn
open Prod.mk renaming injEq→cc
open Go.Fence renaming wide→cf
open Bool renaming and_eq_true→cg,false_eq_true→cU
open Option renaming bind_eq_some_iff→cj,bind_some→cG,getD_some→da,isSome_some→dJ
open Go.Oper renaming apart_spec→cT,uponIn_enter→cV,semAt_eq→cZ
open Go.Value.func renaming injEq→dc
open List.cons renaming injEq→dl
noncomputable section
namespace Go.Abs
variable {x y:AV}{a:Act}{j8:Array aJ1}{tmps:Array aJ2}{b:Bool}{c:aJ3}{E E':Dw}{F:Fence}{u:FrameMode}{f:aJ4}{uu:Int}{df:List (aJ4×List AV)}{apw args jV xs ys z:List AV}{cs:List Frame}{k:List Item}{H H':List jT}{D N i j l low n:Nat}{Y:Nat->Nat}{U:Nat->aJ2}{o oi or':aJ1}{ro:Option Nat}{d dst:Option Tmp}{P:aJ5}{p:Prop}{R:Type}{t:TypeId}{h hd v:aJ2}{w:aJ6}{J J':jJ}{Q:nU->jJ->Prop}{K V:vf->List jT->Prop}
def AY(o:aJ1):List Nat:=(o.after.toList.filter (Region.binds .any)).map (·.on)
def anC:List aJ1->List Nat->List Nat
 |[],lN=>lN
 |o::os,lN=>anC os (lN++[(AY o).foldl (fun s d=>s|||2 ^ d|||lN.getD d 0) 0])
def pW(j8:Array aJ1)(i j:Nat):Bool:=((anC j8.toList []).getD j 0).testBit i
def CM:Op->Bool
 |.call {callee:=.builtin _,..}=>false
 |.call _=>true
 |_=>false
def Ji (j8:Array aJ1):Bool:=
 Region.noSelect j8&&
 (let r:=anC j8.toList []
  (cm j8.size).all fun j=>match j8[j]? with
   |none=>true
   |some oj=>(AY oj).all (· <j)&&(cm j).all fun i=>match j8[i]? with
    |none=>true
    |some oi=>(r.getD j 0).testBit i||(oi.apart j8 oj&& !(CM oi.op&&CM oj.op)))
structure Tr where
 j:Nat
 n:Nat
 e:vW
variable {tr:List Tr}
def JC(a b:List Nat):Bool:=a.all fun x=> !b.contains x
def CN(t:Tr)(e:vW):Bool:=
 JC (t.e.up.map (·.1)) (e.rd++e.up.map (·.1))&&JC (e.up.map (·.1)) t.e.rd&&
 (t.e.nw.isEmpty||(e.nw.isEmpty&&(e.rd++e.up.map (·.1)).all fun l=>decide (l<t.n)))&&
 ((!t.e.whole||(e.up.isEmpty&&e.nw.isEmpty))&&(!e.whole||(t.e.up.isEmpty&&t.e.nw.isEmpty)))
def aeT:Op->Bool
 |.move _|.assign _|.pick _ _ _|.load _ _|.store _ _ _|.binOp _ _ _ _ _|.unOp _ _ _|.fieldAddr _ _ _|.field _ _ _|.indexAddr _ _ _|.index _ _ _|.extract _ _=>true
 |_=>false
def Xu(o:aJ1):Bool:=(match o.op with|.alloc t=> !aeI t|_=>false)&&o.guard.isNone
def aaw (j8:Array aJ1) (i j:Nat):Bool:=
 match j8[i]?,j8[j]? with
 |some oi,some oj=>Xu oi&&Xu oj&&(AY oi).isEmpty&&(AY oj).isEmpty&&decide (i<j)&&
  (cm j8.size).all fun k=>k==i||k==j||(match j8[k]? with
    |none=>true
    |some o=>aeT o.op&&(pW j8 i k==pW j8 j k))
 |_,_=>false
def ahS(j8:Array aJ1)(i j:Nat):Bool:=pW j8 i j||aaw j8 i j
def DP(j8:Array aJ1)(tr:List Tr)(j:Nat)(e:vW):Bool:=tr.all fun t=>CN t e||ahS j8 t.j j
def Hz(P:aJ5)(f:aJ4)(args:List AV)(J:jJ)(e:vW):Prop:=
 ((∀l∈e.rd,l<J.heap.length)/\∀l∈e.up.map (·.1),l∈e.rd)/\
 ∀J':jJ,(∀l∈e.rd,J'.heap[l]? =J.heap[l]?)->(e.nw≠[]->J'.heap.length=J.heap.length)->(e.whole=true->J'.heap=J.heap)->Bf P f args J' (fun o H'=>o=.ret e.val/\H'=mh J'.heap e.up++e.nw)
def Hz.move{e:vW}(h:Hz P f args J e)(h1:∀l∈e.rd,J'.heap[l]? =J.heap[l]?)(h2:e.nw≠[]->J'.heap.length=J.heap.length)(h3:e.whole=true->J'.heap=J.heap):Hz P f args J' e:=by
 refine⟨⟨fun l hl=>?_,h.1.2⟩,fun J2 k1 k2 k3=>h.2 J2 (fun l hl=>(k1 l hl).trans (h1 l hl)) (fun hn=>(k2 hn).trans (h2 hn)) (fun hw=>(k3 hw).trans (h3 hw))⟩;have mR:=h.1.1 l hl
 grind
def yc(P:aJ5)(j8:Array aJ1)(o:aJ1)(J:jJ)(S:vW->Prop):Prop:=
 (qx j8 o J=some false/\∀e,S e↔e={val:=.sO undef})\/
 (qx j8 o J=some true/\nk J o.op=none/\∃e,kQ P J o.op=some e/\e.pre/\∀e',S e'↔e'=e)\/
 (qx j8 o J=some true/\∃f args V,nk J o.op=some (f,args)/\KD P f args V/\(∃r,V r)/\∀e,S e↔ ∃r,V r/\e={val:=r})\/
 (qx j8 o J=some true/\∃f args e,nk J o.op=some (f,args)/\Hz P f args J e/\∀e',S e'↔e'=e)
def acK(P:aJ5)(j8:Array aJ1)(K:jJ->Prop):List Nat->List Tr->jJ->Prop
 |[],_,J=>K J
 |j::rest,tr,J=>∃o S,j8[j]? =some o/\yc P j8 o J S/\∀e,S e->DP j8 tr j e=true/\acK P j8 K rest (tr++[⟨j,J.heap.length,e⟩]) (J.app o.dst e)
section
variable {K:jJ->Prop}
theorem aph:∀{R:List Nat}{tr tr':List Tr}{J:jJ},(∀t∈tr',t∈tr)->acK P j8 K R tr J->acK P j8 K R tr' J
 |[],_,_,_,_,h=>h
 |j::rest,tr,tr',J,hs,⟨o,S,ho,Xg,h⟩=>by
  refine⟨o,S,ho,Xg,fun e he=>?_⟩;obtain⟨hc,hr⟩:=h e he;refine⟨?_,aph ?_ hr⟩
  all_goals grind [DP]
def yc.axO{S:vW->Prop}(h:yc P j8 o J S):∃e,S e:=by
 rcases h with⟨_,h⟩|⟨_,_,e,_,_,h⟩|⟨_,f,args,V,_,_,⟨r,hr⟩,h⟩|⟨_,f,args,e,_,_,h⟩
 ·exact⟨_,(h _).2 rfl⟩
 ·exact⟨e,(h e).2 rfl⟩
 ·exact⟨_,(h _).2 ⟨r,hr,rfl⟩⟩
 ·exact⟨e,(h e).2 rfl⟩
def yc.det{S:vW->Prop}(h:yc P j8 o J S)(hc:CM o.op=false):∃e,∀e',S e'↔e'=e:=by
 rcases h with⟨_,h⟩|⟨_,_,e,_,_,h⟩|⟨_,f,args,V,h1,_,_,h⟩|⟨_,f,args,e,_,_,h⟩
 ·exact⟨_,h⟩
 ·exact⟨e,h⟩
 rotate_left
 ·exact⟨e,h⟩
 ·exfalso;unfold nk at h1
  grind [CM]
def yc.eq{S S':vW->Prop}(h:yc P j8 o J S)(h':yc P j8 o J S')(hc:CM o.op=false):∀e,S e↔S' e:=by
 have nc:∀{f args},nk J o.op≠some (f,args):=by
  intro f args h1;unfold nk at h1
  grind [CM]
 rcases h with⟨hw,h⟩|⟨hw,_,e,he,_,h⟩|⟨_,f,args,V,h1,_⟩|⟨_,f,args,_,h1,_⟩
 ·rcases h' with⟨_,h'⟩|⟨hw',_⟩|⟨_,f,args,V,h1,_⟩|⟨_,f,args,_,h1,_⟩
  all_goals grind
 ·rcases h' with⟨hw',_⟩|⟨_,_,e2,he2,_,h'⟩|⟨_,f,args,V,h1,_⟩|⟨_,f,args,_,h1,_⟩
  all_goals grind
 all_goals grind
def NE(h:∀j b d,o.guard=some (j,b)->(j8[j]?).bind (·.dst)=some d->J'.jV[d]? =J.jV[d]?):qx j8 o J'=qx j8 o J:=by
 grind [qx]
theorem KE{o:Op}(h:∀x∈o.operands,J'.ev x=J.ev x):nk J' o=nk J o:=by
 unfold nk;split
 all_goals grind [Op.operands,Call.operands,List.map_congr_left]
def yc.local{S:vW->Prop}(h:yc P j8 o J S)(Xr:∀x∈o.op.operands,J'.ev x=J.ev x)(hw:qx j8 o J'=qx j8 o J)
 (hh:∀e,S e->((∀l∈e.rd,J'.heap[l]? =J.heap[l]?)/\(e.nw≠[]->J'.heap.length=J.heap.length))/\(e.whole=true->J'.heap=J.heap)):yc P j8 o J' S:=by
 rcases h with⟨h1,h⟩|⟨h1,h2,e,he,hp,h⟩|⟨h1,f,args,V,h2,h3,h4,h⟩|⟨h1,f,args,e,h2,h3,h⟩
 ·exact .inl ⟨by rw[hw];exact h1,h⟩
 ·refine .inr (.inl ⟨by rw[hw];exact h1,by rw[KE Xr];exact h2,e,?_,hp,h⟩)
  grind [apg]
 ·exact .inr (.inr (.inl ⟨by rw[hw];exact h1,f,args,V,by rw[KE Xr];exact h2,h3,h4,h⟩))
 ·obtain⟨⟨a,b⟩,c⟩:=hh e ((h e).2 rfl);exact .inr (.inr (.inr ⟨by rw[hw];exact h1,f,args,e,by rw[KE Xr];exact h2,h3.move a b c,h⟩))
theorem uX:∀(ups:List (Nat×jT))(H:List jT),(mh H ups).length=H.length
 |[],_=>rfl
 |(l,x)::r,H=>by simp [mh,uX r]
theorem aeU:∀(ups:List (Nat×jT))(H:List jT)(l:Nat),l ∉ ups.map (·.1)->(mh H ups)[l]? =H[l]?
 |[],_,_,_=>rfl
 |(k,x)::r,H,l,h=>by
  simp only[dH,cH,not_or]at h;rw[mh,aeU r _ l h.2,di (fun e=>h.1 e.symm)]
theorem aeV{e:vW}(h1:l ∉ e.up.map (·.1))(h2:l<J.heap.length):(J.app dst e).heap[l]? =J.heap[l]? :=by
 have:(J.app dst e).heap=mh J.heap e.up++e.nw:=rfl
 grind [uX,aeU]
theorem asg{e:vW}{x:Operand}(h:∀d,dst=some d->x≠ .tmp d):(J.app dst e).ev x=J.ev x:=by
 cases x with
 |tmp t=>
  cases dst with
  |none=>rfl
  |some d=>
   grind [jJ.ev,jJ.app,jJ.put]
 |const v=>rfl
 |global g=>rfl
 |func f=>rfl
theorem agf{e:vW}{t:Nat}(h:∀d,dst=some d->t≠d):(J.app dst e).jV[t]? =J.jV[t]? :=by
 cases dst with
 |none=>rfl
 |some d=>
  grind [jJ.app,jJ.put]
def axP {o:Op} {e:vW} (h:kQ P J o=some e):(∀l∈e.rd,l<J.heap.length)/\ ∀l∈e.up.map (·.1),l<J.heap.length:=by
 have lt:∀{l:Nat}{x:jT},J.heap[l]? =some x->l<J.heap.length:=fun h=>(bX.1 h).1
 cases o with
 |load t x=>
  simp only[kQ]at h;split at h
  ·split at h
   ·rename_i hl;split at h
    ·obtain⟨_,h2,h3⟩:=axN h
     grind
    ·cases h
   ·cases h
  ·grind
  ·grind
  ·unfold ai1 at h
   grind [cj]
  ·cases h
 |store t x y=>
  simp only[kQ]at h
  grind
 |indexAddr t x i=>
  simp only[kQ]at h;split at h
  ·grind
  grind [cj]
 |slice t x lo hi mx=>
  simp only[kQ]at h;split at h
  ·split at h
   ·cases h
   ·unfold aeL at h
    grind
  grind
 |call c=>
  obtain⟨cl,args,ts⟩:=c;cases cl with
  |builtin b=>
   simp only[kQ]at h;unfold MV at h;split at h
   ·unfold amk at h
    grind
   ·split at h
    ·split at h
     ·split at h
      ·unfold Qm at h;split at h
       ·split at h
        ·unfold acg at h
         grind
        ·cases h
       unfold Ql at h;split at h
       ·cases h
       ·rename_i rd ys ak4
        have hrd:∀l∈rd,l<J.heap.length:=by
         unfold Xo at ak4
         grind
        grind
      ·cases h
     ·cases h
    ·cases h
   all_goals grind
  |value f=>cases h
  |invoke r m=>cases h
 |move x=>cases h;simp
 |assign x=>cases h;simp
 |makeFunc fn f c=>cases h;simp
 |pick c x y=>simp only[kQ]at h;split at h<;>cases h;simp
 |alloc t=>simp only[kQ]at h;split at h<;>cases h;simp [ao2]
 |box t x=>simp only[kQ]at h;split at h<;>cases h;simp [ao2]
 |build t parts=>
  simp only[kQ]at h
  grind
 |buildSlice t len parts=>
  simp only[kQ]at h
  grind
 |nilCheck x=>simp only[kQ]at h;split at h<;>cases h<;>simp
 |binOp op t x y ty=>
  simp only[kQ]at h;split at h
  ·cases h;simp
  ·unfold amj ad5 at h;split at h
   ·grind
   unfold af5 at h
   grind
 |unOp op t x=>simp only[kQ]at h;split at h<;>cases h<;>simp
 |convert s d x=>
  simp only[kQ]at h
  grind
 |makeInterface t x=>simp only[kQ]at h;split at h<;>cases h;simp
 |makeSlice t x y=>
  simp only[kQ]at h
  grind
 |fieldAddr t x i=>simp only[kQ]at h;split at h<;>cases h<;>simp
 |field t x i=>
  simp only[kQ]at h
  grind
 |index t x i=>
  simp only[kQ]at h
  grind
 |extract x i=>
  simp only[kQ]at h
  grind
 |makeMap t r=>
  cases r with
  |some r=>cases h
  |none=>cases h;simp
 |typeAssert x u t ok=>
  cases ok with
  |false=>cases h
  |true=>
   simp only[kQ]at h;unfold anu at h
   grind
 |lookup t x k ok=>
  cases ok with
  |true=>
   simp only[kQ]at h;split at h
   ·unfold af6 at h;split at h
    ·rename_i hl;split at h
     ·cases h;have:=lt hl;unfold amm;split<;>simp [this]
     ·cases h
    ·cases h
   ·cases h
  |false=>
   simp only[kQ]at h;split at h
   ·unfold ach at h
    grind
   ·cases h
 |range t x=>simp only[kQ]at h;split at h<;>cases h;simp
 |next x st=>
  cases st with
  |false=>cases h
  |true=>
   simp only[kQ]at h;split at h
   ·unfold aci at h
    grind
   ·cases h
 |mapUpdate t x k y=>
  simp only[kQ]at h;split at h
  ·unfold CH at h
   grind
  ·cases h
 |insert t x k y=>
  simp only[kQ]at h;split at h
  ·unfold CH at h
   grind
  ·cases h
 |_=>cases h
end
section
variable {K:jJ->Prop}
theorem YZ:∀(ups:List (Nat×jT))(H N:List jT),(∀l∈ups.map (·.1),l<H.length)->mh (H++N) ups=mh H ups++N
 |[],_,_,_=>rfl
 |(l,x)::r,H,N,h=>by
  simp only[mh];rw[List.set_append_left _ _ (h l (by simp))];exact YZ r _ N (fun k hk=>by grind)
theorem aeW:∀(ups:List (Nat×jT))(H:List jT)(l:Nat)(x:jT),l ∉ ups.map (·.1)->mh (H.set l x) ups=(mh H ups).set l x
 |[],_,_,_,_=>rfl
 |(k,y)::r,H,l,x,h=>by
  simp only[dH,cH,not_or]at h;simp only[mh];rw[cY _ _ h.1,aeW r _ l x h.2]
theorem adt:∀(u v:List (Nat×jT))(H:List jT),(∀l∈u.map (·.1),l ∉ v.map (·.1))->mh (mh H u) v=mh (mh H v) u
 |[],_,_,_=>rfl
 |(l,x)::r,v,H,h=>by
  simp only[mh];rw[adt r v _ (fun k hk=>h k (by simp at hk ⊢;exact .inr hk)),aeW v H l x (h l (by simp))]
theorem Qn{a b:List Nat}(h:JC a b=true):∀l∈a,l ∉ b:=by
 grind [JC]
def api {d':Option Tmp}{e e':vW}(hd: ∀x,d=some x->d'≠some x)(hi:CN ⟨j,J.heap.length,e⟩ e'=true)
 (h1:∀l∈e.up.map (·.1),l<J.heap.length) (h2:∀l∈e'.up.map (·.1),l<(J.app d e).heap.length):(J.app d e).app d' e'=(J.app d' e').app d e:=by
 unfold CN at hi;simp only[cg,Bool.or_eq_true]at hi;obtain⟨⟨⟨i1,i2⟩,i3⟩,_⟩:=hi;have dis:∀l∈e.up.map (·.1),l ∉ e'.up.map (·.1):=fun l hl Xf=>Qn i1 l hl (cw.2 (.inr Xf))
 have h2':∀l∈e'.up.map (·.1),l<J.heap.length:=by
  grind [jJ.app,uX]
 have aDB:((J.app d e).app d' e').jV=((J.app d' e').app d e).jV:=by
  cases d with
  |none=>cases d'<;>rfl
  |some x=>cases d' with
   |none=>rfl
   |some y=>
    grind [jJ.app,jJ.put,cY]
 have Iq:((J.app d e).app d' e').heap=((J.app d' e').app d e).heap:=by
  grind [jJ.app,YZ,uX,adt]
 have ext:∀(s t:jJ),s.jV=t.jV->s.heap=t.heap->s.low=t.low->s.df=t.df->s=t:=by
  intro s t h h' h'' h3;cases s;cases t;simp_all
 refine ext _ _ aDB Iq ?_ ?_<;>cases d<;>cases d'<;>rfl
def yc.lt{S:vW->Prop}(h:yc P j8 o J S){e:vW}(he:S e):(∀l∈e.rd,l<J.heap.length)/\∀l∈e.up.map (·.1),l<J.heap.length:=by
 rcases h with⟨_,h⟩|⟨_,_,e',he',_,h⟩|⟨_,f,args,V,_,_,_,h⟩|⟨_,f,args,e',_,hl,h⟩
 ·rw[(h e).1 he];simp
 ·rw[(h e).1 he];exact axP he'
 ·grind
 ·rw[(h e).1 he];exact⟨hl.1.1,fun l hm=>hl.1.1 l (hl.1.2 l hm)⟩
theorem NF{d:Tmp}(h:d ∉ o.looksAt j8):∀x∈o.op.operands,x≠ .tmp d:=by
 intro x hx e;subst e;apply h;unfold Oper.looksAt;refine cw.2 (.inl ?_);simp only[List.mem_filterMap];exact⟨.tmp d,by simpa using hx,rfl⟩
theorem Sd{d:Tmp}(h:d ∉ o.looksAt j8){k:Tmp}(hg:o.guard=some (j,b))(hk:(j8[j]?).bind (·.dst)=some k):k≠d:=by
 grind [Oper.looksAt]
def yc.aeX{S:vW->Prop}{er:vW}(h:yc P j8 oi (J.app or'.dst er) S)(hap:∀d,or'.dst=some d->d ∉ oi.looksAt j8)
 (hi:∀e,S e->CN ⟨j,J.heap.length,er⟩ e=true):yc P j8 oi J S:=by
 refine h.local (fun x hx=>?_) (NE fun k b d hg hd=>?_) (fun e he=>?_)
 ·grind [asg,NF]
 ·grind [agf,Sd]
 ·have mR:=h.lt he
  grind [CN,jJ.app,mh,uX,aeV,Qn]
def yc.fwd{S:vW->Prop}{ei:vW}(h:yc P j8 or' J S)(hap:∀d,oi.dst=some d->d ∉ or'.looksAt j8)
 (hi:∀e,S e->CN ⟨j,J.heap.length,e⟩ ei=true):yc P j8 or' (J.app oi.dst ei) S:=by
 refine h.local (fun x hx=>?_) (NE fun k b d hg hd=>?_) (fun e he=>?_)
 ·grind [asg,NF]
 ·grind [agf,Sd]
 ·have mR:=h.lt he
  grind [CN,jJ.app,mh,aeV,Qn,uX]
def Gb(h:Ji j8=true):Region.noSelect j8=true/\∀(j:Nat)(oj:aJ1),j8[j]? =some oj->(∀d∈AY oj,d<j)/\
 ∀(i:Nat)(oi:aJ1),i<j->j8[i]? =some oi->pW j8 i j=false->oi.apart j8 oj=true/\ ¬ (CM oi.op=true/\CM oj.op=true):=by
 grind [Ji,pW]
theorem avL {n':Nat}{e e':vW}(h:n<=n')(hi:CN ⟨j,n,e⟩ e'=true):CN ⟨j,n',e⟩ e'=true:=by
 grind [CN]
def ajb:∀{R:List Nat}{tr tr':List Tr}{J:jJ},(∀t'∈tr',∃t∈tr,t.j=t'.j/\t.e=t'.e/\t.n<=t'.n)->acK P j8 K R tr J->acK P j8 K R tr' J
 |[],_,_,_,_,h=>h
 |j::rest,tr,tr',J,hs,⟨o,S,ho,Xg,h⟩=>by
  refine⟨o,S,ho,Xg,fun e he=>?_⟩;obtain⟨hc,hr⟩:=h e he;refine⟨?_,ajb ?_ hr⟩
  ·unfold DP at*;rw[List.all_eq_true]at*;intro t' ht';obtain⟨t,ht,h1,h2,h3⟩:=hs t' ht';have:=hc t ht;simp only[Bool.or_eq_true]at*;rw[<-h1];refine this.imp (fun hi=>?_) id;obtain⟨a,b,c⟩:=t;obtain⟨a',b',c'⟩:=t'
   grind [avL]
  grind
def avM(h:ahS j8 i j=false):pW j8 i j=false:=by
 grind [ahS]
def apj(LX:Ji j8=true){i:Nat}: ∀{R:List Nat}{tr:List Tr}{J:jJ},acK P j8 K R tr J->i∈R->R.Pairwise (· < ·)->(∀r∈R,r<i->ahS j8 r i=false)->
 ∃o S,j8[i]? =some o/\yc P j8 o J S/\∀e,S e->DP j8 tr i e=true/\acK P j8 K (R.erase i) tr (J.app o.dst e)
 |[],_,_,_,hi,_,_=>by simp at hi
 |r::R,tr,J,⟨or',Sr,hor,Xg,h⟩,hi,hpw,apk=>by
  by_cases e:r=i
  ·grind [aph]
  ·have hiR:i∈R:=by
    grind
   rw[cJ]at hpw;have hri:r<i:=hpw.1 i hiR;have aFC:ahS j8 r i=false:=apk r (by simp) hri;have ih:∀er,Sr er->_:=fun er her=>apj LX (h er her).2 hiR hpw.2 (fun q hq mR=>apk q (by simp [hq]) mR)
   obtain⟨er0,aHO⟩:=Xg.axO;obtain⟨oi,S0,Qo,aHP,h0⟩:=ih er0 aHO;obtain⟨_,Vw⟩:=Gb LX;obtain⟨ajc,aHQ⟩:=(Vw i oi Qo).2 r or' hri hor (avM aFC);obtain⟨a1,a2,a3⟩:=cT ajc
   have axQ:∀{er:vW}{S:vW->Prop},(∀e,S e->DP j8 (tr++[⟨r,J.heap.length,er⟩]) i e=true/\acK P j8 K (R.erase i) (tr++[⟨r,J.heap.length,er⟩]) ((J.app or'.dst er).app oi.dst e))->
    ∀e,S e->CN ⟨r,J.heap.length,er⟩ e=true:=by
    grind [DP]
   have aax:yc P j8 oi J S0:=aHP.aeX (j:=r) a1 (axQ h0);refine⟨oi,S0,Qo,aax,fun ei hei=>?_⟩
   have same:∀er,Sr er->DP j8 (tr++[⟨r,J.heap.length,er⟩]) i ei=true/\acK P j8 K (R.erase i) (tr++[⟨r,J.heap.length,er⟩]) ((J.app or'.dst er).app oi.dst ei):=by
    intro er her;obtain⟨oi',S',aFD,aHR,h'⟩:=ih er her;rw[Qo]at aFD;cases aFD;by_cases hc:CM oi.op=true
    ·
     have hcr:CM or'.op=false:=by
      grind
     obtain⟨ex,hex⟩:=Xg.det hcr
     grind
    ·have hc':CM oi.op=false:=by simpa using hc
     have qR:yc P j8 oi J S':=aHR.aeX (j:=r) a1 (axQ h');exact h' ei ((aax.eq qR hc' ei).1 hei)
   have aHS:yc P j8 or' (J.app oi.dst ei) Sr:=by
    refine Xg.fwd (j:=r) a3 (fun er her=>?_)
    grind [DP]
   refine⟨?_,?_⟩
   ·grind [DP]
   ·have sA:(r::R).erase i=r::R.erase i:=dD (by simpa using e);rw[sA];refine⟨or',Sr,hor,aHS,fun er her=>⟨(h er her).1,?_⟩⟩;have hs:=same er her
    have hi':CN ⟨r,J.heap.length,er⟩ ei=true:=by
     grind [DP]
    have axR:=api (d:=or'.dst) (d':=oi.dst) a2 hi' (Xg.lt her).2 (by
     intro l hl;have:=(aax.lt hei).2 l hl
     grind [jJ.app,uX])
    rw[<-axR];refine ajb ?_ hs.2;intro t' ht';rcases cw.1 ht' with ht'|ht'
    ·grind
    simp_all [jJ.app,uX]
def Vx{f:Nat->Nat}{r:Nat}:∀(ds:List Nat)(s:Nat),(ds.foldl (fun s d=>s|||2 ^ d|||f d) s).testBit r=true->s.testBit r=true\/∃d∈ds,d=r\/(f d).testBit r=true
 |[],s,h=>.inl h
 |d::ds,s,h=>by
  simp only[List.foldl_cons]at h;rcases Vx ds _ h with h|⟨d',hd',h⟩
  all_goals grind
def ahm{L:Nat->Prop}{all:List aJ1}(auG: ∀j o,all[j]? =some o->L j-> ∀d∈AY o,L d): ∀(os:List aJ1)(lN:List Nat),all.drop lN.length=os->
 (∀k o,all[k]? =some o->k<lN.length->(∀d∈AY o,L d)->∀r,(lN.getD k 0).testBit r=true->L r)->(∀k o,all[k]? =some o->∀d∈AY o,d<k)->
 ∀k o,all[k]? =some o->(∀d∈AY o,L d)->∀r,((anC os lN).getD k 0).testBit r=true->L r
 |[],lN,hd,h,_=>by
  intro k o hk EI r hr;refine h k o hk ?_ EI r hr;have h1:all.length<=lN.length:=by simpa using hd
  grind
 |o::os,lN,hd,h,mR=>by
  refine ahm auG os _ ?_ ?_ mR
  ·grind [dm]
  ·intro k o' hk hkl EI r hr
   have ho:all[lN.length]? =some o:=by
    have:=congrArg (fun l:List aJ1=>l[0]?) hd;simpa using this
   by_cases e:k<lN.length
   ·rw[cQ,cq e,<-cQ]at hr;exact h k o' hk e EI r hr
   ·have e2:k=lN.length:=by simp at hkl;omega
    subst e2;rw[ho]at hk;cases hk;rw[cQ,cx (b9 _)]at hr;simp only[Nat.sub_self,List.getElem?_cons_zero,da]at hr;rcases Vx (f:=fun d=>lN.getD d 0) _ _ hr with h0|⟨d,hd',rfl|h1⟩
    ·simp at h0
    ·exact EI d hd'
    ·have hdl:d<lN.length:=mR _ _ ho d hd';have aFE:d<all.length:=by grind
     exact h d all[d] (bW aFE) hdl (auG d _ (bW aFE) (EI d hd')) r h1
end
theorem oJ(m j:Nat):(b8 m false).getD j false=false:=by
 by_cases h:j<m<;>simp [Array.getD,h]
section region
variable {C:qu}
def MZ(S:mM C U J a w){E:vW->Prop}(ho:j8[i]? =some o)(h:yc C.P j8 o J E){K:Act->aJ6->Prop}{Q':Exit->Act->aJ6->Prop}
 (hK:∀e U' v w',E e->mM C U' (J.app o.dst e) (a.put o.dst v) w'->K (a.put o.dst v) w'):wpOpIn (Ga ro) 0 C.P j8 Q' i K a w:=by
 unfold wpOpIn;simp only[ho];rcases h with⟨hw,h⟩|⟨hw,_,e,he,hp,h⟩|⟨hw,f,args,V,hc,hf,_,h⟩|⟨hw,f,args,e,hc,hf,h⟩
 ·rw[zZ S hw];simp only[cU,if_false];refine⟨fun _ _=>trivial,hK _ U undef w ((h _).2 rfl) ?_⟩;rw[KA];exact S.put o.dst rfl
 ·rw[zZ S hw];simp only[jE];obtain⟨n,v,w',U',hr,hn,S'⟩:=Sc S he hp;refine⟨fun _ _=>trivial,?_⟩
  grind [cZ,apd,Oper.uponIn_value,Oper.uponIn_skip]
 ·rw[zZ S hw];simp only[jE];have xE:Bf C.P f args J (fun o' H'=>∃r,V r/\o'=.ret r/\H'=J.heap):=aeR hf (fun r hr=>⟨r,hr,rfl,rfl⟩);obtain⟨vs,uz,hr⟩:=KC S hc xE.1;refine⟨fun _ _=>trivial,?_⟩;rw[cZ _ _ _ (NV hc),uz,cV];refine⟨fun h=>by simp [Ga,cf]at h,JB.2 ?_⟩;refine(xE.2 C U a w rfl S vs hr).mono fun en w' ⟨o',U',H',⟨r,hV,ho',hH⟩,S',ui⟩=>?_
  subst ho' hH;cases en with
  |returned v=>
   refine hK {val:=r} U' v w' ((h _).2 ⟨r,hV,rfl⟩) ?_;rw[KA];exact S'.put o.dst ui
  |panicked chain=>exact ui.elim
  |outgrown=>exact ui.elim
 ·rw[zZ S hw];simp only[jE];have xE:=hf.2 J (fun _ _=>rfl) (fun _=>rfl) (fun _=>rfl);obtain⟨vs,uz,hr⟩:=KC S hc xE.1;refine⟨fun _ _=>trivial,?_⟩;rw[cZ _ _ _ (NV hc),uz,cV];refine⟨fun h=>by simp [Ga,cf]at h,JB.2 ?_⟩;refine(xE.2 C U a w rfl S vs hr).mono fun en w' ⟨o',U',H',⟨ho',hH⟩,S',ui⟩=>?_
  subst ho' hH;cases en with
  |returned v=>
   refine hK e U' v w' ((h _).2 rfl) ?_;have:=S'.put o.dst ui
   have e1:({J with heap:=mh J.heap e.up++e.nw}:jJ).put o.dst e.val=J.app o.dst e:=by
    cases hd:o.dst<;>rfl
   rw[e1]at this;exact this
  |panicked chain=>exact ui.elim
  |outgrown=>exact ui.elim
end region
def I8{E:Dw}{b:Nat}{c:Array aJ2}{t:TypeId}{fr:Nat×Nat}(hcb:E.w.heap[b]? =some (.cells c t fr)): ∀(cs:List AV)(off:Nat),(∀o,off<=o->o<off+cs.length-> ¬ E.mu b o)->
 ko E cs ((c.toList.drop off).take cs.length)->(∀u∈(c.toList.drop off).take cs.length,u.oneCell'=true)->oz E b off cs
 |[],_,_,_,_=>trivial
 |x::cs,off,hm,r,h1=>by
  obtain⟨u,us,hu,r1,r2⟩:=r
  have hcu:c[off]? =some u:=by
   have:(c.toList.drop off)[0]? =some u:=by
    have:=congrArg (fun l:List aJ2=>l[0]?) hu;simpa using this
   simpa using this
  have htl:us=(c.toList.drop (off+1)).take cs.length:=by
   have h1:=congrArg List.tail hu;simp only[List.tail_cons]at h1;rw[<-h1];cases hd:c.toList.drop off with
   |nil=>rw[hd]at hu;simp at hu
   |cons y ys=>
    grind [dm]
  refine⟨⟨hm off (b9 _) (by simp),u,by grind [World.cell?],h1 u (by rw[hu];simp),r1⟩,I8 hcb cs (off+1) (fun o h2 h3=>hm o (by omega) (by simp;omega)) (by rw[<-htl];exact r2) (fun v hv=>h1 v (by rw[hu,htl];simp [hv]))⟩
def Vy{E:Dw}{b sz:Nat}{c:Array aJ2}{t:TypeId}{fr:Nat×Nat}(hcb:E.w.heap[b]? =some (.cells c t fr)):∀(rs:List (List AV))(off:Nat),(∀r∈rs,r.length=sz)->
 (∀o,off<=o->o<off+rs.length*sz-> ¬ E.mu b o)->ko E rs.flatten ((c.toList.drop off).take (rs.length*sz))->(∀u∈(c.toList.drop off).take (rs.length*sz),u.oneCell'=true)->nS E sz b off rs
 |[],_,_,_,_,_=>trivial
 |r::rs,off,hl,hm,h,h1=>by
  have hr:r.length=sz:=hl r (by simp);simp only[cO]at h;have h3:=ko.take r.length h;have h2:=ko.drop r.length h;simp only[cK,cM,List.take_take,List.drop_take,List.drop_drop]at h3 h2
  have e1:min r.length ((r::rs).length*sz)=r.length:=by
   grind [Nat.add_mul]
  have e2:(r::rs).length*sz-r.length=rs.length*sz:=by grind [Nat.add_mul]
  have e3:(r::rs).length*sz=rs.length*sz+sz:=by grind
  rw[e1]at h3;rw[e2,hr]at h2;refine⟨hr,I8 hcb r off (fun o h4 h5=>hm o h4 (by omega)) h3 (fun u hu=>h1 u ?_),Vy hcb rs (off+sz) (fun q hq=>hl q (by simp [hq])) (fun o h4 h5=>hm o (by omega) (by omega)) h2 (fun u hu=>h1 u ?_)⟩
  all_goals grind [List.drop_drop]
def rJ(n:Nat):jT->Prop
 |.cells cs=>w5 n cs
 |.lN _ _ rows=>NC n rows
 |.map es=>∀p∈es,p.1.nb n/\p.2.nb n
 |.loop _ jV _ _=>w5 n jV
 |.iter _ _=>True
 |.Io _=>True
 |.xu=>True
def LY(x y:AV):Prop:=∀(E:Dw)(v:aJ2),pg E x v->pg E y v
def q8(xs ys:List AV):Prop:=∀(E:Dw)(vs:List aJ2),ko E xs vs->ko E ys vs
def OY(xs ys:List (List AV)):Prop:=xs.length=ys.length/\∀(E:Dw)(sz b off:Nat),nS E sz b off xs->nS E sz b off ys
def agh(xs ys:List AV):Prop:=xs.length=ys.length/\∀(E:Dw)(b off:Nat),oz E b off xs->oz E b off ys
theorem LY.refl(x:AV):LY x x:=fun _ _ h=>h
def LY.any(x:AV):LY x .any:=fun _ _ _=>trivial
theorem q8.refl(xs:List AV):q8 xs xs:=fun _ _ h=>h
theorem q8.nil:q8 [] []:=fun _ _ h=>h
theorem q8.cons(h:LY x y)(hs:q8 xs ys):q8 (x::xs) (y::ys):=fun E _ ⟨u,us,hv,r1,r2⟩=>⟨u,us,hv,h E u r1,hs E us r2⟩
theorem agh.refl(xs:List AV):agh xs xs:=⟨rfl,fun _ _ _ h=>h⟩
theorem agh.nil:agh [] []:=agh.refl []
theorem agh.cons(h:LY x y)(hs:agh xs ys):agh (x::xs) (y::ys):=
 ⟨by simp [hs.1],fun E b off ⟨⟨hm,u,hu,h1,r⟩,r2⟩=>⟨⟨hm,u,hu,h1,h E u r⟩,hs.2 E b _ r2⟩⟩
theorem OY.refl(xs:List (List AV)):OY xs xs:=⟨rfl,fun _ _ _ _ h=>h⟩
theorem OY.nil:OY [] []:=OY.refl []
theorem OY.cons{x y:List AV}{xs ys:List (List AV)}(h:agh x y)(hs:OY xs ys):OY (x::xs) (y::ys):=
 ⟨by simp [hs.1],fun E sz b off ⟨h1,r,r2⟩=>⟨by rw[<-h.1];exact h1,h.2 E b off r,hs.2 E sz b _ r2⟩⟩
def LY.agg(h:q8 xs ys):LY (.agg xs) (.agg ys):=fun E _ ⟨vs,hv,r⟩=>⟨vs,hv,h E _ r⟩
def LY.Ip(h:q8 xs ys):LY (.Ip xs) (.Ip ys):=fun E _ ⟨vs,hv,r⟩=>⟨vs,hv,h E _ r⟩
def LY.pp(h:agh xs ys):LY (.pp xs) (.pp ys):=fun E _ ⟨b,off,hv,r⟩=>⟨b,off,hv,h.2 E b off r⟩
def LY.func{fn:Fn}{f f' c c':List AV}(h:q8 f f')(h':q8 c c'):LY (.func fn f c) (.func fn f' c'):=fun E _ ⟨a,b,hv,r1,r2⟩=>⟨a,b,hv,h E _ r1,h' E _ r2⟩
def LY.kW{t:Bool}{sz:Nat}{xs ys:List (List AV)}(h:OY xs ys):LY (.kW t sz xs) (.kW false sz ys):=fun E v ⟨base,cap,h1,h2,h3,h4,h5,h6⟩=>
 ⟨base,cap,by rw[<-h.1];exact h1,by rw[<-h.1];exact h2,(by intro h;cases h),h4,fun a ha sA=>h5 a ha (fun e=>sA (by have:=h.1;grind)),fun a ha=>h.2 E sz _ _ (h6 a ha)⟩
def LY.empty(t:Bool)(sz Ph:Nat):LY (.kW t sz []) (.kW false Ph []):=fun _ _ ⟨base,cap,h1,h2,_,h4,_,_⟩=>
 ⟨base,cap,h1,h2,(by intro h;cases h),h4,(by intro a _ h;exact absurd rfl h),fun _ _=>trivial⟩
def Co1(H:List jT)(n:Nat)(x y:AV):Prop:=
 (LY x y/\y.nb n)\/∃l m sz rows,x=.lN l m/\H[l]? =some (.lN true sz rows)/\rows.length=m/\LY (.kW false sz rows) y/\y.nb n
def n7(H:List jT)(n:Nat):List AV->List AV->Prop
 |[],ys=>ys=[]
 |x::xs,ys=>∃y zs,ys=y::zs/\Co1 H n x y/\n7 H n xs zs
def Co(H:List jT)(n:Nat)(x y:AV):Prop:=Co1 H n x y\/∃cs ds,x=.agg cs/\y=.agg ds/\n7 H n cs ds
def EG(H:List jT)(n:Nat):List AV->List AV->Prop
 |[],ys=>ys=[]
 |x::xs,ys=>∃y zs,ys=y::zs/\Co H n x y/\EG H n xs zs
def DQ{n:Nat}:∀{p q:List AV},w5 n p->w5 n q->w5 n (p++q)
 |[],_,_,hq=>hq
 |_::_,_,hp,hq=>⟨hp.1,DQ hp.2 hq⟩
def JD{n:Nat}:∀{rows:List (List AV)},NC n rows->w5 n rows.flatten
 |[],_=>trivial
 |_::_,h=>by simp only[cO];exact DQ h.1 (JD h.2)
def I9:List (List AV)->List (List AV)->Prop
 |[],ys=>ys=[]
 |x::xs,ys=>∃y zs,ys=y::zs/\(x.length=y.length/\q8 x y)/\I9 xs zs
theorem I9.length:∀{xs ys:List (List AV)},I9 xs ys->ys.length=xs.length
 |[],_,rfl=>rfl
 |_::_,_,⟨_,_,rfl,_,h⟩=>by simp [I9.length h]
theorem I9.sz{sz:Nat}:∀{xs ys:List (List AV)},I9 xs ys->(∀r∈xs,r.length=sz)->∀r∈ys,r.length=sz
 |[],_,rfl,_=>by simp
 |x::_,_,⟨y,_,rfl,h1,h⟩,hl=>by
  intro r hr;simp only[cH]at hr;rcases hr with rfl|hr
  ·rw[<-h1.1];exact hl x (by simp)
  ·exact I9.sz h (fun q hq=>hl q (by simp [hq])) r hr
def I9.flat:∀{xs ys:List (List AV)}{vs:List aJ2},I9 xs ys->ko E xs.flatten vs->ko E ys.flatten vs
 |[],_,_,rfl,r=>r
 |x::xs,_,vs,⟨y,zs,rfl,h1,h⟩,r=>by
  simp only[cO]at r ⊢;have h3:=ko.take x.length r;have h2:=ko.drop x.length r;simp only[cK,cM]at h3 h2;have:=ko.append (h1.2 _ _ h3) (I9.flat h h2)
  rwa [List.take_append_drop]at this
def Qp(H:List jT)(n:Nat)(x y:jT):Prop:=
 y=.xu\/(y=x/\rJ n x)\/(∃cs ds,x=.cells cs/\y=.cells ds/\EG H n cs ds)\/(∃tN sz rows xD,x=.lN tN sz rows/\y=.lN tN sz xD/\I9 rows xD/\NC n xD)\/
  ∃k s s' st uu,x=.loop k s st uu/\y=.loop k s' st uu/\EG H n s s'
def CoH(H:List jT)(n:Nat):List jT->List jT->Prop
 |_,[]=>True
 |[],_::_=>False
 |x::xs,y::ys=>Qp H n x y/\CoH H n xs ys
def ash(n:Nat)(df:List (aJ4×List AV)):Prop:=∀p∈df,w5 n p.2
def aay:ash n []:=fun _ h=>by cases h
def ajd(J J':jJ):Prop:=((J'.low=J.low/\J.low<=J'.heap.length)/\J'.df=J.df/\ash J'.heap.length J.df)/\EG J.heap J'.heap.length J.jV J'.jV/\CoH J.heap J'.heap.length J.heap J'.heap
def CoH.get:∀{xs ys:List jT}{l:Nat}{y:jT},CoH H n xs ys->ys[l]? =some y->∃x,xs[l]? =some x/\Qp H n x y
 |_,[],_,_,_,h=>by simp at h
 |[],_::_,_,_,h,_=>h.elim
 |x::_,_::_,0,_,⟨h,_⟩,hy=>by simp at hy;subst hy;exact⟨x,by simp,h⟩
 |_::_,_::_,l+1,_,⟨_,h⟩,hy=>by
  simp at hy;obtain⟨x,hx,hc⟩:=CoH.get h hy;exact⟨x,by simpa using hx,hc⟩
section weak
variable {C:qu}
def EG.rep(zf:∀x y v,Co H n x y->pg E x v->pg E' y v):∀{xs ys:List AV}{vs:List aJ2},EG H n xs ys->ko E xs vs->ko E' ys vs
 |[],_,_,rfl,r=>r
 |_::_,_,_,⟨y,zs,rfl,hc,hr⟩,⟨u,us,rfl,r1,r2⟩=>⟨u,us,rfl,zf _ y u hc r1,EG.rep zf hr r2⟩
def n7.rep(zf:∀x y v,Co1 H n x y->pg E x v->pg E' y v):∀{xs ys:List AV}{vs:List aJ2},n7 H n xs ys->ko E xs vs->ko E' ys vs
 |[],_,_,rfl,r=>r
 |_::_,_,_,⟨y,zs,rfl,hc,hr⟩,⟨u,us,rfl,r1,r2⟩=>⟨u,us,rfl,zf _ y u hc r1,n7.rep zf hr r2⟩
def Co.of1(zf:∀x y v,Co1 H n x y->pg E x v->pg E' y v)(x y:AV)(v:aJ2)(h:Co H n x y)(r:pg E x v):pg E' y v:=by
 rcases h with h|⟨cs,ds,rfl,rfl,h⟩
 ·exact zf x y v h r
 ·obtain⟨vs,hv,rl⟩:=r;exact⟨vs,hv,n7.rep zf h rl⟩
def Co.rep(S:mM C U J a w)(h:Co J.heap n x y)(r:pg (C.env U J.heap w) x v):pg (C.env U J.heap w) y v:=by
 refine Co.of1 ?_ x y v h r;intro x y v hc r;rcases hc with⟨acJ,hn⟩|⟨l,m,sz,rows,rfl,hl,hm,acJ,hn⟩
 ·exact acJ _ _ r
 ·have hv:=ND S hl hm r;subst hv;exact acJ _ _ (aaq S hl)
def EG.aHT(S:mM C U J a w){vs:List aJ2}(h:EG J.heap n xs ys)(r:ko (C.env U J.heap w) xs vs):ko (C.env U J.heap w) ys vs:=
 EG.rep (fun _ _ _ h r=>Co.rep S h r) h r
def ajd.sim(h:ajd J J')(S:mM C U J a w):mM C U J' a w:=by
 obtain⟨⟨It,ZI,hdn⟩,hs,hh⟩:=h;have OX:∀(l:Nat)(y:jT),J'.heap[l]? =some y->∃x,J.heap[l]? =some x/\Qp J.heap J'.heap.length x y:=fun l y hy=>hh.get hy
 have ahk:∀{x y:jT}{h:aJ2}{b o:Nat},Qp J.heap J'.heap.length x y->y.AT h b o->x.AT h b o:=by
  intro x y h b o hc hm;rcases hc with rfl|⟨rfl,_⟩|⟨cs,ds,rfl,rfl,_⟩|⟨tN,sz,rows,xD,rfl,rfl,_,_⟩|⟨lk,s1,s2,st,uu,rfl,rfl,_⟩
  ·simp [jT.AT]at hm
  ·exact hm
  ·cases h with
   |pointer p=>cases p<;>exact hm
   |_=>exact hm
  ·cases h with
   |slice p _ _=>cases p<;>exact hm
   |_=>exact hm
  ·cases h with
   |func q _ _=>cases q<;>exact hm
   |_=>exact hm
 have Fi:∀{x y:jT}{h:aJ2}{b:Nat},Qp J.heap J'.heap.length x y->y.block h b->x.block h b:=by
  intro x y h b hc hm;rcases hc with rfl|⟨rfl,_⟩|⟨cs,ds,rfl,rfl,_⟩|⟨tN,sz,rows,xD,rfl,rfl,_,_⟩|⟨lk,s1,s2,st,uu,rfl,rfl,_⟩
  ·simp [jT.block]at hm
  ·exact hm
  ·cases h with
   |pointer p=>cases p<;>exact hm
   |_=>exact hm
  ·cases h with
   |slice p _ _=>cases p<;>exact hm
   |_=>exact hm
  ·cases h with
   |func q _ _=>cases q<;>exact hm
   |_=>exact hm
 have L0:∀b o,F8 U J'.heap b o->F8 U J.heap b o:=by
  rintro b o ⟨l,y,hy,hm⟩;obtain⟨x,hx,hc⟩:=OX l y hy;exact⟨l,x,hx,ahk hc hm⟩
 have le:(C.env U J.heap w).Le J'.heap.length (C.env U J'.heap w):=by
  refine⟨b9 _,fun l hl=>.inl ⟨rfl,?_⟩,fun b o u hm hc=>⟨fun h=>hm (h.imp (L0 b o) id),hc⟩,CF _⟩;obtain⟨x,hx,hc⟩:=OX l J'.heap[l] (bW hl);simp only[qu.env];rw[bW hl,hx];rcases hc with h|⟨h,_⟩|⟨cs,ds,rfl,h,_⟩|⟨tN,sz,rows,xD,rfl,h,hr,_⟩|⟨lk,s1,s2,st,uu,rfl,h,_⟩
  ·right;rw[h];rfl
  ·left;rw[h]
  ·left;rw[h];rfl
  ·left;rw[h];simp only[lZ,hr.length]
  ·left;rw[h];rfl
 have zf:∀x y v,Co J.heap J'.heap.length x y->pg (C.env U J.heap w) x v->pg (C.env U J'.heap w) y v:=by
  refine Co.of1 ?_;intro x y v hc r;rcases hc with⟨acJ,hn⟩|⟨l,m,sz,rows,rfl,hl,hm,acJ,hn⟩
  ·exact pg.mono le _ _ hn (acJ _ _ r)
  ·have hv:=ND S hl hm r;subst hv;exact pg.mono le _ _ hn (acJ _ _ (aaq S hl))
 have BM:sQ C U J'.heap w J'.df a.defers:=by
  rw[ZI]
  exact S.defers.ao0 (fun xs vs ⟨f,hf⟩ r=>ko.mono le _ _ (hdn _ hf) r) (fun _ _ _=>rfl) (fun l x b hx hb=>by
   grind)
 refine {jV:=EG.rep zf hs S.jV,defers:=BM,nX:=?_,apart:=?_,tW:=?_,size:=S.size,F9:=S.F9,nM:=S.nM,Ce:=?_,wS:=S.wS,rest:=S.rest,low:=⟨by rw[It.1];exact S.low.1,by rw[It.1];exact It.2⟩,lR:=?_}
 ·intro l y hy;obtain⟨x,hx,hc⟩:=OX l y hy;have r:=S.nX l x hx;rcases hc with rfl|⟨rfl,hn⟩|⟨cs,ds,rfl,rfl,hcl⟩|⟨tN,sz,rows,xD,rfl,rfl,hr,hn⟩|⟨lk,s1,s2,st,uu,rfl,rfl,hcl⟩
  ·exact trivial
  ·cases y with
   |cells cs=>
    obtain⟨b,c,t,h1,h2,rl,h3⟩:=r;exact⟨b,c,t,h1,h2,ko.mono le _ _ hn rl,h3⟩
   |lN tN sz rows=>
    obtain⟨base,cap,h1,h2,h3,h4,h5⟩:=r;refine⟨base,cap,h1,h2,h3,h4,fun a0 ha hc=>?_⟩;obtain⟨h6,c,t,h7,h8,rl,h9⟩:=h5 a0 ha hc
    exact⟨h6,c,t,h7,h8,ko.mono le _ _ (by
     clear rl h9 h8 h7 h6 hc ha h5 h4 h3 h2 h1;revert hn;simp only[rJ];clear hy hx;induction rows with
     |nil=>intro _;trivial
     |cons r rs ih=>
      intro hn;simp only[cO]
      have:∀(p q:List AV),w5 J'.heap.length p->w5 J'.heap.length q->w5 J'.heap.length (p++q):=by
       intro p q hp hq;induction p with
       |nil=>exact hq
       |cons z p ihp=>exact⟨hp.1,ihp hp.2⟩
      exact this r _ hn.1 (ih hn.2)) rl,h9⟩
   |map es=>
    obtain⟨r',en,cl,h1,h2,rp⟩:=r;exact⟨r',en,cl,h1,h2,sP.mono le hn rp⟩
   |loop lk s1 st uu=>
    obtain⟨D,rec,h1,h2,h3,h4,rl⟩:=r;exact⟨D,rec,h1,h2,h3,h4,ko.mono le _ _ hn rl⟩
   |iter s p=>exact r
   |Io s=>exact r
   |xu=>trivial
  ·obtain⟨b,c,t,h1,h2,rl,h3⟩:=r;exact⟨b,c,t,h1,h2,EG.rep zf hcl rl,h3⟩
  ·obtain⟨base,cap,h1,h2,h3,h4,h5⟩:=r;have hlen:=hr.length;refine⟨base,cap,by rw[hlen];exact h1,by rw[hlen];exact h2,h3,hr.sz h4,fun a0 ha hc=>?_⟩;obtain⟨h6,c,t,h7,h8,rl,h9⟩:=h5 a0 ha hc;rw[hlen];exact⟨h6,c,t,h7,h8,ko.mono le _ _ (JD hn) (hr.flat rl),h9⟩
  ·obtain⟨D,rec,h1,h2,h3,h4,rl⟩:=r;exact⟨D,rec,h1,h2,h3,h4,EG.rep zf hcl rl⟩
 ·intro l l' x x' b hx Dt hb qR;obtain⟨y,hy,hc⟩:=OX l x hx;obtain⟨y',hy',hc'⟩:=OX l' x' Dt;exact S.apart l l' y y' b hy hy' (Fi hc hb) (Fi hc' qR)
 ·intro l x b o hx hb;obtain⟨y,hy,hc⟩:=OX l x hx;exact S.tW l y b o hy (Fi hc hb)
 ·intro l x b o hx hm hb;obtain⟨y,hy,hc⟩:=OX l x hx;exact S.Ce l y b o hy (ahk hc hm) hb
 ·intro l hl;have mR:l<J'.heap.length:=by have:=S.low;omega
  obtain⟨x,hx,hc⟩:=OX l J'.heap[l] (bW mR);have hn:=S.lR l hl;rw[hx]at hn;rw[bW mR]
  have auH:lZ (some J'.heap[l])=lZ (some x)\/lZ (some J'.heap[l])=none:=by
   rcases hc with h|⟨h,_⟩|⟨cs,ds,rfl,h,_⟩|⟨tN,sz,rows,xD,rfl,h,hr,_⟩|⟨lk,s1,s2,st,uu,rfl,h,_⟩
   ·right;rw[h];rfl
   ·left;rw[h]
   ·left;rw[h];rfl
   ·left;rw[h];simp only[lZ,hr.length]
   ·left;rw[h];rfl
  grind
def ajd.imp(h:ajd J J'):KB J J':=fun _ U _ _ S=>⟨U,h.sim S⟩
def apl {s sz:Nat}{tN:Bool}(h:J.jV[i]? =some (.kW true s [])):KB J {J with jV:=J.jV.set i (.lN J.heap.length 0),heap:=J.heap++[.lN tN sz []]}:=by
 intro C U a w S;obtain⟨v,hv,base,cap,rfl,_,hc,_⟩:=S.jV.get h;have CK:cap=0:=hc rfl;subst CK
 have S':=S.Xs (tN:=tN) (sz:=sz) (rows:=[]) (w':=w) (h':=.slice base 0 0) (b9 _) (fun _ _=>rfl) (fun _=>rfl) ⟨rfl,rfl⟩ (by
  intro b hb;cases base<;>simp [jT.block]at hb) (fun E' _ _=>⟨base,0,rfl,b9 _,fun _=>rfl,by simp,fun b _ h0=>absurd rfl h0⟩)
 refine⟨(fun k=>if k=J.heap.length then .slice base 0 0 else U k),?_⟩
 have:=S'.put (some i) (x:=.lN J.heap.length 0) (v:=.slice base 0 0) ⟨by simp [qu.env],⟨_,_,_,rfl⟩,fun k hk=>by
  grind [qu.env]⟩
 refine {this with jV:=?_,defers:=this.defers};have hs:=this.jV
 have ha:(a.put (some i) (.slice base 0 0)).tmps.toList=a.tmps.toList:=by
  simp only[Act.put,Array.toList_setIfInBounds];apply List.ext_getElem?
  grind
 rw[ha]at hs;exact hs
end weak
mutual
def frz(low:Nat)(H:List jT):AV->AV
 | .lN l n=>if l<low then .lN l n else match H[l]? with
   |some (.lN _ sz rows)=>if rows.length=n then .kW false sz rows else .any
   |_=>.any
 |.own l i n o sz=>if l<low then .own l i n o sz else .any
 |.agg cs=>.agg (ak9 low H cs)
 |.Ip cs=>.Ip (ak9 low H cs)
 |.any=>.any
 |.bool b=>.bool b
 |.int k n=>.int k n
 |.str s=>.str s
 |.sO v=>.sO v
 |.kW t sz rows=>.kW t sz rows
 |.ptr l off=>.ptr l off
 |.map l=>.map l
 |.pp cs=>.pp cs
 |.func fn f c=>.func fn f c
 |.iface t x=>.iface t x
 |.sn t l=>.sn t l
def ak9(low:Nat)(H:List jT):List AV->List AV
 |[]=>[]
 |x::xs=>frz low H x::ak9 low H xs
end
section res
variable {C:qu}
def apm(_S:mM C U J a w):(C.env U J.heap w).Le 0 (C.env U [] w):=by
 refine⟨dK _,fun l hl=>absurd hl (ck _),fun b o u hm hc=>⟨?_,hc⟩,CF _⟩;simp only[qu.env]at hm ⊢;rintro(⟨l,x,hx,_⟩|h)
 all_goals grind
structure axS(C:qu)(U:Nat->aJ2)(J:jJ)(w:aJ6)(E':Dw):Prop where
 le:(C.env U J.heap w).Le J.low E'
 w:E'.w=w
 free:∀(l:Nat)(x:jT)(b o:Nat),J.low<=l->J.heap[l]? =some x->x.block (U l) b-> ¬ E'.mu b o
def mM.aC6(S:mM C U J a w)(h0:J.low=0):axS C U J w (C.env U [] w):=by
 refine⟨by rw[h0];exact apm S,rfl,fun l x b o _ hx hb=>?_⟩;simp only[qu.env];rintro(⟨l',y,hy,_⟩|hA)
 ·simp at hy
 ·exact S.tW l x b o hx hb hA
mutual
def agi(S:mM C U J a w){E':Dw}(D:axS C U J w E'):
 ∀(x:AV)(v:aJ2),(frz J.low J.heap x).nb J.low->pg (C.env U J.heap w) x v->pg E' (frz J.low J.heap x) v
 | .lN l n,v,hn,r=>by
   simp only[frz]at hn ⊢;by_cases It:l<J.low
   ·rw[if_pos It];exact pg.mono D.le (.lN l n) v It r
   ·rw[if_neg It] at hn ⊢;split
    ·rename_i tN sz rows hl;simp only[hl]at hn;split
     ·rename_i hlen;rw[if_pos hlen]at hn;have hv:=ND S hl hlen r;subst hv;obtain⟨base,cap,hh,h2,h3,h4,h5⟩:=S.nX l _ hl;refine⟨base,cap,hh,h2,(by intro h;cases h),h3,?_,?_⟩
      ·intro b hb sA;exact(h5 b hb (fun h0=>sA (cv (by omega)))).1
      ·intro b hb;by_cases hc:cap=0
       ·have:rows=[]:=cv (by omega);subst this;trivial
       ·obtain⟨hsp,c,t,hcb,hsz,rl,h1⟩:=h5 b hb hc;subst hb;refine Vy (E:=E') (c:=c) (t:=t) (fr:=(0,0)) (by rw[D.w];exact hcb) rows b.off h4 ?_ (ko.mono D.le _ _ (JD hn) rl) h1;intro o _ _;exact D.free l _ b.block o (by omega) hl (by rw[hh];exact⟨rfl,hc⟩)
     ·exact trivial
    ·exact trivial
 | .own l i n o sz,v,hn,r=>by
   simp only[frz]at hn ⊢;by_cases It:l<J.low
   ·rw[if_pos It];exact pg.mono D.le (.own l i n o sz) v It r
   ·rw[if_neg It];exact trivial
 |.agg cs,v,hn,⟨vs,hv,rl⟩=>⟨vs,hv,ad7 S D cs _ hn rl⟩
 |.Ip cs,v,hn,⟨vs,hv,rl⟩=>⟨vs,hv,ad7 S D cs _ hn rl⟩
 |.any,_,_,_=>trivial
 |.bool _,_,_,r=>r
 |.int _ _,_,_,r=>r
 |.str _,_,_,r=>r
 |.sO _,_,_,r=>r
 |.kW t sz rows,_,hn,r=>pg.mono D.le (.kW t sz rows) _ hn r
 |.ptr l off,_,hn,r=>pg.mono D.le (.ptr l off) _ hn r
 |.map l,_,hn,r=>pg.mono D.le (.map l) _ hn r
 |.pp cs,_,hn,r=>pg.mono D.le (.pp cs) _ hn r
 |.func fn f c,_,hn,r=>pg.mono D.le (.func fn f c) _ hn r
 |.iface t x,_,hn,r=>pg.mono D.le (.iface t x) _ hn r
 |.sn t l,_,hn,r=>pg.mono D.le (.sn t l) _ hn r
def ad7(S:mM C U J a w){E':Dw}(D:axS C U J w E'):
 ∀(xs:List AV)(vs:List aJ2),w5 J.low (ak9 J.low J.heap xs)->ko (C.env U J.heap w) xs vs->ko E' (ak9 J.low J.heap xs) vs
 |[],_,_,r=>r
 |x::xs,_,hn,⟨u,us,hv,r1,r2⟩=>⟨u,us,hv,agi S D x u hn.1 r1,ad7 S D xs us hn.2 r2⟩
end
mutual
theorem avN(low:Nat)(H:List jT):∀x:AV,x.nb 0->frz low H x=x
 |.lN _ _,h=>absurd h (ck _)
 |.own _ _ _ _ _,h=>absurd h (ck _)
 |.agg cs,h=>by rw[frz,Qq low H cs h]
 |.Ip cs,h=>by rw[frz,Qq low H cs h]
 |.any,_|.bool _,_|.int _ _,_|.str _,_|.sO _,_|.kW _ _ _,_|.ptr _ _,_|.map _,_|.pp _,_|.func _ _ _,_|.iface _ _,_|.sn _ _,_=>by rw[frz]
theorem Qq(low:Nat)(H:List jT):∀xs:List AV,w5 0 xs->ak9 low H xs=xs
 |[],_=>rfl
 |x::xs,h=>by rw[ak9,avN low H x h.1,Qq low H xs h.2]
end
end res
mutual
def AV.qc(Y:Nat->Nat):AV->AV
 |.agg cs=>.agg (sZ Y cs)
 |.Ip cs=>.Ip (sZ Y cs)
 |.pp cs=>.pp (sZ Y cs)
 |.kW t sz rows=>.kW t sz (Gc Y rows)
 |.lN l n=>.lN (Y l) n
 |.own l off len cap sz=>.own (Y l) off len cap sz
 |.ptr l off=>.ptr (Y l) off
 |.map l=>.map (Y l)
 |.sn t l=>.sn t (Y l)
 |.func fn f c=>.func fn (sZ Y f) (sZ Y c)
 |.iface t x=>.iface t (x.qc Y)
 |.any=>.any
 |.bool b=>.bool b
 |.int k n=>.int k n
 |.str s=>.str s
 |.sO v=>.sO v
def sZ(Y:Nat->Nat):List AV->List AV
 |[]=>[]
 |c::cs=>c.qc Y::sZ Y cs
def Gc(Y:Nat->Nat):List (List AV)->List (List AV)
 |[]=>[]
 |r::rs=>sZ Y r::Gc Y rs
end
theorem NW(Y:Nat->Nat):∀cs:List AV,(sZ Y cs).length=cs.length
 |[]=>rfl
 |_::cs=>by simp [sZ,NW Y cs]
theorem vl(Y:Nat->Nat):∀cs:List (List AV),(Gc Y cs).length=cs.length
 |[]=>rfl
 |_::cs=>by simp [Gc,vl Y cs]
theorem aaz(Y:Nat->Nat):∀a b:List AV,sZ Y (a++b)=sZ Y a++sZ Y b
 |[],_=>rfl
 |_::a,b=>by simp [sZ,aaz Y a b]
theorem Xv(Y:Nat->Nat):∀rs:List (List AV),(Gc Y rs).flatten=sZ Y rs.flatten
 |[]=>rfl
 |r::rs=>by simp [Gc,aaz,Xv Y rs]
mutual
theorem M1(Y:Nat->Nat):∀x:AV,x.nb 0->x.qc Y=x
 |.lN _ _,h=>absurd h (ck _)
 |.own _ _ _ _ _,h=>absurd h (ck _)
 |.ptr _ _,h=>absurd h (ck _)
 |.map _,h=>absurd h (ck _)
 |.sn _ _,h=>absurd h (ck _)
 |.agg cs,h=>by rw[AV.qc,rR Y cs h]
 |.Ip cs,h=>by rw[AV.qc,rR Y cs h]
 |.pp cs,h=>by rw[AV.qc,rR Y cs h]
 |.kW _ _ rows,h=>by rw[AV.qc,wo Y rows h]
 |.func _ f c,h=>by rw[AV.qc,rR Y f h.1,rR Y c h.2]
 |.iface _ x,h=>by rw[AV.qc,M1 Y x h]
 |.any,_|.bool _,_|.int _ _,_|.str _,_|.sO _,_=>by rw[AV.qc]
theorem rR(Y:Nat->Nat):∀xs:List AV,w5 0 xs->sZ Y xs=xs
 |[],_=>rfl
 |x::xs,h=>by rw[sZ,M1 Y x h.1,rR Y xs h.2]
theorem wo(Y:Nat->Nat):∀xs:List (List AV),NC 0 xs->Gc Y xs=xs
 |[],_=>rfl
 |x::xs,h=>by rw[Gc,rR Y x h.1,wo Y xs h.2]
end
def jT.qc(Y:Nat->Nat):jT->jT
 |.cells cs=>.cells (sZ Y cs)
 |.lN tN sz rows=>.lN tN sz (Gc Y rows)
 |.map es=>.map (es.map fun p=>(p.1.qc Y,p.2.qc Y))
 |.loop k jV st uu=>.loop k (sZ Y jV) st uu
 |.iter s p=>.iter s p
 |.Io s=>.Io s
 |.xu=>.xu
def vf.qc(Y:Nat->Nat):vf->vf
 |.ret r=>.ret (r.qc Y)
 |.panic x=>.panic (x.qc Y)
structure aeY(N:Nat)(Y:Nat->Nat)(E E':Dw):Prop where
 n:∀l,l<N->Y l<E'.n
 lR:∀l,l<N->E'.U (Y l)=E.U l/\(E'.ln (Y l)=E.ln l\/E'.ln (Y l)=none)
 mem:∀b o u,¬ E.mu b o->E.w.cell? ⟨b,o,none⟩=some u-> ¬ E'.mu b o/\E'.w.cell? ⟨b,o,none⟩=some u
 ty:tyk E.w E'.w
section

mutual
theorem pg.qc(h:aeY N Y E E'):∀(x:AV)(v:aJ2),x.nb N->pg E x v->pg E' (x.qc Y) v
 |.any,_,_,_=>trivial
 |.bool _,_,_,r=>r
 |.int _ _,_,_,r=>r
 |.str _,_,_,r=>r
 |.sO _,_,_,r=>r
 |.agg cs,_,hb,⟨vs,hv,hr⟩=>⟨vs,hv,ko.qc h cs _ hb hr⟩
 |.Ip cs,_,hb,⟨vs,hv,hr⟩=>⟨vs,hv,ko.qc h cs _ hb hr⟩
 | .kW t sz rows,_,hb,⟨base,cap,h1,h2,h3,h4,h5,h6⟩=>
   ⟨base,cap,by rw[vl];exact h1,by rw[vl];exact h2,fun e=>by rw[vl];exact h3 e,h4,fun a ha sA=>h5 a ha (fun e=>sA (by rw[e];rfl)),fun a ha=>nS.qc h rows _ hb (h6 a ha)⟩
 |.lN l n,v,hb,⟨_,hsl,r⟩=>⟨h.n l hb,hsl,fun k hk=>by
     rcases (h.lR l hb).2 with e|e
     ·rw[e]at hk;rw[(h.lR l hb).1];exact r k hk
     ·rw[e]at hk;cases hk⟩
 |.own l i n o sz,v,hb,⟨_,hsl,r⟩=>⟨h.n l hb,hsl,fun k hk=>by
     rcases (h.lR l hb).2 with e|e
     ·rw[e]at hk;rw[(h.lR l hb).1];exact r k hk
     ·rw[e]at hk;cases hk⟩
 |.ptr l off,v,hb,⟨_,b,hφ,hv⟩=>⟨h.n l hb,b,by rw[(h.lR l hb).1];exact hφ,hv⟩
 |.map l,v,hb,⟨_,hv,r,hφ⟩=>⟨h.n l hb,by rw[(h.lR l hb).1];exact hv,r,by rw[(h.lR l hb).1];exact hφ⟩
 |.pp cs,_,hb,⟨b,off,hv,r⟩=>⟨b,off,hv,oz.qc h cs _ hb r⟩
 |.func _ f c,_,hb,⟨f',c',hv,r1,r2⟩=>⟨f',c',hv,ko.qc h f _ hb.1 r1,ko.qc h c _ hb.2 r2⟩
 |.iface _ x,_,hb,⟨u,hv,r⟩=>⟨u,hv,pg.qc h x _ hb r⟩
 |.sn t l,v,hb,⟨_,b,hφ,hv,c,fz,hc⟩=>⟨h.n l hb,b,by rw[(h.lR l hb).1];exact hφ,hv,h.ty b c t fz hc⟩
theorem ko.qc(h:aeY N Y E E'):∀(cs:List AV)(vs:List aJ2),w5 N cs->ko E cs vs->ko E' (sZ Y cs) vs
 |[],_,_,r=>r
 |c::cs,_,hb,⟨u,us,hv,r1,r2⟩=>⟨u,us,hv,pg.qc h c _ hb.1 r1,ko.qc h cs _ hb.2 r2⟩
theorem oz.qc(h:aeY N Y E E'){b:Nat}:∀(cs:List AV)(off:Nat),w5 N cs->oz E b off cs->oz E' b off (sZ Y cs)
 |[],_,_,_=>trivial
 |c::cs,off,hb,⟨⟨hm,u,hu,h1,r1⟩,r2⟩=>
  let ⟨m,c'⟩:=h.mem b off u hm hu
  ⟨⟨m,u,c',h1,pg.qc h c _ hb.1 r1⟩,oz.qc h cs _ hb.2 r2⟩
theorem nS.qc(h:aeY N Y E E'){sz b:Nat}:∀(rs:List (List AV))(off:Nat),NC N rs->nS E sz b off rs->nS E' sz b off (Gc Y rs)
 |[],_,_,_=>trivial
 |r::rs,off,hb,⟨hl,r1,r2⟩=>⟨by rw[NW];exact hl,oz.qc h r _ hb.1 r1,nS.qc h rs _ hb.2 r2⟩
end
structure apn(N:Nat)(Y:Nat->Nat)(E' E:Dw):Prop where
 n:N<=E.n
 lR:∀l,l<N->E.U l=E'.U (Y l)/\E.ln l=E'.ln (Y l)
 mem:∀b o u,¬ E'.mu b o->E'.w.cell? ⟨b,o,none⟩=some u-> ¬ E.mu b o/\E.w.cell? ⟨b,o,none⟩=some u
 ty:tyk E'.w E.w
mutual
def pg.DC(h:apn N Y E' E):∀(x:AV)(v:aJ2),x.nb N->pg E' (x.qc Y) v->pg E x v
 |.any,_,_,_=>trivial
 |.bool _,_,_,r=>r
 |.int _ _,_,_,r=>r
 |.str _,_,_,r=>r
 |.sO _,_,_,r=>r
 |.agg cs,_,hb,⟨vs,hv,hr⟩=>⟨vs,hv,ko.DC h cs _ hb hr⟩
 |.Ip cs,_,hb,⟨vs,hv,hr⟩=>⟨vs,hv,ko.DC h cs _ hb hr⟩
 | .kW t sz rows,_,hb,⟨base,cap,h1,h2,h3,h4,h5,h6⟩=>by
   rw[vl]at h1 h2 h3;refine⟨base,cap,h1,h2,h3,h4,fun a ha sA=>h5 a ha (fun e=>sA ?_),fun a ha=>nS.DC h rows _ hb (h6 a ha)⟩;have:=congrArg List.length e;rw[vl]at this;exact cv this
 |.lN l n,v,hb,⟨_,hsl,r⟩=>⟨bZ hb h.n,hsl,fun k hk=>by rw[(h.lR l hb).2]at hk;rw[(h.lR l hb).1];exact r k hk⟩
 |.own l i n o sz,v,hb,⟨_,hsl,r⟩=>⟨bZ hb h.n,hsl,fun k hk=>by rw[(h.lR l hb).2]at hk;rw[(h.lR l hb).1];exact r k hk⟩
 |.ptr l off,v,hb,⟨_,b,hφ,hv⟩=>⟨bZ hb h.n,b,by rw[(h.lR l hb).1];exact hφ,hv⟩
 |.map l,v,hb,⟨_,hv,r,hφ⟩=>⟨bZ hb h.n,by rw[(h.lR l hb).1];exact hv,r,by rw[(h.lR l hb).1];exact hφ⟩
 |.pp cs,_,hb,⟨b,off,hv,r⟩=>⟨b,off,hv,oz.DC h cs _ hb r⟩
 |.func _ f c,_,hb,⟨f',c',hv,r1,r2⟩=>⟨f',c',hv,ko.DC h f _ hb.1 r1,ko.DC h c _ hb.2 r2⟩
 |.iface _ x,_,hb,⟨u,hv,r⟩=>⟨u,hv,pg.DC h x _ hb r⟩
 |.sn t l,v,hb,⟨_,b,hφ,hv,c,fz,hc⟩=>⟨bZ hb h.n,b,by rw[(h.lR l hb).1];exact hφ,hv,h.ty b c t fz hc⟩
def ko.DC(h:apn N Y E' E):∀(cs:List AV)(vs:List aJ2),w5 N cs->ko E' (sZ Y cs) vs->ko E cs vs
 |[],_,_,r=>r
 |c::cs,_,hb,⟨u,us,hv,r1,r2⟩=>⟨u,us,hv,pg.DC h c _ hb.1 r1,ko.DC h cs _ hb.2 r2⟩
def oz.DC(h:apn N Y E' E){b:Nat}:∀(cs:List AV)(off:Nat),w5 N cs->oz E' b off (sZ Y cs)->oz E b off cs
 |[],_,_,_=>trivial
 |c::cs,off,hb,⟨⟨hm,u,hu,h1,r1⟩,r2⟩=>
  let ⟨m,c'⟩:=h.mem b off u hm hu
  ⟨⟨m,u,c',h1,pg.DC h c _ hb.1 r1⟩,oz.DC h cs _ hb.2 r2⟩
def nS.DC(h:apn N Y E' E){sz b:Nat}:∀(rs:List (List AV))(off:Nat),NC N rs->nS E' sz b off (Gc Y rs)->nS E sz b off rs
 |[],_,_,_=>trivial
 |r::rs,off,hb,⟨hl,r1,r2⟩=>⟨by rw[NW]at hl;exact hl,oz.DC h r _ hb.1 r1,nS.DC h rs _ hb.2 r2⟩
end
end
def apo{E E':Dw}{N:Nat}{Y:Nat->Nat}(h:aeY N Y E E'):∀{es:List (AV×AV)}{xs:List MapEntry},(∀p∈es,p.1.nb N/\p.2.nb N)->sP E es xs->sP E' (es.map fun p=>(p.1.qc Y,p.2.qc Y)) xs
 |[],_,_,r=>r
 |(k,v)::_,_,hb,⟨e,s,he,r1,r2,r3⟩=>
  ⟨e,s,he,pg.qc h k _ (hb (k,v) (by simp)).1 r1,pg.qc h v _ (hb (k,v) (by simp)).2 r2,apo h (fun p hp=>hb p (by simp [hp])) r3⟩
def aje{E E':Dw}{N:Nat}{Y:Nat->Nat}(h:apn N Y E' E):∀{es:List (AV×AV)}{xs:List MapEntry},(∀p∈es,p.1.nb N/\p.2.nb N)->sP E' (es.map fun p=>(p.1.qc Y,p.2.qc Y)) xs->sP E es xs
 |[],_,_,r=>r
 |(k,v)::_,_,hb,⟨e,s,he,r1,r2,r3⟩=>
  ⟨e,s,he,pg.DC h k _ (hb (k,v) (by simp)).1 r1,pg.DC h v _ (hb (k,v) (by simp)).2 r2,aje h (fun p hp=>hb p (by simp [hp])) r3⟩
theorem n8.qc(h:aeY N Y E E'){x:jT}(hb:rJ N x)(hw:∀b,x.block hd b->E'.w.heap[b]? =E.w.heap[b]?)(r:n8 E x hd):n8 E' (x.qc Y) hd:=by
 cases x with
 |cells cs=>
  obtain⟨b,c,t,rfl,h2,rl,h3⟩:=r;exact⟨b,c,t,rfl,by rw[hw b rfl];exact h2,ko.qc h _ _ hb rl,h3⟩
 |lN tN sz rows=>
  obtain⟨base,cap,rfl,h2,h3,h4,h5⟩:=r;refine⟨base,cap,by rw[vl],by rw[vl];exact h2,h3,?_,fun a0 ha hc=>?_⟩
  ·have key:∀rs:List (List AV),(∀r∈rs,r.length=sz)->∀r∈Gc Y rs,r.length=sz:=by
    intro rs;induction rs with
    |nil=>intro _ r hr;simp [Gc]at hr
    |cons q rs ih=>
     grind [Gc,NW]
   exact key rows h4
  ·obtain⟨h6,c,t,h7,h8,rl,h9⟩:=h5 a0 ha hc;subst ha;rw[vl,Xv];exact⟨h6,c,t,by rw[hw _ ⟨rfl,hc⟩];exact h7,h8,ko.qc h _ _ (JD hb) rl,h9⟩
 |map es=>
  obtain⟨r',en,cl,rfl,h2,rp⟩:=r;exact⟨r',en,cl,rfl,by rw[hw r' rfl];exact h2,apo h hb rp⟩
 |loop k jV st uu=>
  obtain⟨D,rec,rfl,h1,h2,h3,rl⟩:=r;exact⟨D,rec,rfl,by rw[hw (D+1) (.inl rfl)];exact h1,by rw[hw D (.inr rfl)];exact h2,h3,ko.qc h _ _ hb rl⟩
 |iter s p=>
  obtain⟨b,rfl,h2⟩:=r;exact⟨b,rfl,by rw[hw b rfl];exact h2⟩
 |Io s=>exact Xl r hw
 |xu=>trivial
def n8.DC(h:apn N Y E' E){x:jT}(hb:rJ N x)(hw: ∀b,(x.qc Y).block hd b->E.w.heap[b]? =E'.w.heap[b]?)(r:n8 E' (x.qc Y) hd):n8 E x hd:=by
 cases x with
 |cells cs=>
  obtain⟨b,c,t,rfl,h2,rl,h3⟩:=r;exact⟨b,c,t,rfl,by rw[hw b rfl];exact h2,ko.DC h _ _ hb rl,h3⟩
 |lN tN sz rows=>
  obtain⟨base,cap,rfl,h2,h3,h4,h5⟩:=r;rw[vl]at h2 hw;refine⟨base,cap,by rw[vl],h2,h3,?_,fun a0 ha hc=>?_⟩
  ·have key:∀rs:List (List AV),(∀r∈Gc Y rs,r.length=sz)->∀r∈rs,r.length=sz:=by
    intro rs;induction rs with
    |nil=>intro _ r hr;simp at hr
    |cons q rs ih=>
     grind [Gc,NW]
   exact key rows h4
  ·obtain⟨h6,c,t,h7,h8,rl,h9⟩:=h5 a0 ha hc;subst ha;rw[vl]at rl h9;rw[Xv]at rl;exact⟨h6,c,t,by rw[hw _ ⟨rfl,hc⟩];exact h7,h8,ko.DC h _ _ (JD hb) rl,h9⟩
 |map es=>
  obtain⟨r',en,cl,rfl,h2,rp⟩:=r;exact⟨r',en,cl,rfl,by rw[hw r' rfl];exact h2,aje h hb rp⟩
 |loop k jV st uu=>
  obtain⟨D,rec,rfl,h1,h2,h3,rl⟩:=r;exact⟨D,rec,rfl,by rw[hw (D+1) (.inl rfl)];exact h1,by rw[hw D (.inr rfl)];exact h2,h3,ko.DC h _ _ hb rl⟩
 |iter s p=>
  obtain⟨b,rfl,h2⟩:=r;exact⟨b,rfl,by rw[hw b rfl];exact h2⟩
 |Io s=>exact Xl r hw
 |xu=>trivial
def Vz{x:jT}{b o:Nat}:(x.qc Y).AT h b o↔x.AT h b o:=by
 cases x with
 |cells cs=>cases h with
  |pointer p=>cases p<;>exact b7
  |_=>exact b7
 |lN tN sz rows=>cases h with
  |slice p n c=>cases p<;>exact b7
  |_=>exact b7
 |map es=>cases h with
  |map p=>cases p<;>exact b7
  |_=>exact b7
 |loop k jV st uu=>cases h with
  |func q _ _=>cases q<;>exact b7
  |_=>exact b7
 |iter s p=>cases h with
  |pointer p=>cases p<;>exact b7
  |_=>exact b7
 |Io s=>exact b7
 |xu=>exact b7
def CP{x:jT}{b:Nat}:(x.qc Y).block h b↔x.block h b:=by
 cases x with
 |cells cs=>cases h with
  |pointer p=>cases p<;>exact b7
  |_=>exact b7
 |lN tN sz rows=>cases h with
  |slice p n c=>cases p<;>exact b7
  |_=>exact b7
 |map es=>cases h with
  |map p=>cases p<;>exact b7
  |_=>exact b7
 |loop k jV st uu=>cases h with
  |func q _ _=>cases q<;>exact b7
  |_=>exact b7
 |iter s p=>cases h with
  |pointer p=>cases p<;>exact b7
  |_=>exact b7
 |Io s=>exact b7
 |xu=>exact b7
theorem Gd{x:jT}:lZ (some (x.qc Y))=lZ (some x):=by
 cases x<;>simp [lZ,jT.qc,vl]
def Ul{x:jT}{b:Nat}(hb:x.block h b):∃o,x.AT h b o:=by
 cases x with
 |cells cs=>
  cases h with
  |pointer p=>cases p with
   |none=>exact absurd hb id
   |some a=>exact⟨0,hb⟩
  |_=>exact absurd hb id
 |lN tN sz rows=>
  cases h with
  |slice base n cap=>cases base with
   |none=>exact absurd hb id
   |some a=>exact⟨a.off+n*sz,hb,fun _=>b9 _⟩
  |_=>exact absurd hb id
 |map es=>
  cases h with
  |map r=>cases r with
   |none=>exact absurd hb id
   |some a=>exact⟨0,hb⟩
  |_=>exact absurd hb id
 |loop k jV st uu=>
  cases h with
  |func q _ _=>cases q with
   |yield r=>exact⟨0,hb⟩
   |_=>exact absurd hb id
  |_=>exact absurd hb id
 |iter s p=>
  cases h with
  |pointer p=>cases p with
   |none=>exact absurd hb id
   |some a=>exact⟨0,hb⟩
  |_=>exact absurd hb id
 |Io s=>exact⟨0,hb⟩
 |xu=>exact absurd hb id
def axT{op:Op}{e:vW}(hq:aeT op=true)(h:kQ P J op=some e):e.nw=[]:=by
 cases op with
 |move x=>cases h;rfl
 |assign x=>cases h;rfl
 |pick c x y=>simp only[kQ]at h;split at h<;>cases h;rfl
 |unOp op t x=>simp only[kQ]at h;split at h<;>cases h<;>rfl
 |fieldAddr t x i=>simp only[kQ]at h;split at h<;>cases h<;>rfl
 |extract x i=>
  simp only[kQ]at h
  grind
 |binOp op t x y u=>
  simp only[kQ]at h;split at h
  ·cases h;rfl
  ·unfold amj ad5 at h;split at h
   ·grind
   unfold af5 at h
   grind
 |load t x=>
  simp only[kQ]at h;split at h
  ·split at h
   ·split at h
    ·unfold ldV at h
     grind
    ·cases h
   ·cases h
  ·split at h<;>cases h;rfl
  ·grind
  ·unfold ai1 at h
   grind [cj]
  ·cases h
 |store t x y=>
  simp only[kQ]at h
  grind
 |field t x i=>
  simp only[kQ]at h
  grind
 |index t x i=>
  simp only[kQ]at h
  grind
 |indexAddr t x i=>
  simp only[kQ]at h
  grind [cj]
 |_=>simp [aeT]at hq
def axU{op:Op}{e:vW}(hq:aeT op=true)(h:kQ P J op=some e):e.whole=false:=by
 cases op with
 |move x=>cases h;rfl
 |assign x=>cases h;rfl
 |pick c x y=>simp only[kQ]at h;split at h<;>cases h;rfl
 |unOp op t x=>simp only[kQ]at h;split at h<;>cases h<;>rfl
 |fieldAddr t x i=>simp only[kQ]at h;split at h<;>cases h<;>rfl
 |extract x i=>
  simp only[kQ]at h
  grind
 |binOp op t x y u=>
  simp only[kQ]at h;split at h
  ·cases h;rfl
  ·unfold amj ad5 at h;split at h
   ·grind
   unfold af5 at h
   grind
 |load t x=>
  simp only[kQ]at h;split at h
  ·split at h
   ·split at h
    ·unfold ldV at h
     grind
    ·cases h
   ·cases h
  ·split at h<;>cases h;rfl
  ·grind
  ·unfold ai1 at h
   grind [cj]
  ·cases h
 |store t x y=>
  simp only[kQ]at h
  grind
 |field t x i=>
  simp only[kQ]at h
  grind
 |index t x i=>
  simp only[kQ]at h
  grind
 |indexAddr t x i=>
  simp only[kQ]at h
  grind [cj]
 |_=>simp [aeT]at hq
mutual
theorem aiF{Y:Nat->Nat}{n:Nat}(hf:∀l,l<n->Y l=l):∀x:AV,x.nb n->x.qc Y=x
 |.lN l _,h=>by rw[AV.qc,hf l h]
 |.own l _ _ _ _,h=>by rw[AV.qc,hf l h]
 |.ptr l _,h=>by rw[AV.qc,hf l h]
 |.map l,h=>by rw[AV.qc,hf l h]
 |.sn _ l,h=>by rw[AV.qc,hf l h]
 |.agg cs,h=>by rw[AV.qc,Ge hf cs h]
 |.Ip cs,h=>by rw[AV.qc,Ge hf cs h]
 |.pp cs,h=>by rw[AV.qc,Ge hf cs h]
 |.kW _ _ rows,h=>by rw[AV.qc,ajf hf rows h]
 |.func _ f c,h=>by rw[AV.qc,Ge hf f h.1,Ge hf c h.2]
 |.iface _ x,h=>by rw[AV.qc,aiF hf x h]
 |.any,_|.bool _,_|.int _ _,_|.str _,_|.sO _,_=>by rw[AV.qc]
theorem Ge{Y:Nat->Nat}{n:Nat}(hf:∀l,l<n->Y l=l):∀xs:List AV,w5 n xs->sZ Y xs=xs
 |[],_=>rfl
 |x::xs,h=>by rw[sZ,aiF hf x h.1,Ge hf xs h.2]
theorem ajf{Y:Nat->Nat}{n:Nat}(hf:∀l,l<n->Y l=l):∀xs:List (List AV),NC n xs->Gc Y xs=xs
 |[],_=>rfl
 |x::xs,h=>by rw[Gc,Ge hf x h.1,ajf hf xs h.2]
end
theorem aAw(hf:∀l,l<n->Y l=l)(x:jT)(h:rJ n x):x.qc Y=x:=by
 cases x with
 |cells cs=>simp only[jT.qc,Ge hf cs h]
 |lN tN sz rows=>simp only[jT.qc,ajf hf rows h]
 |map es=>
  simp only[jT.qc,jT.map.injEq];have h:∀p∈es,p.1.nb n/\p.2.nb n:=h;induction es with
  |nil=>rfl
  |cons p es ih=>
   have hp:=h p (by simp);rw[dH,ih (fun q hq=>h q (by simp [hq])) (fun q hq=>h q (by simp [hq])),aiF hf _ hp.1,aiF hf _ hp.2]
 |loop k jV st uu=>simp only[jT.qc,Ge hf jV h]
 |iter s p=>rfl
 |Io s=>rfl
 |xu=>rfl
def ajg {m:Nat}(h:n<=m)(x:jT)(hx:rJ n x):rJ m x:=by
 cases x with
 |cells cs=>exact sY h _ hx
 |lN tN sz rows=>exact anr h _ hx
 |map es=>exact fun p hp=>⟨AV.ahd h _ (hx p hp).1,AV.ahd h _ (hx p hp).2⟩
 |loop k jV st uu=>exact sY h _ hx
 |iter s p=>trivial
 |Io s=>trivial
 |xu=>trivial
def tau(n l:Nat):Nat:=if l=n then n+1 else if l=n+1 then n else l
theorem anD(n l:Nat):tau n (tau n l)=l:=by grind [tau]
theorem aeZ(h:l<n):tau n l=l:=by grind [tau]
theorem aDC(h:l<n+2):tau n l<n+2:=by grind [tau]
def auI{W:Type}{H:List W}{x y z:W}(h:(H++[x]++[y])[l]? =some z):(H++[y]++[x])[tau H.length l]? =some z:=by
 have hl:l<H.length+2:=by grind
 rw[List.append_assoc]at h ⊢;by_cases h1:l<H.length
 ·grind [aeZ]
 ·rw[cx (by omega)]at h;by_cases h2:l=H.length
  ·simp_all [tau]
  ·have h3:l=H.length+1:=by omega
   simp_all [tau]
def mM.swap{C:qu}{s:List AV}{x y:jT}(ZI:ash H.length df)(It:low<=H.length)(hH:∀z∈H,rJ H.length z)(hx:rJ 0 x)(hy:rJ 0 y)
 (S:mM C U ⟨s,H++[x]++[y],low,df⟩ a w):mM C (fun l=>U (tau H.length l)) ⟨sZ (tau H.length) s,H++[y]++[x],low,df⟩ a w:=by
 have OX:∀z∈H++[x]++[y],rJ H.length z:=by
  intro z hz;simp only[cw,List.mem_singleton]at hz;rcases hz with(hz|rfl)|rfl
  ·exact hH z hz
  ·exact ajg (dK _) _ hx
  ·exact ajg (dK _) _ hy
 have aeX:∀(l:Nat)(z:jT),(H++[y]++[x])[l]? =some z->(H++[x]++[y])[tau H.length l]? =some z:=fun l z h=>auI h
 have fwd:∀(l:Nat)(z:jT),(H++[x]++[y])[l]? =some z->(H++[y]++[x])[tau H.length l]? =some z:=fun l z h=>auI h
 have L0:∀b o,F8 (fun l=>U (tau H.length l)) (H++[y]++[x]) b o↔F8 U (H++[x]++[y]) b o:=by
  intro b o;constructor
  ·rintro⟨l,z,hz,hm⟩;exact⟨_,z,aeX l z hz,hm⟩
  ·rintro⟨l,z,hz,hm⟩;refine⟨_,z,fwd l z hz,?_⟩;simp only[anD];exact hm
 have qc:aeY (H.length+2) (tau H.length) (C.env U (H++[x]++[y]) w) (C.env (fun l=>U (tau H.length l)) (H++[y]++[x]) w):=by
  refine⟨fun l hl=>?_,fun l hl=>?_,fun b o u hm hc=>⟨?_,hc⟩,CF _⟩
  all_goals grind [qu.env,aDC,anD]
 have BM:sQ C (fun l=>U (tau H.length l)) (H++[y]++[x]) w df a.defers:=S.defers.ao0 (fun xs vs ⟨f,hf⟩ r=>by
  have:=ko.qc qc xs vs (sY (by omega) _ (ZI _ hf)) r
  rwa [Ge (fun l hl=>aeZ hl) xs (ZI _ hf)]at this) (fun _ _ _=>rfl) (fun l z b hz hb=>.inl ⟨_,z,aeX l z hz,hb⟩)
 refine {jV:=?_,defers:=BM,nX:=?_,apart:=?_,tW:=?_,size:=S.size,F9:=S.F9,nM:=S.nM,Ce:=?_,wS:=S.wS,rest:=S.rest,low:=⟨S.low.1,by grind⟩,lR:=?_}
 ·refine ko.qc qc _ _ ?_ S.jV;have:=ko.nb _ _ S.jV;simpa [qu.env] using this
 ·intro l z hz;have h1:=aeX l z hz;have hm:=OX z (cP h1);have:=n8.qc qc (ajg (by omega) _ hm) (fun _ _=>rfl) (S.nX _ z h1);rw[aAw (fun l hl=>aeZ hl) z hm]at this;exact this
 ·intro l l' z z' b hz hz' hb qR;have:=S.apart _ _ z z' b (aeX l z hz) (aeX l' z' hz') hb qR
  grind [anD]
 ·intro l z b o hz hb;exact S.tW _ z b o (aeX l z hz) hb
 ·intro l z b o hz hm;exact S.Ce _ z b o (aeX l z hz) hm
 ·intro l hl;have hN:C.N0=low:=S.low.1;have mR:l<H.length:=by omega
  have:=S.lR l hl
  grind [aeZ]
def anE{x:jT}(r:n8 E x h)(hx: ∀tN sz rows,x= .lN tN sz rows->(∃base n cap,h= .slice base n cap/\cap≠0/\base≠none)\/rows=[]):rJ E.n x:=by
 cases x with
 |cells cs=>obtain⟨_,_,_,_,_,rl,_⟩:=r;exact ko.nb _ _ rl
 |lN tN sz rows=>
  rcases hx tN sz rows rfl with⟨base,n,cap,rfl,hc,hb⟩|rfl
  ·obtain⟨aFF,aFG,h1,h2,h3,h4,h5⟩:=r;simp only[Value.slice.injEq]at h1;obtain⟨rfl,rfl,rfl⟩:=h1;cases base with
   |none=>exact absurd rfl hb
   |some a0=>
    obtain⟨_,c,t,_,_,rl,_⟩:=h5 a0 rfl hc;have hn:=ko.nb _ _ rl
    have key:∀rows:List (List AV),w5 E.n rows.flatten->NC E.n rows:=by
     intro rows;induction rows with
     |nil=>intro _;trivial
     |cons q rs ih=>
      intro this;simp only[cO]at this
      have split:∀(p q:List AV),w5 E.n (p++q)->w5 E.n p/\w5 E.n q:=by
       intro p;induction p with
       |nil=>intro q h;exact⟨trivial,h⟩
       |cons z p ihp=>intro q h;exact⟨⟨h.1,(ihp q h.2).1⟩,(ihp q h.2).2⟩
      exact⟨(split _ _ this).1,ih (split _ _ this).2⟩
    exact key rows hn
  ·trivial
 |map es=>obtain⟨_,_,_,_,_,rp⟩:=r;exact sP.nb rp
 |loop k jV st uu=>obtain⟨_,_,_,_,_,_,rl⟩:=r;exact ko.nb _ _ rl
 |iter s p=>trivial
 |Io s=>trivial
 |xu=>trivial
def VA{x:jT}(r:n8 E x h):rJ E.n x:=by
 refine anE r ?_;rintro tN sz rows rfl;obtain⟨base,cap,rfl,h2,h3,_⟩:=r;cases base with
 |none=>
  simp_all
 |some a0=>
  by_cases hc:cap=0
  ·simp_all
  grind
def apq(w:aJ6)(h:lI P t=some z):w5 0 z:=by
 obtain⟨v,_,hr,_⟩:=af7 (w:=w) h;exact ko.nb _ _ (hr {w,mu:=fun _ _=>False,U:=fun _=>.tuple #[],ln:=fun _=>none,n:=0})
section

theorem aJn(h:Xu o=true):∃t,o.op=.alloc t/\o.guard=none/\aeI t=false:=by
 grind [Xu,Option.isNone_iff_eq_none]
def uJ(n:Nat)(z:List AV):vW:={val:=.ptr n 0,nw:=[.cells z]}
def ahn(ho:o.op=.alloc t)(hg:o.guard=none/\aeI t=false)(hz:lI P t=some z):yc P j8 o J (fun e=>e=uJ J.heap.length z):=by
 refine .inr (.inl ⟨?_,?_,uJ J.heap.length z,?_,?_,fun _=>b7⟩)
 ·unfold qx;rw[hg.1]
 ·rw[ho];rfl
 ·rw[ho];simp only[kQ,hz,Ky,zB,hg.2];rfl
 ·exact trivial
def Ja{S:vW->Prop}(ho:o.op=.alloc t)(hg:o.guard=none/\aeI t=false)(h:yc P j8 o J S):∃z,lI P t=some z/\∀e,S e↔e=uJ J.heap.length z:=by
 rcases h with⟨hw,_⟩|⟨_,_,e,he,_,h⟩|⟨_,f,args,V,hc,_⟩|⟨_,f,args,e,hc,_⟩
 ·grind [qx]
 ·rw[ho]at he;simp only[kQ]at he;split at he
  ·rename_i z hz;simp only[Ky,zB,hg.2,jz,bY]at he;subst he;exact⟨z,hz,h⟩
  ·cases he
 ·rw[ho]at hc;cases hc
 ·rw[ho]at hc;cases hc
theorem Gf{p q:Nat}(h:aaw j8 p q=true):p<q/\(∃op oq tp tq,j8[p]? =some op/\j8[q]? =some oq/\op.op=.alloc tp/\oq.op=.alloc tq/\(op.guard=none/\aeI tp=false)/\(oq.guard=none/\aeI tq=false)/\AY op=[]/\AY oq=[])/\
 ∀k o,j8[k]? =some o->k≠p->k≠q->aeT o.op=true/\pW j8 p k=pW j8 q k:=by
 unfold aaw at h;split at h
 ·rename_i op oq hp hq;simp only[cg,jD,List.isEmpty_iff]at h;obtain⟨⟨⟨⟨⟨h1,h2⟩,h3⟩,h4⟩,h5⟩,h6⟩:=h;obtain⟨tp,a1,a2⟩:=aJn h1
  grind [aJn]
 ·cases h
theorem Jj(h1:pW j8 i j=false)(h2:aaw j8 i j=false):ahS j8 i j=false:=by
 unfold ahS;rw[h1,h2];rfl
theorem EJ{op:Op}(h:aeT op=true):op≠ .alloc t:=by
 rintro rfl;cases h
theorem Ah{op:Op}(h:aeT op=true):CM op=false:=by
 cases op<;>first|rfl|(simp [aeT]at h)
end
section region
variable {C:qu}
def amy(o:aJ1)(listed:Array Bool):(o.after.all fun e=> !Region.binds .any e||listed.getD e.on false)=true↔ ∀d∈AY o,listed.getD d false=true:=by
 grind [Array.all_eq_true_iff_forall_mem,AY]
theorem KF(listed:Array Bool)(i:Nat)(hsz:listed.size=j8.size):i∈Region.ready .any j8 listed↔i<j8.size/\listed.getD i false=false/\∃o,j8[i]? =some o/\∀d∈AY o,listed.getD d false=true:=by
 unfold Region.ready;simp only[List.mem_filter,List.mem_range];constructor
 ·rintro⟨h1,h2⟩;rw[cg]at h2;have ho:j8[i]? =some j8[i]:=cC h1;refine⟨h1,?_,j8[i],ho,?_⟩
  ·grind
  ·have h3:=h2.2;rw[ho]at h3;simp only[Option.map_some,da]at h3;exact(amy _ _).1 h3
 ·rintro⟨h1,h2,o,ho,h3⟩;refine⟨h1,?_⟩;rw[cg];constructor
  ·grind
  ·rw[ho];simp only[Option.map_some,da];exact(amy _ _).2 h3
def xJ(LX:Ji j8=true){listed:Array Bool}(hcl:∀j o,j8[j]? =some o->listed.getD j false=true->∀d∈AY o,listed.getD d false=true){r:Nat}(Qo:j8[i]? =some oi)
 (EI:∀d∈AY oi,listed.getD d false=true) (hq:pW j8 r i=true):listed.getD r false=true:=by
 obtain⟨_,Vw⟩:=Gb LX;exact ahm (L:=fun d=>listed.getD d false=true) (all:=j8.toList) (fun j o hj hL=>hcl j o (by simpa using hj) hL) j8.toList [] (by simp) (by simp) (fun k o hk=>(Vw k o (by simpa using hk)).1) i oi (by simpa using Qo) EI r hq
def Se{listed:Array Bool}(Qo:j8[i]? =some oi)(EI:∀d∈AY oi,listed.getD d false=true)(hcl:∀j o,j8[j]? =some o->listed.getD j false=true->∀d∈AY o,listed.getD d false=true):
 ∀j o,j8[j]? =some o->(listed.setIfInBounds i true).getD j false=true->∀d∈AY o,(listed.setIfInBounds i true).getD d false=true:=by
 intro j o' hj hL d hd;by_cases e:j=i
 ·grind [getD_set_true]
 ·rw[getD_set_ne false (fun e'=>e e'.symm)]at hL
  grind [getD_set_true]
theorem acl{listed:Array Bool}(h:i<listed.size):(listed.setIfInBounds i true).getD i false=true:=by
 simp [Array.getD,h]
structure ae0(j8:Array aJ1)(R:List Nat)(listed:Array Bool):Prop where
 pw:R.Pairwise (· < ·)
 sz:listed.size=j8.size
 mem:∀i,i∈R↔i<j8.size/\listed.getD i false=false
 cl:∀j o,j8[j]? =some o->listed.getD j false=true->∀d∈AY o,listed.getD d false=true
def ae0.next{R:List Nat}{listed:Array Bool}(F:ae0 j8 R listed)(Qo:j8[i]? =some oi)(EI:∀d∈AY oi,listed.getD d false=true):ae0 j8 (R.erase i) (listed.setIfInBounds i true):=by
 refine⟨F.pw.erase i,by simpa using F.sz,fun k=>?_,Se Qo EI F.cl⟩;have hnd:R.Nodup:=F.pw.imp (fun h=>dj h);have hi:i<listed.size:=by have:=(dn.1 Qo).1;rw[F.sz];exact this
 rw[hnd.mem_erase_iff,F.mem k];constructor
 ·rintro⟨sA,h1,h2⟩;refine⟨h1,?_⟩;rw[getD_set_ne false (fun e=>sA e.symm)];exact h2
 ·rintro⟨h1,h2⟩
  have sA:k≠i:=by
   grind [acl]
  refine⟨sA,h1,?_⟩;rw[getD_set_ne false (fun e=>sA e.symm)]at h2;exact h2
def avO (LX:Ji j8=true) {p q:Nat} (htw:aaw j8 p q=true) (fuel:Nat)
 (aeX:∀(f:Nat)(R:List Nat)(listed:Array Bool)(U:Nat->aJ2)(J:jJ)(a:Act)(w:aJ6),f<=fuel->R.length=f->ae0 j8 R listed->(p ∉ R)->mM C U J a w->acK C.P j8 (Q .normal) R [] J->wpAnyIn (Ga ro) 0 C.P .any j8 (QC C Q) f listed a w)
 {oq:aJ1} {tq:TypeId} {zq:List AV} (hoq:j8[q]? =some oq) (htq:oq.op=.alloc tq) (hgq:oq.guard=none/\aeI tq=false) (hzq:lI C.P tq=some zq):
 ∀(f:Nat)(R:List Nat)(listed:Array Bool)(U U0:Nat->aJ2)(J:jJ)(a a0:Act)(w w0:aJ6),f<=fuel->R.length=f+1->R.Pairwise (· < ·)->listed.size=j8.size->p∈R->q∈R->listed.getD q false=true->
 (∀i,i∈R↔i<j8.size/\(listed.getD i false=false\/i=q))->(∀j o,j8[j]? =some o->listed.getD j false=true->∀d∈AY o,listed.getD d false=true)->
 mM C U (J.app oq.dst (uJ J.heap.length zq)) a w->mM C U0 J a0 w0->acK C.P j8 (Q .normal) R [] J->wpAnyIn (Ga ro) 0 C.P .any j8 (QC C Q) f listed a w:=by
 obtain⟨hpq,⟨op,oq',tp,tq',hop,aFH,htp,aIX,hgp,aIY,hdp,hdq⟩,asi⟩:=Gf htw;rw[hoq]at aFH;cases aFH;obtain⟨_,Vw⟩:=Gb LX;intro f;induction f with
 |zero=>
  intro R listed U U0 J a a0 w w0 hf hlen hpw hsz hpR hqR hlq hR hcl S S0 h;exfalso
  match R,hlen with
  |[x],_=>
   grind
 |succ f ih=>
  intro R listed U U0 J a a0 w w0 hf hlen hpw hsz hpR hqR hlq hR hcl S S0 h;have hnd:R.Nodup:=hpw.imp (fun h=>dj h)
  have hpl:listed.getD p false=false:=by
   grind
  have hps:p<j8.size:=((hR p).1 hpR).1;refine⟨?_,?_⟩
  ·grind [KF]
  ·intro i hi;rw[KF listed i hsz]at hi;obtain⟨hi1,hi2,oi,Qo,EI⟩:=hi;have hiq:i≠q:=by grind
   have hiR:i∈R:=(hR i).2 ⟨hi1,.inl hi2⟩
   have ajh:∀r∈R,pW j8 r i=false:=by
    intro r hr;cases hq':pW j8 r i with
    |false=>rfl
    |true=>
     exfalso;have hl:=xJ LX hcl Qo EI hq';rcases ((hR r).1 hr).2 with h|h
     ·rw[hl]at h;cases h
     ·subst h;by_cases e:i=p
      ·subst e;rw[hop]at Qo;cases Qo;have:=xJ LX (listed:=b8 j8.size false) (by grind [oJ]) hop (by rw[hdp];intro d hd;cases hd) hq'
       simp_all
      ·have:=(asi i oi Qo e hiq).2;rw[hq']at this;have hl:=xJ LX hcl Qo EI this;rw[hpl]at hl;cases hl
   by_cases eip:i=p
   ·
    subst eip;rw[hop]at Qo;cases Qo
    have hno:∀r∈R,r<i->ahS j8 r i=false:=by
     grind [Jj,Gf,EJ]
    obtain⟨o1,E1,ho1,anF,hE1⟩:=apj LX h hiR hpw hno;rw[hop]at ho1;cases ho1;obtain⟨zp,hzp,hd1⟩:=Ja htp hgp anF;obtain⟨_,h1⟩:=hE1 _ ((hd1 _).2 rfl);have aDD:q∈R.erase i:=(hnd.mem_erase_iff).2 ⟨by omega,hqR⟩
    obtain⟨o2,E2,ho2,aDE,hE2⟩:=apj LX h1 aDD (hpw.erase i) (by
     intro r hr mR;have hr':=dh hr;have hri:r≠i:=fun e=>by grind
     refine Jj ?_ ?_
     ·cases ho':pW j8 r q with
      |false=>rfl
      |true=>
       exfalso;have:=xJ LX (listed:=b8 j8.size false) (by grind [oJ]) hoq (by rw[hdq];intro d hd;cases hd) ho'
       simp_all
     grind [Gf,EJ])
    rw[hoq]at ho2;cases ho2;obtain⟨zq',aFI,hd2⟩:=Ja htq hgq aDE;rw[hzq]at aFI;cases aFI;obtain⟨_,h2⟩:=hE2 _ ((hd2 _).2 rfl);refine MZ S hop (ahn htp hgp hzp) ?_;rintro e U' v w' rfl S'
    have hoQ:pW j8 i q=false:=by
     cases ho':pW j8 i q with
     |false=>rfl
     |true=>
      exfalso;have:=xJ LX (listed:=b8 j8.size false) (by grind [oJ]) hoq (by rw[hdq];intro d hd;cases hd) ho'
      simp_all
    obtain⟨ajc,_⟩:=(Vw q oq hoq).2 i op hpq hop hoQ;obtain⟨_,ap2,_⟩:=cT ajc;have hsl:w5 J.heap.length J.jV:=ko.nb _ _ S0.jV
    have hob:∀z∈J.heap,rJ J.heap.length z:=by
     intro z hz;obtain⟨l,hl⟩:=dG hz;exact VA (S0.nX l z hl)
    have S2:=mM.swap (s:=((J.app oq.dst (uJ J.heap.length zq)).app op.dst (uJ (J.app oq.dst (uJ J.heap.length zq)).heap.length zp)).jV) (H:=J.heap) (x:=.cells zq) (y:=.cells zp) (low:=J.low) (df:=J.df) (NR.nb S0.defers.2.2) S0.low.2 hob (apq w0 hzq) (apq w0 hzp) (by
     have e:(J.app oq.dst (uJ J.heap.length zq)).app op.dst (uJ (J.app oq.dst (uJ J.heap.length zq)).heap.length zp)=⟨((J.app oq.dst (uJ J.heap.length zq)).app op.dst (uJ (J.app oq.dst (uJ J.heap.length zq)).heap.length zp)).jV,J.heap++[.cells zq]++[.cells zp],J.low,J.df⟩:=by
      cases oq.dst<;>cases op.dst<;>simp [jJ.app,jJ.put,uJ,mh]
     rw[<-e];exact S')
    have e2:(⟨sZ (tau J.heap.length) ((J.app oq.dst (uJ J.heap.length zq)).app op.dst (uJ (J.app oq.dst (uJ J.heap.length zq)).heap.length zp)).jV,J.heap++[.cells zp]++[.cells zq],J.low,J.df⟩:jJ)
     =(J.app op.dst (uJ J.heap.length zp)).app oq.dst (uJ (J.app op.dst (uJ J.heap.length zp)).heap.length zq):=by
     have aDF:=Ge (Y:=tau J.heap.length) (fun l hl=>aeZ hl) J.jV hsl
     have asj:∀(d:Nat)(c:AV)(cs:List AV),sZ (tau J.heap.length) (cs.set d c)=(sZ (tau J.heap.length) cs).set d (c.qc (tau J.heap.length)):=by
      intro d c cs;induction cs generalizing d with
      |nil=>simp [sZ]
      |cons x cs ih=>cases d with
       |zero=>simp [sZ]
       |succ d=>simp [sZ,ih]
     have aFJ:(J.app oq.dst (uJ J.heap.length zq)).heap.length=J.heap.length+1:=by simp [jJ.app,uJ,mh]
     have aFK:(J.app op.dst (uJ J.heap.length zp)).heap.length=J.heap.length+1:=by simp [jJ.app,uJ,mh]
     have t0:tau J.heap.length J.heap.length=J.heap.length+1:=by simp [tau]
     have t1:tau J.heap.length (J.heap.length+1)=J.heap.length:=by simp [tau]
     rw[aFJ,aFK];cases h1:oq.dst with
     |none=>cases h2:op.dst with
      |none=>simp [jJ.app,jJ.put,uJ,mh,aDF]
      |some dp=>grind [jJ.app,jJ.put,uJ,mh,AV.qc]
     |some dq=>cases h2:op.dst with
      |none=>grind [jJ.app,jJ.put,uJ,mh,AV.qc]
      |some dp=>
       grind [jJ.app,jJ.put,uJ,mh,AV.qc,cY]
    rw[e2]at S2
    have hF:ae0 j8 ((R.erase i).erase q) (listed.setIfInBounds i true):=by
     refine⟨(hpw.erase i).erase q,by simpa using hsz,fun k=>?_,Se hop EI hcl⟩;have aHU:(R.erase i).Nodup:=hnd.erase i;rw[aHU.mem_erase_iff,hnd.mem_erase_iff,hR k];constructor
     ·rintro⟨sA,aHV,h1,h2⟩;refine⟨h1,?_⟩;rw[getD_set_ne false (fun e=>aHV e.symm)]
      grind
     ·rintro⟨h1,h2⟩
      have sA:k≠i:=by
       grind [acl]
      rw[getD_set_ne false (fun e=>sA e.symm)]at h2
      grind
    grind
   ·
    obtain⟨hqi,_⟩:=asi i oi Qo eip hiq
    have hno:∀r∈R,r<i->ahS j8 r i=false:=by
     intro r hr mR;refine Jj (ajh r hr) ?_;cases ht:aaw j8 r i with
     |false=>rfl
     |true=>
      exfalso;obtain⟨_,⟨_,o1,_,t1,_,ho1,_,ht1,_⟩,_⟩:=Gf ht;rw[Qo]at ho1;cases ho1;exact EJ hqi ht1
    obtain⟨o1,E1,ho1,anF,hE1⟩:=apj LX h hiR hpw hno;rw[Qo]at ho1;cases ho1
    have hnw:∀e,E1 e->e.nw=[]:=by
     intro e he;rcases anF with⟨_,h⟩|⟨_,_,e',he',_,h⟩|⟨_,f',args,V,hc,_,_,_⟩|⟨_,f',args,_,hc,_,_⟩
     ·rw[(h e).1 he]
     ·rw[(h e).1 he];exact axT hqi he'
     ·exfalso;have:=Ah hqi;unfold nk at hc;split at hc
      ·rename_i ho';rw[ho']at this;simp [CM]at this
      ·cases hc
     ·exfalso;have:=Ah hqi;unfold nk at hc;split at hc
      ·rename_i ho';rw[ho']at this;simp [CM]at this
      ·cases hc
    have hwh:∀e,E1 e->e.whole=false:=by
     intro e he;rcases anF with⟨_,h⟩|⟨_,_,e',he',_,h⟩|⟨_,f',args,V,hc,_,_,_⟩|⟨_,f',args,_,hc,_,_⟩
     ·rw[(h e).1 he]
     ·rw[(h e).1 he];exact axU hqi he'
     ·exfalso;have:=Ah hqi;unfold nk at hc;split at hc
      ·rename_i ho';rw[ho']at this;simp [CM]at this
      ·cases hc
     ·exfalso;have:=Ah hqi;unfold nk at hc;split at hc
      ·rename_i ho';rw[ho']at this;simp [CM]at this
      ·cases hc
    have hap:(∀d,oq.dst=some d->d ∉ oi.looksAt j8)/\(∀d,oi.dst=some d->oq.dst≠some d):=by
     rcases Nat.lt_or_gt_of_ne hiq with mR|hgt
     ·have ho':pW j8 i q=false:=by
       cases ho':pW j8 i q with
       |false=>rfl
       |true=>
        exfalso;have:=xJ LX (listed:=b8 j8.size false) (by intro j o _ hj;rw[oJ]at hj;cases hj) hoq (by rw[hdq];intro d hd;cases hd) ho';rw[oJ]at this;cases this
      obtain⟨hap,_⟩:=(Vw q oq hoq).2 i oi mR Qo ho';obtain⟨x1,x2,x3⟩:=cT hap;exact⟨x3,x2⟩
     ·obtain⟨hap,_⟩:=(Vw i oi Qo).2 q oq hgt hoq (ajh q hqR);obtain⟨x1,x2,x3⟩:=cT hap;exact⟨x1,fun d hd hd'=>x2 d hd' hd⟩
    have axQ:∀e,E1 e->CN ⟨i,J.heap.length,e⟩ (uJ J.heap.length zq)=true:=by
     intro e he;simp [CN,uJ,JC,hnw e he,hwh e he]
    have hfw:yc C.P j8 oi (J.app oq.dst (uJ J.heap.length zq)) E1:=anF.fwd (j:=i) hap.1 axQ;refine MZ S Qo hfw ?_;intro e U' v w' he S';obtain⟨_,uh⟩:=hE1 e he;have axR:=api (d:=oi.dst) (d':=oq.dst) (j:=i) hap.2 (axQ e he) (anF.lt he).2 (by simp [uJ]);have hle:(J.app oi.dst e).heap.length=J.heap.length:=by simp [jJ.app,hnw e he,uX]
    rw[<-axR]at S'
    have hg:∃U1 a1 w1,mM C U1 (J.app oi.dst e) a1 w1:=by
     rcases anF with⟨_,h⟩|⟨_,_,e',he',hp,h⟩|⟨_,f',args,V,hc,_,_,_⟩|⟨_,f',args,_,hc,_,_⟩
     ·rw[(h e).1 he,KA];exact⟨U0,_,w0,S0.put oi.dst (v:=undef) rfl⟩
     ·rw[(h e).1 he];obtain⟨_,v1,w1,U1,_,_,S1⟩:=Sc S0 he' hp;exact⟨U1,_,w1,S1⟩
     ·exfalso;have:=Ah hqi;unfold nk at hc;split at hc
      ·rename_i ho';rw[ho']at this;simp [CM]at this
      ·cases hc
     ·exfalso;have:=Ah hqi;unfold nk at hc;split at hc
      ·rename_i ho';rw[ho']at this;simp [CM]at this
      ·cases hc
    obtain⟨U1,a1,w1,S1⟩:=hg;rw[<-hle]at S';refine ih (R.erase i) _ U' U1 (J.app oi.dst e) _ a1 w' w1 (by omega) ?_ (hpw.erase i) (by simpa using hsz) ((hnd.mem_erase_iff).2 ⟨fun e'=>eip e'.symm,hpR⟩) ((hnd.mem_erase_iff).2 ⟨fun e'=>hiq e'.symm,hqR⟩) ?_ ?_ (Se Qo EI hcl) S' S1 uh
    ·rw[dr hiR];omega
    ·exact getD_set_true hlq
    ·intro k;rw[hnd.mem_erase_iff,hR k];constructor
     ·rintro⟨sA,h1,h2⟩;refine⟨h1,?_⟩;rw[getD_set_ne false (fun e=>sA e.symm)];exact h2
     ·rintro⟨h1,h2⟩
      have sA:k≠i:=by
       intro e';subst e';rcases h2 with h2|h2
       ·rw[acl (by rw[hsz];exact hi1)]at h2;cases h2
       ·exact hiq h2
      refine⟨sA,h1,?_⟩;rw[getD_set_ne false (fun e=>sA e.symm)]at h2;exact h2
def axV (LX:Ji j8=true): ∀ (fuel:Nat) (R:List Nat) (listed:Array Bool) (U:Nat->aJ2) (J:jJ) (a:Act) (w:aJ6),R.length=fuel->ae0 j8 R listed->
 mM C U J a w->acK C.P j8 (Q .normal) R [] J->wpAnyIn (Ga ro) 0 C.P .any j8 (QC C Q) fuel listed a w:=by
 obtain⟨_,Vw⟩:=Gb LX;intro fuel;induction fuel using Nat.strongRecOn with
 |ind fuel ih=>
  intro R listed U J a w hl F S h;have hpw:=F.pw;have hsz:=F.sz;have hR:=F.mem;have hnd:R.Nodup:=hpw.imp (fun h=>dj h);cases fuel with
  |zero=>
   have hR0:R=[]:=cv hl;subst hR0;refine⟨?_,U,J,S,h⟩;rw[List.eq_nil_iff_forall_not_mem];intro i hi;rw[KF listed i hsz]at hi;have:=(hR i).2 ⟨hi.1,hi.2.1⟩;simp at this
  |succ fuel=>
   refine⟨?_,?_⟩
   ·intro asl;exfalso;cases R with
    |nil=>simp at hl
    |cons r R=>
     have hr:=(hR r).1 (by simp);have ho:j8[r]? =some j8[r]:=cC hr.1
     have:r∈Region.ready .any j8 listed:=by
      rw[KF listed r hsz];refine⟨hr.1,hr.2,_,ho,fun d hd=>?_⟩;have hdr:=(Vw r _ ho).1 d hd;cases hld:listed.getD d false with
      |true=>rfl
      |false=>
       have hdR:=(hR d).2 ⟨by omega,hld⟩;rw[cJ]at hpw;simp only[cH]at hdR;rcases hdR with rfl|hdR
       ·omega
       ·have:=hpw.1 d hdR;omega
     rw[asl]at this;simp at this
   ·intro i hi;rw[KF listed i hsz]at hi;obtain⟨hi1,hi2,oi,Qo,EI⟩:=hi;have hiR:=(hR i).2 ⟨hi1,hi2⟩
    have ajh:∀r∈R,pW j8 r i=false:=by
     intro r hr;cases hq:pW j8 r i with
     |false=>rfl
     |true=>
      exfalso;have:=xJ LX F.cl Qo EI hq;have hr':=((hR r).1 hr).2;rw[hr']at this;cases this
    by_cases htw:∃p∈R,aaw j8 p i=true
    ·obtain⟨p,hpR,htw⟩:=htw;obtain⟨hpi,⟨op,oq,tp,tq,hop,hoq,htp,htq,hgp,hgq,hdp,hdq⟩,asi⟩:=Gf htw;rw[Qo]at hoq;cases hoq;have hpl:=((hR p).1 hpR).2
     obtain⟨o1,E1,ho1,anF,hE1⟩:=apj LX h hpR hpw (by
      intro r hr mR;refine Jj ?_ ?_
      ·cases ho':pW j8 r p with
       |false=>rfl
       |true=>
        exfalso;have:=xJ LX (listed:=b8 j8.size false) (by intro j o _ hj;rw[oJ]at hj;cases hj) hop (by rw[hdp];intro d hd;cases hd) ho';rw[oJ]at this;cases this
      ·cases ht:aaw j8 r p with
       |false=>rfl
       |true=>
        exfalso;obtain⟨_,⟨o1,_,t1,_,ho1,_,ht1,_⟩,_⟩:=Gf ht;exact EJ (asi r o1 ho1 (by omega) (by omega)).1 ht1)
     rw[hop]at ho1;cases ho1;obtain⟨zp,hzp,hd1⟩:=Ja htp hgp anF;obtain⟨_,h1⟩:=hE1 _ ((hd1 _).2 rfl);have aDD:i∈R.erase p:=(hnd.mem_erase_iff).2 ⟨by omega,hiR⟩
     obtain⟨o2,E2,ho2,aDE,hE2⟩:=apj LX h1 aDD (hpw.erase p) (by
      intro r hr mR;have hr':=dh hr;have hrp:r≠p:=fun e=>by subst e;exact(hnd.not_mem_erase) hr
      refine Jj (ajh r hr') ?_;cases ht:aaw j8 r i with
      |false=>rfl
      |true=>
       exfalso;obtain⟨_,⟨o1,_,t1,_,ho1,_,ht1,_⟩,_⟩:=Gf ht;exact EJ (asi r o1 ho1 hrp (by omega)).1 ht1)
     rw[Qo]at ho2;cases ho2;obtain⟨zq,hzq,_⟩:=Ja htq hgq aDE;refine MZ S Qo (ahn htq hgq hzq) ?_;rintro e U' v w' rfl S';refine avO LX htw fuel (fun f R' aAx U' J' a' w' hf Xf F' _ S' h'=>ih f (by omega) R' aAx U' J' a' w' Xf F' S' h') Qo htq hgq hzq fuel R _ U' U J _ a w' w (b9 _) hl hpw (by simpa using hsz) hpR hiR (acl (by rw[hsz];exact hi1)) ?_ (Se Qo EI F.cl) S' S h;intro k;rw[hR k];by_cases hk:k=i
     ·subst hk;constructor
      ·rintro⟨h1,_⟩;exact⟨h1,.inr rfl⟩
      ·rintro⟨h1,_⟩;exact⟨h1,hi2⟩
     ·rw[getD_set_ne false (fun e=>hk e.symm)];constructor
      ·rintro⟨h1,h2⟩;exact⟨h1,.inl h2⟩
      ·rintro⟨h1,h2|h2⟩
       ·exact⟨h1,h2⟩
       ·exact absurd h2 hk
    ·have hno:∀r∈R,r<i->ahS j8 r i=false:=by
      intro r hr _;refine Jj (ajh r hr) ?_;cases ht:aaw j8 r i with
      |false=>rfl
      |true=>exact absurd ⟨r,hr,ht⟩ htw
     obtain⟨o,E,ho,Xg,hE⟩:=apj LX h hiR hpw hno;refine MZ S ho Xg ?_;intro e U' v w' he S';obtain⟨_,uh⟩:=hE e he;refine ih fuel (by omega) (R.erase i) _ U' _ _ w' ?_ (F.next Qo EI) S' uh;rw[dr hiR];omega
def asn{id:Nat}(hm:C.P.follows .mixedOrders=true)(LX:Ji j8=true)(h:acK C.P j8 (Q .normal) (cm j8.size) [] J)(S:mM C U J a w):
 (Code.region id j8 true).wpIn (Ga ro) 0 C.P (QC C Q) a w:=by
 refine wpIn_region_any hm ?_;refine axV LX j8.size (cm j8.size) _ U J a _ (by simp) ⟨cW,by simp,?_,?_⟩ (S.drew _) h
 ·intro i;simp only[List.mem_range];constructor
  ·intro hi;exact⟨hi,oJ _ _⟩
  ·exact fun h=>h.1
 ·intro j o hj hL;rw[oJ]at hL;cases hL
end region
section
variable {c:Nat}
def aji(P:aJ5)(f:aJ4)(args:List AV)(H:List jT)(x:AV)(H':List jT):Prop:=∀J':jJ,J'.heap=H->Bf P f args J' (fun o H2=>o=.panic x/\H2=H')
def apr(P:aJ5)(j8:Array aJ1)(c:Nat)(H:List jT)(x:AV)(H':List jT)(j:Nat)(o:aJ1)(J:jJ)(v:AV):Prop:=
 J.heap=H/\((j=c/\qx j8 o J=some true/\∃f args,nk J o.op=some (f,args)/\aji P f args H x H')\/
   pW j8 c j=true\/
   (j≠c/\∃e:vW,e.up=[]/\e.nw=[]/\e.val=v/\yc P j8 o J (fun e'=>e'=e)))
def aso(P:aJ5)(j8:Array aJ1)(c:Nat)(H:List jT)(x:AV)(H':List jT):List Nat->jJ->Prop
 |[],_=>True
 |j::rest,J=>∃o v,j8[j]? =some o/\apr P j8 c H x H' j o J v/\aso P j8 c H x H' rest (J.put o.dst v)
theorem Qr(J:jJ)(d:Option Tmp)(v:AV):(J.put d v).heap=J.heap:=by cases d<;>rfl
theorem axW{v:AV}{y:Operand}(h:∀t,d=some t->y≠ .tmp t):(J.put d v).ev y=J.ev y:=by
 have:=asg (J:=J) (dst:=d) (e:={val:=v}) h
 rwa [KA]at this
theorem amz{v:AV}{t:Nat}(h:∀t',d=some t'->t≠t'):(J.put d v).jV[t]? =J.jV[t]? :=by
 have:=agf (J:=J) (dst:=d) (e:={val:=v}) h
 rwa [KA]at this
theorem axX {d':Option Tmp}{v v':AV}(h:∀t,d=some t->d'≠some t):(J.put d v).put d' v'=(J.put d' v').put d v:=by
 cases d with
 |none=>cases d'<;>rfl
 |some t=>cases d' with
  |none=>rfl
  |some t'=>
   grind [jJ.put,cY]
def apr.move{v:AV}(h:apr P j8 c H x H' j o J v)(hh:J'.heap=J.heap)(Xr:∀y∈o.op.operands,J'.ev y=J.ev y)(hw:qx j8 o J'=qx j8 o J):apr P j8 c H x H' j o J' v:=by
 obtain⟨h0,h⟩:=h;refine⟨hh.trans h0,?_⟩;rcases h with⟨h1,h2,f,args,h3,h4⟩|h1|⟨h1,e,h2,h3,h4,h5⟩
 ·grind [KE]
 ·exact .inr (.inl h1)
 ·exact .inr (.inr ⟨h1,e,h2,h3,h4,h5.local Xr hw (fun _ _=>⟨⟨fun _ _=>by rw[hh],fun _=>by rw[hh]⟩,fun _=>hh⟩)⟩)
def aC7(LX:Ji j8=true){i:Nat}: ∀{R:List Nat}{J:jJ},aso P j8 c H x H' R J->i∈R->R.Pairwise (· < ·)->(∀r∈R,r<i->pW j8 r i=false)->
 ∃o v,j8[i]? =some o/\apr P j8 c H x H' i o J v/\aso P j8 c H x H' (R.erase i) (J.put o.dst v)
 |[],_,_,hi,_,_=>by simp at hi
 |r::R,J,⟨or',vr,hor,Xg,h⟩,hi,hpw,apk=>by
  by_cases e:r=i
  ·grind
  ·have hiR:i∈R:=by
    grind
   rw[cJ]at hpw;have hri:r<i:=hpw.1 i hiR;obtain⟨oi,v,Qo,aHW,hr⟩:=aC7 LX h hiR hpw.2 (fun q hq mR=>apk q (by simp [hq]) mR);obtain⟨_,Vw⟩:=Gb LX;obtain⟨ajc,_⟩:=(Vw i oi Qo).2 r or' hri hor (apk r (by simp) hri);obtain⟨a1,a2,a3⟩:=cT ajc;refine⟨oi,v,Qo,aHW.move (Qr _ _ _).symm (fun y hy=>?_) (NE fun k b d hg hd=>?_),?_⟩
   ·grind [axW,NF]
   ·grind [amz,Sd]
   ·have sA:(r::R).erase i=r::R.erase i:=dD (by simpa using e);rw[sA];refine⟨or',vr,hor,Xg.move (Qr _ _ _) (fun y hy=>?_) (NE fun k b d hg hd=>?_),?_⟩
    ·grind [axW,NF]
    ·grind [amz,Sd]
    grind [axX]
def ajj:List aJ1->List AV->List AV
 |[],s=>s
 |o::os,s=>ajj os (match o.dst with|some d=>s.set d .any|none=>s)
def aps(j8:Array aJ1)(c:Nat):Bool:=(match j8[c]? with|some o=>CM o.op|none=>false)&&
 (cm j8.size).all fun i=>if i<c then pW j8 i c else if i=c then true else pW j8 c i
def avP{c:Nat}(h:aps j8 c=true):(∀i,i<c->i<j8.size->pW j8 i c=true)/\(∀i,c<i->i<j8.size->pW j8 c i=true)/\∃o,j8[c]? =some o/\CM o.op=true:=by
 grind [aps]
def Xw(j8:Array aJ1)(s:List AV):List AV:=ajj j8.toList s
def agj: ∀(L:List aJ1)(s:List AV)(d:Nat)(v:AV),(∃o∈L,o.dst=some d)->ajj L (s.set d v)=ajj L s
 |[],_,_,_,⟨_,h,_⟩=>by simp at h
 |o::L,s,d,v,h=>by
  simp only[ajj];cases hd:o.dst with
  |none=>
   simp only;refine agj L s d v ?_
   grind
  |some t=>
   simp only;by_cases e:t=d
   ·subst e;rw[List.set_set]
   ·rw[cY _ _ (fun h=>e h.symm)];refine agj L _ d v ?_
    grind
theorem apt(ho:j8[i]? =some o)(v:AV):Xw j8 (J.put o.dst v).jV=Xw j8 J.jV:=by
 cases hd:o.dst with
 |none=>rfl
 |some d=>
  refine agj _ _ d v ⟨o,?_,hd⟩
  grind
def ko.axY:∀{cs:List AV}{vs:List aJ2}(d:Nat),ko E cs vs->ko E (cs.set d .any) vs
 |[],_,_,h=>h
 |_::_,_,0,⟨v,us,rfl,_,r⟩=>⟨v,us,rfl,trivial,r⟩
 |_::_,_,d+1,⟨v,us,rfl,h1,r⟩=>⟨v,us,rfl,h1,ko.axY d r⟩
def agk{E:Dw}:∀(L:List aJ1){cs:List AV}{vs:List aJ2},ko E cs vs->ko E (ajj L cs) vs
 |[],_,_,h=>h
 |o::L,cs,vs,h=>by
  simp only[ajj];cases o.dst with
  |none=>exact agk L h
  |some d=>exact agk L (ko.axY d h)
end
section region
variable {C:qu}
def mM.Xw{U:Nat->aJ2}{J:jJ}{a:Act}{w:aJ6}(S:mM C U J a w)(j8:Array aJ1):mM C U {J with jV:=Xw j8 J.jV} a w:={S with jV:=agk _ S.jV,defers:=S.defers}
def axZ(LX:Ji j8=true){c:Nat}{s0:List AV}(hQ:Q (.panic x) {jV:=Xw j8 s0,heap:=H',low,df}):
 ∀(fuel:Nat)(R:List Nat)(listed:Array Bool)(U:Nat->aJ2)(J:jJ)(a:Act)(w:aJ6),R.length=fuel->ae0 j8 R listed->c∈R->
 mM C U J a w->Xw j8 J.jV=Xw j8 s0->J.low=low->J.df=df->aso C.P j8 c H x H' R J->wpAnyIn (Ga ro) 0 C.P .any j8 (QC C Q) fuel listed a w:=by
 obtain⟨_,Vw⟩:=Gb LX;intro fuel;induction fuel with
 |zero=>
  grind
 |succ fuel ih=>
  intro R listed U J a w hl F hc S hs It ZI h;have hpw:=F.pw;have hsz:=F.sz;have hR:=F.mem;have hnd:R.Nodup:=hpw.imp (fun h=>dj h);refine⟨?_,?_⟩
  ·intro asl;exfalso;cases R with
   |nil=>simp at hl
   |cons r R=>
    have hr:=(hR r).1 (by simp);have ho:j8[r]? =some j8[r]:=cC hr.1
    have:r∈Region.ready .any j8 listed:=by
     rw[KF listed r hsz]
     grind [cJ]
    grind
  ·intro i hi;rw[KF listed i hsz]at hi;obtain⟨hi1,hi2,oi,Qo,EI⟩:=hi;have hiR:=(hR i).2 ⟨hi1,hi2⟩
   have ajh:∀r∈R,pW j8 r i=false:=by
    intro r hr;cases hq:pW j8 r i with
    |false=>rfl
    |true=>
     exfalso;have:=xJ LX F.cl Qo EI hq
     grind
   obtain⟨o,v,ho,⟨hH,Xg⟩,uh⟩:=aC7 LX h hiR hpw (fun r hr _=>ajh r hr);rw[Qo]at ho;cases ho;rcases Xg with⟨rfl,hw,f,args,ax0,aDG⟩|apk|⟨sA,e,hup,hnw,hval,hS⟩
   ·unfold wpOpIn;simp only[Qo];rw[zZ S hw];simp only[jE];have xE:=aDG J hH;obtain⟨vs,uz,hr⟩:=KC S ax0 xE.1;refine⟨fun _ _=>trivial,?_⟩;rw[cZ _ _ _ (NV ax0),uz,cV];refine⟨fun h=>by simp [Ga,cf]at h,JB.2 ?_⟩;refine(xE.2 C U a w rfl S vs hr).mono fun en w' ⟨o',U',H2,⟨ho',hH2⟩,S',ui⟩=>?_
    subst ho' hH2;cases en with
    |returned v=>exact ui.elim
    |panicked chain=>
     obtain⟨u,hu,hr⟩:=ui;refine⟨U',{jV:=Xw j8 s0,heap:=H2,low,df},x,u,?_,hQ,hu,hr⟩;have:=S'.Xw j8
     grind
    |outgrown=>exact ui.elim
   ·rw[ajh c hc]at apk;cases apk
   ·refine MZ S Qo hS ?_;rintro e' U' v' w' rfl S'
    have aHX:J.app oi.dst e'=J.put oi.dst v:=by
     rw[show J.app oi.dst e'=J.app oi.dst {val:=v} by simp [jJ.app,hup,hnw,hval],KA]
    rw[aHX]at S';refine ih (R.erase i) _ U' _ _ w' ?_ (F.next Qo EI) ((hnd.mem_erase_iff).2 ⟨fun e=>sA e.symm,hc⟩) S' ?_ ?_ ?_ uh
    ·grind
    ·rw[apt Qo];exact hs
    ·rw[<-It];cases oi.dst<;>rfl
    ·rw[<-ZI];cases oi.dst<;>rfl
def asp{id c:Nat}(hm:C.P.follows .mixedOrders=true)(LX:Ji j8=true)(hc:c<j8.size)(h:aso C.P j8 c J.heap x H' (cm j8.size) J)
 (hQ:Q (.panic x) {J with jV:=Xw j8 J.jV,heap:=H'}) (S:mM C U J a w):(Code.region id j8 true).wpIn (Ga ro) 0 C.P (QC C Q) a w:=by
 refine wpIn_region_any hm ?_;refine axZ LX hQ j8.size (cm j8.size) _ U J a _ (by simp) ⟨cW,by simp,?_,?_⟩ (by simpa using hc) (S.drew _) rfl rfl rfl h
 all_goals grind [oJ]
def amA(P:aJ5)(j8:Array aJ1)(c:Nat)(Q:nU->jJ->Prop)(J:jJ):Prop:=
 ∃o f args x H',j8[c]? =some o/\qx j8 o J=some true/\nk J o.op=some (f,args)/\aji P f args J.heap x H'/\Q (.panic x) {J with jV:=Xw j8 J.jV,heap:=H'}
def avQ(LX:Ji j8=true){c k:Nat}(apu:aps j8 c=true)(hk:j8.size=c+(k+1)):
 ∀(f:Nat)(R:List Nat)(listed:Array Bool)(U:Nat->aJ2)(J:jJ)(a:Act)(w:aJ6),R.length+k=f->(∀r∈R,r<c)->ae0 j8 (R++cD c (k+1)) listed->mM C U J a w->acK C.P j8 (amA C.P j8 c Q) R [] J->wpAnyIn (Ga ro) 0 C.P .any j8 (QC C Q) (f+1) listed a w:=by
 obtain⟨_,Vw⟩:=Gb LX;obtain⟨hb,ha,xE⟩:=avP apu;intro f;induction f using Nat.strongRecOn with
 |ind f ih=>
  intro R listed U J a w hl hRc F S h;have hpw:=F.pw;have hsz:=F.sz;have hR:=F.mem;have aFL:R.Pairwise (· < ·):=(List.pairwise_append.1 hpw).1;have hnd:R.Nodup:=aFL.imp (fun h=>dj h);have aC8:c∈R++cD c (k+1):=cw.2 (.inr (by rw[List.mem_range'_1];omega));refine⟨?_,?_⟩
  ·intro asl;exfalso;generalize R++cD c (k+1)=L at hpw hR aC8;cases L with
   |nil=>simp at aC8
   |cons r L=>
    have hr:=(hR r).1 (by simp);have ho:j8[r]? =some j8[r]:=cC hr.1
    have:r∈Region.ready .any j8 listed:=by
     rw[KF listed r hsz];refine⟨hr.1,hr.2,_,ho,fun d hd=>?_⟩
     grind [cJ]
    grind
  ·intro i hi;rw[KF listed i hsz]at hi;obtain⟨hi1,hi2,oi,Qo,EI⟩:=hi;have hiR:=(hR i).2 ⟨hi1,hi2⟩
   have ajh:∀r∈R++cD c (k+1),pW j8 r i=false:=by
    intro r hr;cases hq:pW j8 r i with
    |false=>rfl
    |true=>
     exfalso;have:=xJ LX F.cl Qo EI hq
     grind
   rcases cw.1 hiR with aDH|hiC
   ·have hno:∀r∈R,r<i->ahS j8 r i=false:=fun r hr _=>Jj (ajh r (cw.2 (.inl hr))) (by
     cases ht:aaw j8 r i with
     |false=>rfl
     |true=>
      exfalso;obtain⟨_,_,asi⟩:=Gf ht;obtain⟨oc,hoc,hcc⟩:=xE;have h1:=hRc r hr;have h2:=hRc i aDH;rw[Ah (asi c oc hoc (by omega) (by omega)).1]at hcc;cases hcc)
    obtain⟨o,E,ho,Xg,hE⟩:=apj LX h aDH aFL hno;have ala:=List.length_pos_of_mem aDH;obtain⟨f',rfl⟩:∃f',f=f'+1:=⟨f-1,by omega⟩;refine MZ S ho Xg ?_;intro e U' v w' he S';obtain⟨_,uh⟩:=hE e he;refine ih f' (by omega) (R.erase i) _ U' _ _ w' ?_ (fun r hr=>hRc r (dh hr)) ?_ S' uh
    ·grind
    ·have:=F.next Qo EI
     grind
   ·rw[List.mem_range'_1] at hiC;rcases Nat.eq_or_lt_of_le hiC.1 with e|mR
    ·subst e
     have hR0:R=[]:=by
      cases R with
      |nil=>rfl
      |cons r R=>
       exfalso;have h1:=ajh r (by simp)
       grind
     subst hR0;obtain⟨o,fn,args,x,H',ho,hw,ax0,aDG,hQ⟩:amA C.P j8 c Q J:=h;rw[Qo]at ho;cases ho;unfold wpOpIn;simp only[Qo];rw[zZ S hw];simp only[jE];have xE:=aDG J rfl;obtain⟨vs,uz,hr⟩:=KC S ax0 xE.1;refine⟨fun _ _=>trivial,?_⟩;rw[cZ _ _ _ (NV ax0),uz,cV];refine⟨fun h=>by simp [Ga,cf]at h,JB.2 ?_⟩;refine(xE.2 C U a w rfl S vs hr).mono fun en w' ⟨o',U',H2,⟨ho',hH2⟩,S',ui⟩=>?_
     subst ho' hH2;cases en with
     |returned v=>exact ui.elim
     |panicked chain=>
      obtain⟨u,hu,hr⟩:=ui;exact⟨U',{J with jV:=Xw j8 J.jV,heap:=H2},x,u,S'.Xw j8,hQ,hu,hr⟩
     |outgrown=>exact ui.elim
    grind
def asq{id c:Nat}(hm:C.P.follows .mixedOrders=true)(LX:Ji j8=true)(hc:c<j8.size)(apu:aps j8 c=true)(h:acK C.P j8 (amA C.P j8 c Q) (cm c) [] J)
 (S:mM C U J a w):(Code.region id j8 true).wpIn (Ga ro) 0 C.P (QC C Q) a w:=by
 refine wpIn_region_any hm ?_;obtain⟨k,hk⟩:∃k,j8.size=c+(k+1):=⟨j8.size-c-1,by omega⟩
 have PX:cm c++cD c (k+1)=cm j8.size:=by
  rw[ct,ct,hk]
  grind
 have hF:ae0 j8 (cm c++cD c (k+1)) (b8 j8.size false):=by
  rw[PX];refine⟨cW,by simp,?_,?_⟩
  all_goals grind [oJ]
 have key:∀w',mM C U J a w'->wpAnyIn (Ga ro) 0 C.P .any j8 (QC C Q) j8.size (b8 j8.size false) a w':=by
  intro w' S';have:=avQ (ro:=ro) (Q:=Q) LX apu hk (c+k) (cm c) (b8 j8.size false) U J a w' (by simp) (by simp) hF S' h
  grind
 exact key _ (S.drew _)
def Qs(tr:List Tr):Bool:=tr.all fun t=>t.e.up.isEmpty&&t.e.nw.isEmpty
def VB (P:aJ5) (j8:Array aJ1) (c:Nat):List aJ1->Nat->jJ->Prop
 |[],_,_=>True
 |o::rest,j,J=>match pW j8 c j with
  |true=>VB P j8 c rest (j+1) (J.put o.dst (.sO undef))
  |false=>match qx j8 o J with
   |none=>False
   |some false=>VB P j8 c rest (j+1) (J.put o.dst (.sO undef))
   |some true=>nk J o.op=none/\match kQ P J o.op with
    |some e=>(e.pre/\e.up=[]/\e.nw=[])/\VB P j8 c rest (j+1) (J.put o.dst e.val)
    |none=>False
theorem NG{P:aJ5}{c:Nat}{H H':List jT}{x:AV}:∀(rest:List aJ1)(j:Nat)(J:jJ),j8.toList.drop j=rest->c<j->J.heap=H->VB P j8 c rest j J->aso P j8 c H x H' (cD j rest.length) J
 |[],_,_,_,_,_,_=>trivial
 |o::rest,j,J,hd,hcj,hH,h=>by
  have ho:j8[j]? =some o:=by
   have:=congrArg (fun l:List aJ1=>l[0]?) hd;simpa using this
  have uh:j8.toList.drop (j+1)=rest:=by
   grind [dm]
  simp only[dw,db];simp only[VB]at h;split at h
  ·rename_i hor;exact⟨o,.sO undef,ho,⟨hH,.inr (.inl hor)⟩,NG rest (j+1) _ uh (by omega) (by rw[Qr];exact hH) h⟩
  ·split at h
   ·exact h.elim
   ·rename_i hw;exact⟨o,.sO undef,ho,⟨hH,.inr (.inr ⟨by omega,{val:=.sO undef},rfl,rfl,rfl,.inl ⟨hw,fun _=>b7⟩⟩)⟩,NG rest (j+1) _ uh (by omega) (by rw[Qr];exact hH) h⟩
   ·rename_i hw;obtain⟨hc,h⟩:=h;split at h
    ·rename_i e he;obtain⟨⟨hp,hu,hn⟩,h⟩:=h;exact⟨o,e.val,ho,⟨hH,.inr (.inr ⟨by omega,e,hu,hn,rfl,.inr (.inl ⟨hw,hc,e,he,hp,fun _=>b7⟩)⟩)⟩,NG rest (j+1) _ uh (by omega) (by rw[Qr];exact hH) h⟩
    ·exact h.elim
end region
def nU.then(next:jJ->Prop)(Q:nU->jJ->Prop):nU->jJ->Prop
 |.normal,J=>next J
 |e,J=>Q e J
def nU.inBlock(id:Nat)(Q:nU->jJ->Prop):nU->jJ->Prop
 |.exit id',J=>if id'=id then Q .normal J else Q (.exit id') J
 |e,J=>Q e J
def nU.noGoto(Q:nU->jJ->Prop):nU->jJ->Prop
 |.goto _,_=>False
 |e,J=>Q e J
def vW.idle(e:vW):Bool:=e.rd.isEmpty&&e.up.isEmpty&&e.nw.isEmpty&& !e.whole
def M2(tr:List Tr)(j n:Nat)(e:vW):List Tr:=bif e.idle then tr else tr++[⟨j,n,e⟩]
def Xx(j8:Array aJ1)(tr:List Tr)(j:Nat)(e:vW):Prop:=e.idle=true\/DP j8 tr j e=true
def ae1 (P:aJ5) (j8:Array aJ1) (Q:nU->jJ->Prop):List aJ1->Nat->List Tr->jJ->Prop
 |[],_,_,J=>Q .normal J
 |o::rest,j,tr,J=>match qx j8 o J with
  |none=>False
  |some b=>(b=true->match nk J o.op with
    |some (f,args)=>(∃r,KD P f args (fun v=>v=r)/\ae1 P j8 Q rest (j+1) tr (J.put o.dst r))\/
      (∃e,Hz P f args J e/\Xx j8 tr j e/\ae1 P j8 Q rest (j+1) (M2 tr j J.heap.length e) (J.app o.dst e))\/
      ∃x H',aji P f args J.heap x H'/\(aps j8 j=true\/(Qs tr=true/\VB P j8 j rest (j+1) (J.put o.dst (.sO undef))))/\Q (.panic x) {J with jV:=Xw j8 J.jV,heap:=H'}
    |none=>match kQ P J o.op with
     |some e=>e.pre/\Xx j8 tr j e/\ae1 P j8 Q rest (j+1) (M2 tr j J.heap.length e) (J.app o.dst e)
     |none=>False)/\
   (b=false->ae1 P j8 Q rest (j+1) tr (J.put o.dst (.sO undef)))
def ax1(P:aJ5)(g:Operand)(ps:Array Tmp)(aJU body:aJ3)(Q:nU->jJ->Prop)(J:jJ):Prop:=
 ∀(C:qu)(U:Nat->aJ2)(a:Act)(w:aJ6),C.P=P->mM C U J a w->(Code.rangeFunc g ps aJU body).wpIn (Ga none) 0 P (QC C Q) a w
def yd:aJ3->Bool
 |.region _ j8 _=>j8.toList.all fun o=> !auE o.op
 |.seq x y=>yd x&&yd y
 |.cond _ x y=>yd x&&yd y
 |.block _ x=>yd x
 |.loop x=>yd x
 |.scope x=>yd x
 |.rangeFunc _ _ _ _=>false
 |_=>true
def awp(P:aJ5):aJ3->(nU->jJ->Prop)->jJ->Prop
 |.skip,Q,J=>Q .normal J
 |.region _ j8 false,Q,J=>Uk P j8 j8.toList Q J
 |.region _ j8 true,Q,J=>(P.follows .mixedOrders=true/\Ji j8=true)/\ae1 P j8 Q j8.toList 0 [] J
 |.seq x y,Q,J=>awp P x (nU.then (fun J1=>∃J2,KB J1 J2/\awp P y Q J2) Q) J
 | .cond c x y,Q,J=>match J.ev c with
   |.bool b=>(b=true->awp P x Q J)/\(b=false->awp P y Q J)
   |_=>False
 |.block id x,Q,J=>awp P x (nU.inBlock id Q) J
 |.loop x,Q,J=>∃(I:Nat->jJ->Prop)(n:Nat)(J':jJ),KB J J'/\I n J'/\
     ∀n J,I n J->awp P x (nU.then (fun J1=>∃n' J',n'<n/\KB J1 J'/\I n' J') Q) J
 |.exit id,Q,J=>Q (.exit id) J
 |.scope x,Q,J=>awp P x (nU.noGoto Q) J
 |.label _,Q,J=>Q .normal J
 |.ret,Q,J=>Q .ret J
 |.goto _,_,_=>False
 |.rangeFunc g ps aJU body,Q,J=>ax1 P g ps aJU body Q J
 |.refuse _,_,_=>False
theorem ae2{t:Tr}{e:vW}(h:e.idle=true):CN t e=true:=by
 grind [vW.idle,CN,JC]
theorem agl{t:Tr}{e:vW}(h:t.e.idle=true):CN t e=true:=by
 grind [vW.idle,CN,JC]
def aho{e:vW}(h:Qs (M2 tr j n e)=true):Qs tr=true/\e.up=[]/\e.nw=[]:=by
 grind [M2,vW.idle,Qs]
def aAy(P:aJ5)(j8:Array aJ1)(Q:nU->jJ->Prop)(j m:Nat)(tr:List Tr)(J:jJ):Prop:=
 Qs tr=true/\∃c x H',j<=c/\c<j+m/\aso P j8 c J.heap x H' (cD j m) J/\Q (.panic x) {J with jV:=Xw j8 J.jV,heap:=H'}
theorem aAy.step {m:Nat}{tr':List Tr}{v:AV}(ho:j8[j]? =some o)(ht:Qs tr'=true->Qs tr=true/\∃e:vW,e.up=[]/\e.nw=[]/\e.val=v/\yc P j8 o J (fun e'=>e'=e))
 (h:aAy P j8 Q (j+1) m tr' (J.put o.dst v)):aAy P j8 Q j (m+1) tr J:=by
 obtain⟨h1,c,x,H',h2,h3,h4,h5⟩:=h;obtain⟨k1,k2⟩:=ht h1;refine⟨k1,c,x,H',by omega,by omega,?_,?_⟩
 ·rw[db];rw[Qr]at h4;exact⟨o,v,ho,⟨rfl,.inr (.inr ⟨by omega,k2⟩)⟩,h4⟩
 ·rw[apt ho]at h5;cases hd:o.dst<;>rw[hd]at h5<;>exact h5
theorem apv{e:vW}(hu:e.up=[])(hn:e.nw=[]):J.app d e=J.put d e.val:=by
 rw[show J.app d e=J.app d {val:=e.val,rd:=e.rd,pre:=e.pre} by simp [jJ.app,hu,hn]];exact KA _ _ _ _ _
def aaA(P:aJ5)(j8:Array aJ1)(Q:nU->jJ->Prop)(j n:Nat)(tr:List Tr)(J:jJ):Prop:=
 ∃m K,acK P j8 K (cD j m) tr J/\((m=n/\K=Q .normal)\/(m<n/\aps j8 (j+m)=true/\K=amA P j8 (j+m) Q))
theorem aaA.step{e:vW}(ho:j8[j]? =some o)(Xg:yc P j8 o J (fun e'=>e'=e))(hc:DP j8 tr j e=true)
 (h:aaA P j8 Q (j+1) n (tr++[⟨j,J.heap.length,e⟩]) (J.app o.dst e)):aaA P j8 Q j (n+1) tr J:=by
 obtain⟨m,K,h,hK⟩:=h;refine⟨m+1,K,?_,?_⟩
 ·rw[db];exact⟨o,_,ho,Xg,fun e' he=>by subst he;exact⟨hc,h⟩⟩
 grind
def Iu{P:aJ5}{j8:Array aJ1}{Q:nU->jJ->Prop}: ∀(rest:List aJ1)(j:Nat)(tr tr':List Tr)(J:jJ),j8.toList.drop j=rest->(∀t∈tr',t∈tr\/t.e.idle=true)->
 ae1 P j8 Q rest j tr J->aaA P j8 Q j rest.length tr' J\/aAy P j8 Q j rest.length tr J
 |[],_,_,_,_,_,_,h=>.inl ⟨0,Q .normal,h,.inl ⟨rfl,rfl⟩⟩
 |o::rest,j,tr,tr',J,hd,htr,h=>by
  have ho:j8[j]? =some o:=by
   have:=congrArg (fun l:List aJ1=>l[0]?) hd;simpa using this
  have uh:j8.toList.drop (j+1)=rest:=by
   grind [dm]
  have auJ:∀e,Xx j8 tr j e->DP j8 tr' j e=true:=by
   intro e he;unfold DP;rw[List.all_eq_true];intro t ht;rcases he with he|he
   all_goals grind [ae2,DP,agl]
  have aC9:∀n e,∀t∈tr'++[⟨j,n,e⟩],t∈M2 tr j n e\/t.e.idle=true:=by
   grind [M2]
  have aIO:∀x:AV,({val:=x}:vW).idle=true:=fun _=>rfl
  have ax2:∀n x,∀t∈tr'++[⟨j,n,{val:=x}⟩],t∈tr\/t.e.idle=true:=by
   grind
  simp only[ae1]at h;simp only[dw];split at h
  ·exact h.elim
  ·rename_i b hb;cases b with
   |false=>
    have Xg:yc P j8 o J (fun e=>e={val:=.sO undef}):=.inl ⟨hb,fun _=>b7⟩;rcases Iu rest (j+1) tr (tr'++[⟨j,J.heap.length,{val:=.sO undef}⟩]) _ uh (ax2 _ _) (h.2 rfl)with hl|hr
    ·exact .inl (aaA.step ho Xg (auJ _ (.inl rfl)) (by rw[KA];exact hl))
    ·exact .inr (hr.step ho fun ht=>⟨ht,_,rfl,rfl,rfl,Xg⟩)
   |true=>
    have h:=h.1 rfl;split at h
    ·rename_i f args hc;rcases h with⟨r,hf,hK⟩|⟨e,hf,hcp,hK⟩|⟨x,H',hp,hsp|⟨ht,hri⟩,hQ⟩
     ·have Xg:yc P j8 o J (fun e=>e={val:=r}):=.inr (.inr (.inl ⟨hb,f,args,_,hc,hf,⟨r,rfl⟩,fun e=>⟨fun he=>⟨r,rfl,he⟩,fun ⟨r',h1,h2⟩=>by rw[h2,h1]⟩⟩));rcases Iu rest (j+1) tr (tr'++[⟨j,J.heap.length,{val:=r}⟩]) _ uh (ax2 _ _) hK with hl|hr
      ·exact .inl (aaA.step ho Xg (auJ _ (.inl rfl)) (by rw[KA];exact hl))
      ·exact .inr (hr.step ho fun ht=>⟨ht,_,rfl,rfl,rfl,Xg⟩)
     ·have Xg:yc P j8 o J (fun e'=>e'=e):=.inr (.inr (.inr ⟨hb,f,args,e,hc,hf,fun _=>b7⟩));rcases Iu rest (j+1) _ (tr'++[⟨j,J.heap.length,e⟩]) _ uh (aC9 _ _) hK with hl|hr
      ·grind [aaA.step]
      ·right;have ht:=hr.1;obtain⟨t1,t2,t3⟩:=aho ht;rw[apv t2 t3]at hr;exact hr.step ho fun _=>⟨t1,e,t2,t3,rfl,Xg⟩
     ·exact .inl ⟨0,amA P j8 j Q,(⟨o,f,args,x,H',ho,hb,hc,hp,hQ⟩:amA P j8 j Q J),.inr ⟨by omega,hsp,rfl⟩⟩
     ·right;refine⟨ht,j,x,H',b9 _,by omega,?_,hQ⟩;rw[db];refine⟨o,.sO undef,ho,⟨rfl,.inl ⟨rfl,hb,f,args,hc,hp⟩⟩,?_⟩
      grind [NG,Qr]
    ·rename_i hc;split at h
     ·rename_i e he;have Xg:yc P j8 o J (fun e'=>e'=e):=.inr (.inl ⟨hb,hc,e,he,h.1,fun _=>b7⟩);rcases Iu rest (j+1) _ (tr'++[⟨j,J.heap.length,e⟩]) _ uh (aC9 _ _) h.2.2 with hl|hr
      ·grind [aaA.step]
      ·right;have ht:=hr.1;obtain⟨t1,t2,t3⟩:=aho ht;rw[apv t2 t3]at hr;exact hr.step ho fun _=>⟨t1,e,t2,t3,rfl,Xg⟩
     ·exact h.elim
section sound
variable {C:qu}
def auK{next:jJ->Prop}{aDa:Act->aJ6->Prop}(h:∀U J a w,mM C U J a w->next J->aDa a w){e:Exit}
 (hq:QC C (nU.then next Q) e a w):Exit.then aDa (QC C Q) e a w:=by
 cases e with
 |normal=>obtain⟨U,J,S,hn⟩:=hq;exact h U J a w S hn
 |exit id=>exact hq
 |goto l=>exact hq
 |ret=>exact hq
 |panic chain=>exact hq
 |outgrown=>exact hq
def asr{id:Nat}{e:Exit}(hq:QC C (nU.inBlock id Q) e a w):Exit.inBlock id (QC C Q) e a w:=by
 cases e with
 |exit id'=>
  obtain⟨U,J,S,h⟩:=hq;simp only[nU.inBlock]at h;simp only[Exit.inBlock];split at h
  ·rename_i e;rw[if_pos e];exact⟨U,J,S,h⟩
  ·rename_i e;rw[if_neg e];exact⟨U,J,S,h⟩
 |normal=>exact hq
 |goto l=>exact hq
 |ret=>exact hq
 |panic chain=>exact hq
 |outgrown=>exact hq
def avR{e:Exit}(hq:QC C (nU.noGoto Q) e a w):Exit.noGoto (QC C Q) e a w:=by
 cases e with
 |goto l=>obtain⟨U,J,S,h⟩:=hq;exact h.elim
 |normal=>exact hq
 |exit id=>exact hq
 |ret=>exact hq
 |panic chain=>exact hq
 |outgrown=>exact hq
def anG{Q:Exit->Act->aJ6->Prop}(I:Nat->Act->aJ6->Prop)(n₀:Nat)(h₀:I n₀ a w)
 (round:∀m a w,I m a w->c.wpIn F n P (Exit.then (fun a' w'=>∃m',m'<m/\I m' a' w') Q) a w):(Code.loop c).wpIn F n P Q a w:=by
 refine wpIn_loop (fun a w=>∃m,I m a w) (fun a w=>leastOf (fun m=>I m a w)) ⟨n₀,h₀⟩ ?_;intro a w hI;refine wpIn_mono (round _ a w (leastOf_spec hI).1) ?_;intro e a' w' hq;cases e with
 |normal=>
  obtain⟨m',mR,hI'⟩:=hq;exact⟨⟨m',hI'⟩,Nat.lt_of_le_of_lt ((leastOf_spec ⟨m',hI'⟩).2 m' hI') mR⟩
 |exit id=>exact hq
 |goto l=>exact hq
 |ret=>exact hq
 |panic chain=>exact hq
 |outgrown=>exact hq
def JE{b:Frame}:step P (lone (b.atR a (.code (.scope c)::k)) cs w)=.next (lone (b.atR a (.code c::.inScope c::k)) cs w):=
 step_lone_go (by simp [stepG,stepG.exec,Frame.atR])
def alb{b:Frame}:step P (lone (b.atR a (.inScope c::k)) cs w)=.next (lone (b.atR a k) cs w):=
 step_lone_go (by simp [stepG,stepG.exec,Frame.atR])
def agm{Q:Exit->Act->aJ6->Prop}(h:c.wpIn F n P (Exit.noGoto Q) a w):(Code.scope c).wpIn F n P Q a w:=by
 intro b k cs hro hb hr;have h0:(lone (b.atR a (.code (.scope c)::k)) cs w).fenced P F:=fenced_calm (fr:=b.atR a (.code (.scope c)::k)) hb hr rfl;obtain⟨e,a₁,w₁,hq,alc⟩:=h b (.inScope c::k) cs hro hb hr;cases e with
 |normal=>exact⟨.normal,a₁,w₁,hq,.head h0 JE (StepsIn.trans alc (.one (fenced_calm (fr:=b.atR a₁ (.inScope c::k)) hb hr rfl) alb))⟩
 |exit id=>
  have hx:exitTo id (.inScope c::k)=exitTo id k:=by simp [exitTo]
  exact⟨.exit id,a₁,w₁,hq,fun k' hk=>.head h0 JE (alc.1 k' (by rw[hx];exact hk)),
   fun hr' hk=>let ⟨k₁,h1,h2⟩:=alc.2 hr' (by rw[hx];exact hk);⟨k₁,h1,.head h0 JE h2⟩⟩
 |goto l=>exact hq.elim
 |ret=>exact⟨.ret,a₁,w₁,hq,.of_steps (.one h0 JE) alc⟩
 |panic ch=>exact⟨_,a₁,w₁,hq,.of_steps (.one h0 JE) alc⟩
 |outgrown=>exact⟨_,a₁,w₁,hq,.of_steps (.one h0 JE) alc⟩
def ye{ro:Option Nat}: ∀(c:aJ3)(Q:nU->jJ->Prop)(U:Nat->aJ2)(J:jJ)(a:Act)(w:aJ6),(ro=none\/yd c=true)->awp C.P c Q J->mM C U J a w->c.wpIn (Ga ro) 0 C.P (QC C Q) a w
 |.skip,Q,U,J,a,w,_,h,S=>wpIn_skip ⟨U,J,S,h⟩
 | .region id j8 false,Q,U,J,a,w,hn,h,S=>by
   have:=aeP (ro:=ro) rfl j8.toList 0 hn (by simp) U J a w h S
   grind [wpIn_region,ct]
 | .region id j8 true,Q,U,J,a,w,_,h,S=>by
   obtain⟨⟨hm,LX⟩,h⟩:=h;rcases Iu j8.toList 0 [] [] J (by simp) (by simp) h with⟨m,K,this,⟨hm',rfl⟩|⟨hm',hsp,rfl⟩⟩|⟨_,c,x,H',_,hc,hI,hQ⟩
   ·refine asn hm LX ?_ S
    grind [ct]
   ·rw[Nat.zero_add]at this hsp;exact asq hm LX (by simpa using hm') hsp (by rw[ct];exact this) S
   ·refine asp (c:=c) (x:=x) (H':=H') hm LX (by simpa using hc) ?_ hQ S
    grind [ct]
 | .seq x y,Q,U,J,a,w,hn,h,S=>
   wpIn_seq (wpIn_mono (ye x _ U J a w (hn.imp id fun h=>(cg _ _ ▸ h:yd x=true/\yd y=true).1) h S) fun _ _ _ hq=>auK (fun U' J' a' w' S' h'=>by
    obtain⟨J2,H6,h2⟩:=h';obtain⟨U2,S2⟩:=H6 C U' a' w' S';exact ye y Q U2 J2 a' w' (hn.imp id fun h=>(cg _ _ ▸ h:yd x=true/\yd y=true).2) h2 S2) hq)
 | .cond c x y,Q,U,J,a,w,hn,h,S=>by
   simp only[awp]at h;have hc:=S.ev c;split at h
   ·rename_i b hb;rw[hb]at hc;simp only[pg]at hc;refine wpIn_cond hc ?_;cases b with
    |true=>exact ye x Q U J a w (hn.imp id fun h=>(cg _ _ ▸ h:yd x=true/\yd y=true).1) (h.1 rfl) S
    |false=>exact ye y Q U J a w (hn.imp id fun h=>(cg _ _ ▸ h:yd x=true/\yd y=true).2) (h.2 rfl) S
   ·exact h.elim
 |.block id x,Q,U,J,a,w,hn,h,S=>wpIn_block (wpIn_mono (ye x _ U J a w hn h S) fun _ _ _ hq=>asr hq)
 | .loop x,Q,U,J,a,w,hn,h,S=>by
   obtain⟨I,n,J',H6,hI,aDI⟩:=h;obtain⟨U',S'⟩:=H6 C U a w S;refine anG (fun n a w=>∃U J,I n J/\mM C U J a w) n ⟨U',J',hI,S'⟩ ?_;rintro n a w ⟨U,J,hI,S⟩;refine wpIn_mono (ye x _ U J a w hn (aDI n J hI) S) fun _ _ _ hq=>auK ?_ hq
   rintro U1 J1 a1 w1 S1 ⟨n',J2,mR,H6,hI'⟩;obtain⟨U2,S2⟩:=H6 C U1 a1 w1 S1
   grind
 |.exit id,Q,U,J,a,w,_,h,S=>wpIn_exit ⟨U,J,S,h⟩
 |.scope x,Q,U,J,a,w,hn,h,S=>agm (wpIn_mono (ye x _ U J a w hn h S) fun _ _ _ hq=>avR hq)
 |.label l,Q,U,J,a,w,_,h,S=>wpIn_label ⟨U,J,S,h⟩
 |.ret,Q,U,J,a,w,_,h,S=>wpIn_ret ⟨U,J,S,h⟩
 |.goto l,Q,U,J,a,w,_,h,S=>h.elim
 | .rangeFunc f p x y,Q,U,J,a,w,hn,h,S=>by
   rcases hn with rfl|hn
   ·exact h C U a w rfl S
   ·cases hn
 |.refuse s,Q,U,J,a,w,_,h,S=>h.elim
def mM.ae3{ds:List Deferred}(S:mM C U J {tmps,defers:=⟨.collected D,#[]⟩::ds} w):
 w.heap[D]? =some (.deferred (some []))/\mM C U J {tmps,defers:=ds} (w.putObj D (.deferred none)):=by
 obtain⟨hnd,PX,hrd⟩:=S.defers;have hmk:aeK (⟨.collected D,#[]⟩:Deferred)=true:=rfl;simp only[dx,hmk,jE,Bool.not_true,cU,if_false]at hnd hrd;obtain⟨D',hD,h1,h2,h3⟩:=PX _ (cN) rfl;simp only[Deferred.mk.injEq,Target.collected.injEq,and_true]at hD;subst hD;refine⟨h1,?_⟩;have DO:∀b,b≠D->(w.putObj D (.deferred none)).heap[b]? =w.heap[b]? :=fun b hb=>World.putObj_heap_other hb
 have tO:∀b o,(w.putObj D (.deferred none)).cell? ⟨b,o,none⟩=w.cell? ⟨b,o,none⟩:=by
  grind [World.cell?,World.putObj_heap_same]
 have hty:tyk w (w.putObj D (.deferred none)):=anq h1 (by intro c t fz h;cases h) DO
 have le:(C.env U J.heap w).Le J.heap.length (C.env U J.heap (w.putObj D (.deferred none))):=
  qu.CG (b9 _) (fun _ _=>⟨rfl,rfl⟩) (fun b o u hm hc=>⟨hm,by rw[tO];exact hc⟩)
 have BM:sQ C U J.heap (w.putObj D (.deferred none)) J.df ds:=by
  rw[dy]at hnd;refine⟨hnd.2,fun d hd hm=>?_,hrd.mono le⟩
  grind
 refine {jV:=ko.mono le _ _ (ko.nb _ _ S.jV) S.jV,defers:=BM,nX:=?_,apart:=S.apart,tW:=S.tW,size:=by grind [World.putObj_size],F9:=fun b o hb hm=>by rw[tO];exact S.F9 b o hb hm,nM:=?_,Ce:=S.Ce,wS:=?_,rest:=S.rest,low:=S.low,lR:=S.lR}
 ·intro l x hx;exact n8.mono (S.nX l x hx) le (fun b hb=>DO b (fun e=>by subst e;exact h3 l x hx hb))
 ·intro b hb hm;rw[DO b (by omega)];exact S.nM b hb hm
 ·intro x hx hm0;rw[<-S.wS x hx hm0]
  grind [World.frozen?]
def mM.auL{fn:Func}{R:aJ7->aJ6->Prop}{tm:Array aJ2}(hu:u≠ .run)(ZI:J.df=[]):∀(ds:List Deferred)(w:aJ6),mM C U J {tmps,defers:=ds} w->
 (∀w',mM C U J {tmps,defers:=[]} w'->LeavesIn cf 0 C.P fn tm R [] u w')->LeavesInM cf 0 C.P fn tm R ds u w
 |[],w,S,h=>h w S
 |d::ds,w,S,h=>by
  have hm:aeK d=true:=by
   have:=S.defers.2.2;rw[ZI]at this;have ad8:(d::ds).filter (fun d=> !aeK d)=[]:=this;rw[List.filter_eq_nil_iff]at ad8;simpa using ad8 d (cN)
  obtain⟨D,hD,_⟩:=S.defers.2.1 d (cN) hm;subst hD;obtain⟨h1,S'⟩:=S.ae3;exact⟨hu,.inl ⟨D,_,rfl,run_takeDeferred h1,mM.auL hu ZI ds _ S' h⟩⟩
end sound
def ajk (P:aJ5) (J:jJ):ResultVar->Option AV
 |.tmp t=>some (J.jV.getD t .any)
 | .cell d t=>match l4 P t,J.jV.getD d .any with
   |some (g,n),.ptr l off=>match J.heap[l]? with
    |some (.cells cs)=>mN g n (cs.drop off)
    |_=>none
   |_,_=>none
def Bg(P:aJ5)(J:jJ):List ResultVar->Option (List AV)
 |[]=>some []
 |r::rs=>match ajk P J r,Bg P J rs with
  |some x,some xs=>some (x::xs)
  |_,_=>none
def Pj(P:aJ5)(J:jJ)(rs:List ResultVar):Option AV:=
 match Bg P J rs with
 |some [x]=>some x
 |some xs=>some (.Ip xs)
 |none=>none
section results
variable {C:qu}
def anH(S:mM C U J a w){r:ResultVar}(h:ajk C.P J r=some x):
 ∃v,(match r with|.tmp t=>pure (a.tmps.getD t undef)|.cell d t=>(do loadVar t (<-asAddr (a.tmps.getD d undef))):Sem aJ2).run C.P w=.ok v w/\pg (C.env U J.heap w) x v:=by
 cases r with
 |tmp t=>
  simp only[ajk,bY]at h;subst h;exact⟨_,rfl,S.ev (.tmp t)⟩
 |cell d t=>
  simp only[ajk]at h;have hd:=S.ev (.tmp d);simp only[jJ.ev]at hd;split at h
  ·rename_i g n l off ht hp;rw[hp]at hd;split at h
   ·rename_i cs hl;obtain⟨u,hu,ru⟩:=apa S ht hl h hd;obtain⟨_,b,_,hv⟩:=hd;refine⟨u,?_,ru⟩;have hv':a.tmps.getD d undef=.pointer (some ⟨b,off,none⟩):=hv
    grind [asAddr,Instr.loadAt,Instr.sureAddr]
   ·cases h
  ·cases h
def adu(S:mM C U J a w):∀{rs:List ResultVar}{xs:List AV},Bg C.P J rs=some xs->
 ∃vs:List aJ2,(rs.mapM fun|.tmp t=>pure (a.tmps.getD t undef)|.cell d t=>(do loadVar t (<-asAddr (a.tmps.getD d undef))):Sem (List aJ2)).run C.P w=.ok vs w/\ko (C.env U J.heap w) xs vs
 |[],_,h=>by simp only[Bg,bY]at h;subst h;exact⟨[],rfl,rfl⟩
 |r::rs,xs,h=>by
  simp only[Bg]at h;split at h
  ·rename_i x ys h1 h2;cases h;obtain⟨v,hv,rv⟩:=anH S h1;obtain⟨vs,hvs,rvs⟩:=adu S h2;refine⟨v::vs,?_,v,vs,rfl,rv,rvs⟩
   simp_all
  ·cases h
def NX(S:mM C U J a w){fn:Func}(h:Pj C.P J fn.results.toList=some x):∃v,(results fn a.tmps).run C.P w=.ok v w/\pg (C.env U J.heap w) x v:=by
 unfold Pj at h
 have key:∀xs,Bg C.P J fn.results.toList=some xs->∃vs:List aJ2,(results fn a.tmps).run C.P w=.ok (if hh:vs.toArray.size=1 then vs.toArray[0] else .tuple vs.toArray) w/\ko (C.env U J.heap w) xs vs:=by
  intro xs hx;obtain⟨vs,hvs,rvs⟩:=adu S hx;refine⟨vs,?_,rvs⟩;unfold results;rw[Array.mapM_eq_mapM_toList];simp only[Sem.run_bind,Sem.run_map,Sem.run_pure];generalize hq:Sem.run C.P (List.mapM _ fn.results.toList) w=q;have hq':q=.ok vs w:=by rw[<-hq];exact hvs
  subst hq';simp
 split at h
 ·grind [ko]
 ·rename_i xs sA hx;cases h;obtain⟨vs,hv,rl⟩:=key _ hx;refine⟨_,hv,?_⟩;have hlen:=rl.length
  have hn1: ¬ vs.toArray.size=1:=by
   intro h1;have h2:xs.length=1:=by simp at h1;omega
   match xs,h2 with
   |[y],_=>exact sA y rfl
  rw[dif_neg hn1];exact⟨vs.toArray,rfl,rl⟩
 ·cases h
end results
def aiG{V:AV->Prop}(h:KD P f apw V)(hs:q8 args apw)(hn:w5 0 args):KD P f args V:=by
 obtain⟨he,_,hc⟩:=h;exact⟨he,hn,fun C U w hP h0 hN hM vs hr=>hc C U w hP h0 hN hM vs (hs _ _ hr)⟩
def avS(V:AV->Prop)(H:List jT):Option AV->Prop
 |some x=>(frz 0 H x).nb 0/\∃r,LY (frz 0 H x) r/\V r
 |none=>False
def aAz(P:aJ5)(rs:List ResultVar)(V:AV->Prop):nU->jJ->Prop
 |.normal,J=>J.df=[]/\avS V J.heap (Pj P J rs)
 |.ret,J=>J.df=[]/\avS V J.heap (Pj P J rs)
 |_,_=>False
def apx{fn:Func}{V:AV->Prop}(hf:P.funcs[f]? =some fn)(hb:fn.body=some c)(sA:(fn.name != "runtime.NumGoroutine")=true)(G9:w5 0 args)
 (h:awp P c (aAz P fn.results.toList V) {jV:=args++cn (fn.ntmps-args.length) .any,heap:=[]}):KD P f args V:=by
 refine⟨?_,G9,fun C U w hP h0 hN hM vs hr=>?_⟩
 ·grind [enters]
 ·subst hP;refine(callsIn_wide (n:=0)).1 (callsIn_of_wp_marks hf hb trivial ?_);have hsz:vs.size=args.length:=by have:=hr.length;simpa using this
  have S:mM C U {jV:=args++cn (fn.ntmps-args.length) .any,heap:=[]} {tmps:=vs++b8 (fn.ntmps-vs.size) undef,defers:=[]} w:=by
   refine {jV:=?_,defers:=sQ.nil,nX:=by simp,apart:=by simp,tW:=by simp,size:=by rw[h0];exact b9 _,F9:=fun b o _ _=>by rw[h0],nM:=fun b _ _=>by rw[h0],Ce:=by simp,wS:=fun x _ _=>by rw[h0],rest:=by rw[h0];exact⟨rfl,rfl⟩,low:=⟨hN,b9 _⟩,lR:=fun l hl=>by grind};simp only[cR,cX];refine hr.append ?_;rw[hsz];have:=ko.Fc (E:=C.env U [] w) (cn (fn.ntmps-args.length) undef);simpa using this
  refine wpIn_mono (ye (ro:=none) c _ U _ _ w (.inl rfl) h S) ?_;intro e a' w' hq
  have xw:∀U' J',mM C U' J' a' w'->J'.df=[]/\avS V J'.heap (Pj C.P J' fn.results.toList)->
   LeavesInM cf 0 C.P fn a'.tmps (fun e w'=>∃r v U',V r/\e=.returned v/\pg (C.env U' [] w') r v/\w.heap.size<=w'.heap.size/\(∀b,b<w.heap.size->w'.heap[b]? =w.heap[b]?)/\
    (∀x,x.block<w.heap.size->w'.frozen? x=w.frozen? x)/\w'.output=w.output/\w'.os=w.os) a'.defers .returning w':=by
   intro U' J' S' ⟨ZI,Um⟩;refine mM.auL (by simp) ZI _ _ S' (fun w' S'=>?_);cases hx:Pj C.P J' fn.results.toList with
   |none=>rw[hx]at Um;exact Um.elim
   |some x=>
   rw[hx]at Um;obtain⟨hn,r0,acJ,hV⟩:=Um;obtain⟨v,hv,rv⟩:=NX S' hx;refine⟨v,hv,_,v,U',hV,rfl,acJ _ _ (by have:=agi S' (S'.aC6 (by rw[<-S'.low.1];exact hN)) x v;rw[<-S'.low.1,hN]at this;exact this hn rv),?_,?_,?_,?_⟩
   ·rw[<-h0];exact S'.size
   ·intro b hb;rw[<-h0];exact S'.nM b (by rw[h0];exact hb) (fun o=>hM b o)
   ·intro y hy;rw[<-h0];exact S'.wS y (by rw[h0];exact hy) (fun o=>hM y.block o)
   ·rw[<-h0];exact S'.rest
  cases e with
  |normal=>obtain⟨U',J',S',hq⟩:=hq;exact xw U' J' S' hq
  |ret=>obtain⟨U',J',S',hq⟩:=hq;exact xw U' J' S' hq
  |exit id=>obtain⟨_,_,_,hq⟩:=hq;exact hq.elim
  |goto l=>obtain⟨_,_,_,hq⟩:=hq;exact hq.elim
  |panic chain=>obtain⟨_,_,_,_,_,hq,_⟩:=hq;exact hq.elim
  |outgrown=>exact hq.elim
section co

def Co1.sub(h:LY x y)(hn:y.nb n):Co1 H n x y:=.inl ⟨h,hn⟩
def Co.any:Co H n x .any:=.inl (.inl ⟨LY.any _,trivial⟩)
theorem Co.same(h:x.nb n):Co H n x x:=.inl (.inl ⟨LY.refl _,h⟩)
def Co.sub(h:LY x y)(hn:y.nb n):Co H n x y:=.inl (.inl ⟨h,hn⟩)
theorem EG.nil:EG H n [] []:=rfl
theorem EG.cons(h:Co H n x y)(hs:EG H n xs ys):EG H n (x::xs) (y::ys):=⟨y,ys,rfl,h,hs⟩
theorem CoH.nil{xs:List jT}:CoH H n xs []:=by cases xs<;>trivial
theorem EG.same(h:w5 n xs):EG H n xs xs:=by
 induction xs with
 |nil=>rfl
 |cons x xs ih=>exact EG.cons (Co.same h.1) (ih h.2)
end co
def ae4{X:AV}(h:KD P f apw (fun r=>r=X))(hs:EG J.heap n args apw):Bf P f args J (fun o H=>o=.ret X/\H=J.heap):=by
 obtain⟨he,hc⟩:=aeR (J:=J) (K:=fun o H=>o=.ret X/\H=J.heap) h (fun r hr=>⟨by rw[hr],rfl⟩);exact⟨he,fun C U a w hP S vs hr=>hc C U a w hP S vs (EG.aHT S hs hr)⟩
def stP:Option aJ3->LoopState
 |none=>.ready
 |some _=>.done
theorem anI(c:Option aJ3):stP c≠ .busy:=by cases c<;>simp [stP]
section
variable {C:qu}
def mM.ax3(S:mM C U J a w)(k:yN)(rec:Loop)(hs:ko (C.env U J.heap w) jV rec.tmps.toList)
 (ZH:rec.params=k.ps/\rec.assign=k.assign/\rec.body=k.body/\rec.state=.ready/\rec.pending=none/\rec.defers=w.heap.size):
 mM C (fun l=>if l=J.heap.length then .func (.yield (w.heap.size+1)) #[] #[] else U l) {J with heap:=J.heap++[.loop k jV .ready 0]} a ((w.alloc (.deferred (some []))).alloc (.loop rec)):=by
 let U':Nat->aJ2:=fun l=>if l=J.heap.length then .func (.yield (w.heap.size+1)) #[] #[] else U l
 let w':=(w.alloc (.deferred (some []))).alloc (.loop rec)
 have hφ:∀l,l<J.heap.length->U' l=U l:=fun l hl=>by grind
 have hφn:U' J.heap.length=.func (.yield (w.heap.size+1)) #[] #[]:=by simp [U']
 have hsz:w'.heap.size=w.heap.size+2:=by
  show(World.more (World.more w _) _).heap.size=_;rw[Qf,Qf]
 have hold:∀b,b<w.heap.size->w'.heap[b]? =w.heap[b]? :=by
  intro b hb;show(World.more (World.more w _) _).heap[b]? =_
  grind [yO]
 have hD:w'.heap[w.heap.size]? =some (.deferred (some [])):=by
  show(World.more (World.more w _) _).heap[_]? =_
  grind [World.more]
 have hL:w'.heap[w.heap.size+1]? =some (.loop rec):=by
  have:=Ir (World.more w (.deferred (some []))) (.loop rec);rw[Qf]at this;exact this
 have nA:∀(l:Nat)(x:jT),(J.heap++[.loop k jV .ready 0])[l]? =some x->(l<J.heap.length/\J.heap[l]? =some x)\/(l=J.heap.length/\x=.loop k jV .ready 0):=by
  grind
 have tO:∀b o,b<w.heap.size->w'.cell? ⟨b,o,none⟩=w.cell? ⟨b,o,none⟩:=by
  grind [World.cell?]
 have G9:∀b,(jT.loop k jV .ready 0).block (U' J.heap.length) b->w.heap.size<=b:=by
  intro b hb;rw[hφn]at hb;rcases hb with rfl|hb<;>omega
 have L0:∀b o,F8 U' (J.heap++[.loop k jV .ready 0]) b o->w.heap.size<=b\/F8 U J.heap b o:=by
  rintro b o ⟨l,x,hx,hm⟩;rcases nA l x hx with⟨hl,hx⟩|⟨rfl,rfl⟩
  ·rw[hφ l hl]at hm;exact .inr ⟨l,x,hx,hm⟩
  grind [jT.nV]
 have le:(C.env U J.heap w).Le J.heap.length (C.env U' (J.heap++[.loop k jV .ready 0]) w'):=by
  refine qu.CG (by simp) (fun l hl=>⟨hφ l hl,by rw[cq hl]⟩) (fun b i u hm hc=>?_)
  grind [FI]
 have BM:sQ C U' (J.heap++[.loop k jV .ready 0]) w' J.df a.defers:=by
  refine S.defers.step le (fun b hb _=>hold b hb) (fun l x b hx hb=>?_)
  grind
 refine {jV:=ko.mono le _ _ (ko.nb _ _ S.jV) S.jV,defers:=BM,nX:=?_,apart:=?_,tW:=?_,size:=by show _<=w'.heap.size;have:=S.size;omega,F9:=?_,nM:=?_,Ce:=?_,wS:=?_,rest:=S.rest,low:=⟨S.low.1,by have:=S.low.2;simp;omega⟩,lR:=?_}
 ·intro l x hx;show n8 _ x (U' l);rcases nA l x hx with⟨hl,hx⟩|⟨rfl,rfl⟩
  ·have r0:=S.nX l x hx;rw[hφ l hl];exact n8.mono r0 le (fun b hb=>hold b (r0.qH hb))
  ·rw[hφn];exact⟨w.heap.size,rec,rfl,hL,hD,ZH,ko.mono le _ _ (ko.nb _ _ hs) hs⟩
 ·intro l l' x x' b hx Dt hb qR;have hb:x.block (U' l) b:=hb;have qR:x'.block (U' l') b:=qR;rcases nA l x hx with⟨hl,hx⟩|⟨rfl,rfl⟩<;>rcases nA l' x' Dt with⟨Xf,Dt⟩|⟨rfl,rfl⟩
  ·rw[hφ l hl]at hb;rw[hφ l' Xf]at qR;exact S.apart l l' x x' b hx Dt hb qR
  ·rw[hφ l hl]at hb;have h1:=(S.nX l x hx).qH hb
   grind [qu.env]
  ·rw[hφ l' Xf]at qR;have h1:=(S.nX l' x' Dt).qH qR
   grind [qu.env]
  ·rfl
 ·intro l x b o hx hb;have hb:x.block (U' l) b:=hb;rcases nA l x hx with⟨hl,hx⟩|⟨rfl,rfl⟩
  ·rw[hφ l hl]at hb;exact S.tW l x b o hx hb
  ·intro hA;have h1:=C.hA _ _ hA;have h2:=G9 b hb;have:=S.size;omega
 ·intro b i hb hm;rw[tO b i (bZ hb S.size)];exact S.F9 b i hb hm
 ·intro b hb hm;rw[hold b (bZ hb S.size)];exact S.nM b hb hm
 ·intro l x b o hx hm hb;have hm:x.AT (U' l) b o:=hm;rcases nA l x hx with⟨hl,hx⟩|⟨rfl,rfl⟩
  ·rw[hφ l hl]at hm;exact S.Ce l x b o hx hm hb
  ·have h2:=G9 b (jT.nV hm);have:=S.size;omega
 ·intro x hx hm0;have h1:=wU (World.more w (.deferred (some []))) (.loop rec) (by intro c t lo hi h;cases h) x;have h2:=wU w (.deferred (some [])) (by intro c t lo hi h;cases h) x;exact(h1.trans h2).trans (S.wS x hx hm0)
 ·intro l hl;have mR:l<J.heap.length:=by have:=S.low;omega
  have:=S.lR l hl
  grind
def mM.anJ(S:mM C U J a w){k:yN}{st st':LoopState}{L9:Int}{rec:Loop}(hl:J.heap[l]? =some (.loop k jV st uu))(hφ:U l= .func (.yield (D+1)) #[] #[])
 (hw:w.heap[D+1]? =some (.loop rec)):mM C U {J with heap:=J.heap.set l (.loop k jV st' L9)} a (w.putObj (D+1) (.loop {rec with state:=st',pending:=qy k.js L9})):=by
 have mR:l<J.heap.length:=(bX.1 hl).1;have axL:=(dn.1 hw).1
 have nA:∀(j:Nat)(x:jT),(J.heap.set l (.loop k jV st' L9))[j]? =some x->(j=l/\x=.loop k jV st' L9)\/(j≠l/\J.heap[j]? =some x):=by
  grind
 have hbb:(jT.loop k jV st uu).block (U l) (D+1):=by rw[hφ];exact .inl rfl
 have hmb:∀o,(jT.loop k jV st uu).AT (U l) (D+1) o:=by intro o;rw[hφ];exact .inl rfl
 have DO:∀b,b≠D+1->(w.putObj (D+1) (.loop {rec with state:=st',pending:=qy k.js L9})).heap[b]? =w.heap[b]? :=fun b hb=>World.putObj_heap_other hb
 have tO:∀b o,(w.putObj (D+1) (.loop {rec with state:=st',pending:=qy k.js L9})).cell? ⟨b,o,none⟩=w.cell? ⟨b,o,none⟩:=by
  grind [World.cell?,World.putObj_heap_same]
 have HZ:∀b,(jT.loop k jV st' L9).block (U l) b->(jT.loop k jV st uu).block (U l) b:=by intro b hb;rw[hφ]at hb ⊢;exact hb
 have ao9:∀b o,(jT.loop k jV st' L9).AT (U l) b o->(jT.loop k jV st uu).AT (U l) b o:=by intro b o hb;rw[hφ]at hb ⊢;exact hb
 have L0:∀b o,F8 U (J.heap.set l (.loop k jV st' L9)) b o->F8 U J.heap b o:=by
  rintro b o ⟨j,x,hx,hm⟩;rcases nA j x hx with⟨rfl,rfl⟩|⟨_,hx⟩
  ·exact⟨j,_,hl,ao9 b o hm⟩
  ·exact⟨j,x,hx,hm⟩
 have hlen:∀j:Nat,lZ (J.heap.set l (.loop k jV st' L9))[j]? =lZ J.heap[j]? :=by
  intro j;by_cases e:j=l
  ·subst e;rw[dz mR,hl];rfl
  grind
 have hty:=anq (w':=w.putObj (D+1) (.loop {rec with state:=st',pending:=qy k.js L9})) hw (by intro c t fz h;cases h) DO
 have le:(C.env U J.heap w).Le J.heap.length (C.env U (J.heap.set l (.loop k jV st' L9)) (w.putObj (D+1) (.loop {rec with state:=st',pending:=qy k.js L9}))):=
  qu.CG (by simp) (fun j _=>⟨rfl,hlen j⟩) (fun b o u hm hc=>⟨fun h=>hm (h.imp (L0 b o) id),by rw[tO];exact hc⟩)
 have BM:sQ C U (J.heap.set l (.loop k jV st' L9)) (w.putObj (D+1) (.loop {rec with state:=st',pending:=qy k.js L9})) J.df a.defers:=by
  refine S.defers.step le (fun b _ hno=>DO b (fun e=>by subst e;exact hno l _ hl hbb)) (fun j x b hx hb=>?_)
  grind
 refine {jV:=ko.mono le _ _ (ko.nb _ _ S.jV) S.jV,defers:=BM,nX:=?_,apart:=?_,tW:=?_,size:=by rw[World.putObj_size];exact S.size,F9:=fun b o hb hm=>by rw[tO];exact S.F9 b o hb hm,nM:=?_,Ce:=?_,wS:=?_,rest:=S.rest,low:=⟨S.low.1,by simpa using S.low.2⟩,lR:=?_}
 ·intro j x hx;rcases nA j x hx with⟨rfl,rfl⟩|⟨sA,hx⟩
  ·obtain⟨D',aaB,e1,g1,g2,g3,rl⟩:=S.nX j _ hl;rw[hφ]at e1;simp only[dc,Fn.yield.injEq,cE,and_true]at e1;subst e1
   have hwr:aaB=rec:=by
    have g1:w.heap[D+1]? =some (.loop aaB):=g1;rw[hw]at g1;cases g1;rfl
   subst hwr;refine⟨D,_,hφ,World.putObj_heap_same axL,?_,⟨g3.1,g3.2.1,g3.2.2.1,rfl,rfl,g3.2.2.2.2.2⟩,ko.mono le _ _ (ko.nb _ _ rl) rl⟩;show(w.putObj (D+1) _).heap[D]? =_;rw[DO D (by omega)];exact g2
  ·exact n8.mono (S.nX j x hx) le (fun b hb=>DO b (fun e=>by subst e;exact sA (S.apart j l x _ (D+1) hx hl hb hbb)))
 ·intro j j' x x' b hx Dt hb qR;rcases nA j x hx with⟨rfl,rfl⟩|⟨sA,Vr⟩<;>rcases nA j' x' Dt with⟨e2,rfl⟩|⟨ak3,RC⟩
  ·exact e2.symm
  ·exact S.apart j j' _ x' b hl RC (HZ b hb) qR
  ·rw[e2]at qR ⊢;exact S.apart j l x _ b Vr hl hb (HZ b qR)
  ·exact S.apart j j' x x' b Vr RC hb qR
 ·intro j x b o hx hb;rcases nA j x hx with⟨rfl,rfl⟩|⟨_,hx⟩
  ·exact S.tW j _ b o hl (HZ b hb)
  ·exact S.tW j x b o hx hb
 ·intro b hb hm;rw[DO b (fun e=>by subst e;exact hm 0 (S.Ce l _ (D+1) 0 hl (hmb 0) hb))];exact S.nM b hb hm
 ·intro j x b o hx hm hb;rcases nA j x hx with⟨rfl,rfl⟩|⟨_,hx⟩
  ·exact S.Ce j _ b o hl (ao9 b o hm) hb
  ·exact S.Ce j x b o hx hm hb
 ·intro x hx hm0;rw[<-S.wS x hx hm0]
  grind [World.frozen?,World.putObj_heap_same]
 ·intro j hj;have:=S.lR j hj;rw[hlen j];exact this
def mM.endLoop(S:mM C U J a w){k:yN}{st:LoopState}(hl:J.heap[l]? =some (.loop k jV st uu))(hφ:U l= .func (.yield (D+1)) #[] #[])(hD:C.w0.heap.size<=D):
 mM C U {J with heap:=J.heap.set l .xu} {a with defers:=⟨.collected D,#[]⟩::a.defers} w:=by
 have mR:l<J.heap.length:=(bX.1 hl).1;have It:C.N0<=l\/l<C.N0:=by omega
 have aFM:∀b o,F8 U (J.heap.set l .xu) b o->F8 U J.heap b o:=by
  rintro b o ⟨j,x,hx,hm⟩;by_cases e:j=l
  ·grind [jT.AT]
  ·rw[di (fun h=>e h.symm)]at hx;exact⟨j,x,hx,hm⟩
 have nA:∀(j:Nat)(x:jT),(J.heap.set l .xu)[j]? =some x->(j=l/\x=.xu)\/(j≠l/\J.heap[j]? =some x):=by
  grind
 have hlen:∀j:Nat,lZ (J.heap.set l .xu)[j]? =lZ J.heap[j]? :=by
  intro j;by_cases e:j=l
  ·subst e;rw[dz mR,hl];rfl
  grind
 have le:(C.env U J.heap w).Le J.heap.length (C.env U (J.heap.set l .xu) w):=
  qu.CG (by simp) (fun j _=>⟨rfl,hlen j⟩) (fun b o u hm hc=>⟨fun h=>hm (h.imp (aFM b o) id),hc⟩)
 have hbD:(jT.loop k jV st uu).block (U l) D:=by rw[hφ];exact .inr rfl
 have BM:sQ C U (J.heap.set l .xu) w J.df (⟨.collected D,#[]⟩::a.defers):=by
  obtain⟨hnd,PX,hrd⟩:=S.defers;have hmk:aeK (⟨.collected D,#[]⟩:Deferred)=true:=rfl;refine⟨?_,fun d hd hm=>?_,?_⟩
  ·grind
  ·rcases cH.1 hd with rfl|hd
   ·refine⟨D,rfl,?_,hD,fun j x hx hb=>?_⟩
    ·obtain⟨D',aaB,e1,g1,g2,_⟩:=S.nX l _ hl;rw[hφ]at e1;simp only[dc,Fn.yield.injEq,cE,and_true]at e1;subst e1;exact g2
    ·rcases nA j x hx with⟨rfl,rfl⟩|⟨sA,hx⟩
     ·simp [jT.block]at hb
     ·exact sA (S.apart j l x _ D hx hl hb hbD)
   grind [jT.block]
  ·simp only[dx,hmk,Bool.not_true,cU,if_false];exact hrd.mono le
 refine {jV:=ko.mono le _ _ (ko.nb _ _ S.jV) S.jV,defers:=BM,nX:=?_,apart:=?_,tW:=?_,size:=S.size,F9:=S.F9,nM:=S.nM,Ce:=?_,wS:=S.wS,rest:=S.rest,low:=⟨S.low.1,by simpa using S.low.2⟩,lR:=?_}
 ·intro j x hx;rcases nA j x hx with⟨rfl,rfl⟩|⟨_,hx⟩
  ·trivial
  ·exact n8.mono (S.nX j x hx) le (fun _ _=>rfl)
 ·intro j j' x x' b hx Dt hb qR;rcases nA j x hx with⟨rfl,rfl⟩|⟨_,hx⟩
  ·simp [jT.block]at hb
  ·rcases nA j' x' Dt with⟨rfl,rfl⟩|⟨_,Dt⟩
   ·simp [jT.block]at qR
   ·exact S.apart j j' x x' b hx Dt hb qR
 ·intro j x b o hx hb;rcases nA j x hx with⟨rfl,rfl⟩|⟨_,hx⟩
  ·simp [jT.block]at hb
  ·exact S.tW j x b o hx hb
 ·intro j x b o hx hm hb;rcases nA j x hx with⟨rfl,rfl⟩|⟨_,hx⟩
  ·simp [jT.AT]at hm
  ·exact S.Ce j x b o hx hm hb
 ·intro j hj;have:=S.lR j hj;rw[hlen j];exact this
def aFN(Q:nU->jJ->Prop)(J:jJ):Option aJ3->Prop
 |none=>Q .normal J
 |some .ret=>Q .ret J
 |some (.exit id)=>Q (.exit id) J
 |_=>False
def apy{g:Operand}{ps:Array Tmp}{aJU body:aJ3}{js:List (Int×aJ3)}{first cap:List AV}(hg:J.ev g= .func (.func f) first cap)
 (xE:Bf P f (first++[.map J.heap.length]++cap) {J with jV:=J.jV++[.map J.heap.length],heap:=J.heap++[.loop ⟨ps,aJU,body,js⟩ J.jV .ready 0]}
   (fun o H'=>∃r k s uu,o=.ret r/\H'[J.heap.length]? =some (.loop k s (stP (qy k.js uu)) uu)/\aFN Q {J with heap:=H'.set J.heap.length .xu} (qy k.js uu))):ax1 P g ps aJU body Q J:=by
 intro C U a w hP S;subst hP;refine wpIn_rangeFunc ?_;intro fn _;have hx:=S.ev g;rw[hg]at hx;obtain⟨f',c',hx,rf,rc⟩:=hx
 let lp:Loop:={state:=.ready,pending:=none,fn,tmps:=a.tmps,params:=ps,assign:=aJU,body,defers:=w.heap.size}
 let w1:=(w.alloc (.deferred (some []))).alloc (.loop lp)
 let aJm:aJ2:=.func (.yield (w.heap.size+1)) #[] #[]
 have S1:=S.ax3 ⟨ps,aJU,body,js⟩ lp S.jV ⟨rfl,rfl,rfl,rfl,rfl,rfl⟩
 have rY:pg (C.env (fun l=>if l=J.heap.length then aJm else U l) (J.heap++[.loop ⟨ps,aJU,body,js⟩ J.jV .ready 0]) w1) (.map J.heap.length) aJm:=by
  refine⟨by simp [qu.env],by simp [qu.env,aJm],w.heap.size+1,?_⟩;simp [qu.env,aJm,hdl]
 have S2:mM C (fun l=>if l=J.heap.length then aJm else U l) {J with jV:=J.jV++[.map J.heap.length],heap:=J.heap++[.loop ⟨ps,aJU,body,js⟩ J.jV .ready 0]} {a with tmps:=a.tmps.push aJm} w1:=by
  refine {S1 with jV:=?_,defers:=S1.defers};simp only[cz];exact S1.jV.append ⟨aJm,[],rfl,rY,rfl⟩
 have hle:(C.env U J.heap w).Le J.heap.length (C.env (fun l=>if l=J.heap.length then aJm else U l) (J.heap++[.loop ⟨ps,aJU,body,js⟩ J.jV .ready 0]) w1):=by
  refine qu.CG (ht:=(aeJ _ rfl).trans (aeJ _ rfl)) (by simp) (fun l hl=>⟨by rw[if_neg (by omega)],by rw[cq hl]⟩) (fun b i u hm hc=>?_);have hb:=FI hc
  have hold:w1.heap[b]? =w.heap[b]? :=by
   show(World.more (World.more w _) _).heap[b]? =_
   grind [World.more]
  refine⟨fun h=>?_,by grind [World.cell?]⟩;rcases h with⟨l,x,hx,hm'⟩|h
  ·by_cases hl:l<J.heap.length
   ·rw[cq hl]at hx;have hm':x.AT (if l=J.heap.length then aJm else U l) b i:=hm';rw[if_neg (by omega)]at hm';exact hm (.inl ⟨l,x,hx,hm'⟩)
   ·have Xf:l=J.heap.length:=by
     grind
    subst Xf;simp at hx;subst hx;have hm':(jT.loop ⟨ps,aJU,body,js⟩ J.jV .ready 0).AT (if J.heap.length=J.heap.length then aJm else U J.heap.length) b i:=hm';rw[if_pos rfl]at hm';rcases hm' with rfl|h<;>omega
  ·exact hm (.inr h)
 have Sf:ko (C.env (fun l=>if l=J.heap.length then aJm else U l) (J.heap++[.loop ⟨ps,aJU,body,js⟩ J.jV .ready 0]) w1) (first++[.map J.heap.length]++cap) (f'++ #[aJm]++c').toList:=by
  have hY:ko (C.env (fun l=>if l=J.heap.length then aJm else U l) (J.heap++[.loop ⟨ps,aJU,body,js⟩ J.jV .ready 0]) w1) [.map J.heap.length] [aJm]:=⟨aJm,[],rfl,rY,rfl⟩;simp only[cR];exact((ko.mono hle _ _ (ko.nb _ _ rf) rf).append hY).append (ko.mono hle _ _ (ko.nb _ _ rc) rc)
 obtain⟨he,hc⟩:=xE
 have Ma: ∃fnc,C.P.funcs[f]? =some fnc/\fnc.name≠ "runtime.NumGoroutine" /\fnc.body≠none:=by
  grind [enters]
 obtain⟨fnc,hf,aFO,amt⟩:=Ma;refine⟨w.heap.size+1,[⟨.collected w.heap.size,#[]⟩],w1,{target:=.fn (.func f) c',args:=f'++ #[aJm]},w1,f,f'++ #[aJm]++c',w1,?_,?_,fun _ _=>trivial,?_,fun h=>by simp [Ga,cf]at h,?_⟩
 ·exact run_enterLoop_outer _ _ _ _ _
 ·have Xr:a.eval g=.func (.func f) f' c':=hx;have hY2:a.eval (.const aJm)=aJm:=rfl;simp [resolve,Xr,Deferred.ofValue];rfl
 ·simp [invoke,callFunc,hf,aFO,amt]
 ·refine JB.2 ((hc C _ _ w1 rfl S2 _ Sf).mono ?_);rintro e w' ⟨o,U2,H',⟨r,k,s,uu,rfl,hH,hj⟩,S3,ui⟩;cases e with
  |panicked chain=>exact ui.elim
  |outgrown=>exact ui.elim
  |returned v=>
   have ax4:U2 J.heap.length=aJm:=by
    have hsl:=S3.jV;have hlen:a.tmps.toList.length=J.jV.length:=S.jV.length;have:=hsl.drop J.jV.length;simp only[cz]at this;rw[cM rfl,cM hlen]at this;obtain⟨u,us,he2,r1,_⟩:=this;simp only[dl]at he2;obtain⟨rfl,_⟩:=he2;exact r1.2.1.symm
   have S4:mM C U2 {J with heap:=H'} a w':=by
    have hsl:=S3.jV;have hlen:a.tmps.toList.length=J.jV.length:=S.jV.length;have:=hsl.take J.jV.length;simp only[cz]at this;rw[cK rfl,cK hlen]at this;exact {S3 with jV:=this,defers:=S3.defers}
   obtain⟨D,aaB,e1,g1,g2,g3,_⟩:=S4.nX _ _ hH;rw[ax4]at e1;simp only[aJm,dc,Fn.yield.injEq,cE,and_true]at e1;subst e1;have g1:w'.heap[w.heap.size+1]? =some (.loop aaB):=g1;have Um:=run_endLoop (P:=C.P) g1 (by grind [anI]);rw[g3.2.2.2.2.1]at Um;refine⟨qy k.js uu,_,Um,?_⟩
   have S5:mM C U2 {J with heap:=H'.set J.heap.length .xu} {a with defers:=⟨.collected w.heap.size,#[]⟩::a.defers} (w'.putObj (w.heap.size+1) (.loop {aaB with state:=.exhausted,pending:=qy k.js uu})):=by
    have h5:=S4.anJ (st':=.exhausted) (L9:=uu) hH ax4 g1
    have h6:=h5.endLoop (l:=J.heap.length) (D:=w.heap.size) (k:=k) (jV:=s) (st:=.exhausted) (uu:=uu) (by
     grind) ax4 S.size
    simp_all
   generalize qy k.js uu=pc at*;cases pc with
   |none=>exact⟨U2,_,S5,hj⟩
   |some c=>
    cases c with
    |ret=>exact wpIn_ret ⟨U2,_,S5,hj⟩
    |exit id=>exact wpIn_exit ⟨U2,_,S5,hj⟩
    |_=>exact hj.elim
end
inductive CO where
 |ret (e:vW)
 |pan (x:AV) (H:List jT)
structure kG(R:Type) where
 P:aJ5
 body:aJ3
 cl:aJ4->List AV->List jT->Option (AV×List jT)
 cd:aJ4->List AV->Option AV
 tv:List Nat->jJ->Option jJ
 cut:List Nat->jJ->Option jJ
 n:Nat
 out:jJ->Option R
 cy:Nat->List AV->List jT->Option (AV×List jT):=fun _ _ _=>none
 oB:nU->jJ->Option R:=fun _ _=>none
 js:List Nat->List (Int×aJ3):=fun _=>[]
 xF:aJ4->Bool:=fun _=>false
 ce:aJ4->List AV->List jT->Option vW:=fun _ _ _=>none
 xb:aJ4->Bool:=fun _=>false
 cp:aJ4->List AV->List jT->Option (vf×List jT):=fun _ _ _=>none
 xy:aJ4->Bool:=fun _=>false
 co:aJ4->List AV->List jT->Option CO:=fun _ _ _=>none
 pP:AV->jJ->Option R:=fun _ _=>none
def ny(p:Prop)(x:Option R):Option R:= @ite _ p (Classical.propDecidable p) x none
theorem mg{x:Option R}{r:R}:ny p x=some r↔p/\x=some r:=by
 grind [ny]
def ass{x:Option R}:ny True x=x:=by simp [ny]
theorem acm {q:Prop}{x:Option R}:ny (p/\q) x=ny p (ny q x):=by
 grind [ny]
def amB[Decidable p]{x:Option R}:ny p x=bif decide p then x else none:=by
 grind [ny]
def ajl(x:Operand)(b:Bool)(J:jJ):jJ:=
 match x with
 |.tmp t=>{J with jV:=J.jV.set t (.bool b)}
 |_=>J
def auM{x:Operand}(h:J.ev x=.bool b):ajl x b J=J:=by
 cases x with
 |tmp t=>
  simp only[jJ.ev,List.getD]at h;cases hg:J.jV[t]? with
  |none=>rw[hg]at h;simp at h
  |some v=>
   rw[hg]at h;simp only[da]at h;subst h;obtain⟨mR,he⟩:=bX.1 hg;simp only[ajl];rw[<-he,dA]
 |_=>rfl
def wg(j8:Array aJ1)(o:aJ1)(b:Bool)(J:jJ):jJ:=
 match o.guard with
 |none=>J
 |some (j,want)=>match (j8[j]?).bind (·.dst)with
  |some d=>match J.jV[d]? with
   |some (.bool _)=>{J with jV:=J.jV.set d (.bool (b==want))}
   |_=>J
  |none=>J
def anK(h:qx j8 o J=some b):wg j8 o b J=J:=by
 unfold qx at h;unfold wg;split
 ·rfl
 ·rename_i j want hg;simp only[hg]at h;split
  ·rename_i d hd;simp only[hd]at h;split
   ·rename_i c hc;simp only[hc,bY]at h;have:(b==want)=c:=by subst h;cases c<;>cases want<;>rfl
    rw[this];obtain⟨mR,he⟩:=bX.1 hc;rw[<-he,dA]
   ·rfl
  ·rfl
section

def vS (M:kG R) (j8:Array aJ1):List aJ1->jJ->Option (nU×jJ)
 |[],J=>some (.normal,J)
 |o::rest,J=>match qx j8 o J with
  |none=>none
  |some b=>bif b then (match nk (wg j8 o true J) o.op with
    |some (f,args)=>bif M.xb f then(match M.cp f args (wg j8 o true J).heap with
      |some (.ret r,H')=>vS M j8 rest (jJ.put {wg j8 o true J with heap:=H'} o.dst r)
      |some (.panic x,H')=>some (.panic x,{wg j8 o true J with heap:=H'})
      |none=>none)
     else match M.cl f args (wg j8 o true J).heap with
     |some (r,H')=>vS M j8 rest (jJ.put {wg j8 o true J with heap:=H'} o.dst r)
     |none=>none
    |none=>match Hf (wg j8 o true J) o.op with
     |some (l,args)=>match M.cy l args (wg j8 o true J).heap with
      |some (r,H')=>vS M j8 rest (jJ.put {wg j8 o true J with heap:=H'} o.dst r)
      |none=>none
     |none=>match kQ M.P (wg j8 o true J) o.op with
      |some e=>ny e.pre (vS M j8 rest ((wg j8 o true J).app o.dst e))
      |none=>match Hg (wg j8 o true J) o.op with
       |some p=>vS M j8 rest ((wg j8 o true J).dfr p o.dst)
       |none=>match Vv (wg j8 o true J) o.op with
        |some x=>some (.panic x,wg j8 o true J)
        |none=>none)
   else vS M j8 rest ((wg j8 o false J).put o.dst (.sO undef))
def KG (M:kG R) (j8:Array aJ1):List aJ1->Nat->List Tr->jJ->Option (nU×jJ)
 |[],_,_,J=>some (.normal,J)
 |o::rest,j,tr,J=>match qx j8 o J with
  |none=>none
  |some b=>bif b then(match nk (wg j8 o true J) o.op with
    |some (f,args)=>bif M.xy f then(match M.co f args (wg j8 o true J).heap with
      |some (.ret e)=>ny (e.pre/\Xx j8 tr j e) (KG M j8 rest (j+1) (M2 tr j (wg j8 o true J).heap.length e) ((wg j8 o true J).app o.dst e))
      |some (.pan x H')=>ny (aps j8 j=true\/(Qs tr=true/\VB M.P j8 j rest (j+1) ((wg j8 o true J).put o.dst (.sO undef)))) (some (.panic x,{wg j8 o true J with jV:=Xw j8 (wg j8 o true J).jV,heap:=H'}))
      |none=>none)
     else bif M.xF f then(match M.ce f args (wg j8 o true J).heap with
      |some e=>ny (e.pre/\Xx j8 tr j e) (KG M j8 rest (j+1) (M2 tr j (wg j8 o true J).heap.length e) ((wg j8 o true J).app o.dst e))
      |none=>none)
     else match M.cd f args with
     |some r=>KG M j8 rest (j+1) tr ((wg j8 o true J).put o.dst r)
     |none=>none
    |none=>match kQ M.P (wg j8 o true J) o.op with
     |some e=>ny (e.pre/\Xx j8 tr j e) (KG M j8 rest (j+1) (M2 tr j (wg j8 o true J).heap.length e) ((wg j8 o true J).app o.dst e))
     |none=>none)
   else KG M j8 rest (j+1) tr ((wg j8 o false J).put o.dst (.sO undef))
def lqN(tv:jJ->Option jJ)(body:jJ->Option (nU×jJ)):Nat->jJ->Option (nU×jJ)
 |0,_=>none
 |m+1,J=>match body J with
  |some (.normal,J')=>(tv J').bind (lqN tv body m)
  |r=>r
def apz(J:jJ):Option aJ3->Option (nU×jJ)
 |none=>some (.normal,J)
 |some .ret=>some (.ret,J)
 |some (.exit id)=>some (.exit id,J)
 |_=>none
def aAA(J:jJ)(H':List jT):Option jT->Option (nU×jJ)
 |some (.loop lk _ st uu)=>ny (st=stP (qy lk.js uu)) (apz {J with heap:=H'.set J.heap.length .xu} (qy lk.js uu))
 |_=>none
def ax5(M:kG R)(lk:yN)(J:jJ):AV->Option (nU×jJ)
 | .func (.func f) first cap=>match M.cl f (first++[.map J.heap.length]++cap) (J.heap++[.loop lk J.jV .ready 0]) with
   |some (_,H')=>aAA J H' H'[J.heap.length]?
   |none=>none
 |_=>none
def exec(M:kG R):aJ3->List Nat->jJ->Option (nU×jJ)
 |.skip,_,J=>some (.normal,J)
 |.region _ j8 false,_,J=>vS M j8 j8.toList J
 |.region _ j8 true,_,J=>ny (M.P.follows .mixedOrders=true/\Ji j8=true) (KG M j8 j8.toList 0 [] J)
 | .seq x y,p,J=>match exec M x (0::p) J with
   |some (.normal,J')=>(M.cut (1::p) J').bind (exec M y (1::p))
   |r=>r
 | .cond c x y,p,J=>match J.ev c with
   |.bool b=>bif b then exec M x (0::p) (ajl c true J)else exec M y (1::p) (ajl c false J)
   |_=>none
 | .block id x,p,J=>match exec M x (0::p) J with
   |some (.exit id',J')=>if id'=id then some (.normal,J')else some (.exit id',J')
   |r=>r
 |.loop x,p,J=>(M.tv p J).bind (lqN (M.tv p) (exec M x (0::p)) M.n)
 |.exit id,_,J=>some (.exit id,J)
 |.scope x,p,J=>exec M x (0::p) J
 |.label _,_,J=>some (.normal,J)
 |.ret,_,J=>some (.ret,J)
 |.goto _,_,_=>none
 |.rangeFunc g ps aJU body,p,J=>ax5 M ⟨ps,aJU,body,M.js p⟩ J (J.ev g)
 |.refuse _,_,_=>none
structure Hh(M:kG R):Prop where
 cl:∀f args J r H',M.cl f args J.heap=some (r,H')->Bf M.P f args J (fun o FJ=>o=.ret r/\FJ=H')
 cd:∀f args r,M.cd f args=some r->KD M.P f args (fun v=>v=r)
 tv:∀p J J',M.tv p J=some J'->KB J J'
 cut:∀p J J',M.cut p J=some J'->KB J J'
 cy:∀l args J r H',M.cy l args J.heap=some (r,H')->MY M.P l args J (fun o FJ=>o=.ret r/\FJ=H')
 ce:∀f args J e,M.ce f args J.heap=some e->Hz M.P f args J e
 cp:∀f args J o H',M.cp f args J.heap=some (o,H')->Bf M.P f args J (fun o' FJ=>o'=o/\FJ=H')
 co:∀f args J,(∀e,M.co f args J.heap=some (.ret e)->Hz M.P f args J e)/\∀x H',M.co f args J.heap=some (.pan x H')->aji M.P f args J.heap x H'
def vU:∀(f:aJ4)(args:List AV)(J:jJ)(o:vf)(H':List jT),(fun _ _ _=>none:aJ4->List AV->List jT->Option (vf×List jT)) f args J.heap=some (o,H')->Bf P f args J (fun o' FJ=>o'=o/\FJ=H'):=by
 intro f args J o H' h;cases h
def vg:∀(f:aJ4)(args:List AV)(J:jJ),(∀e,(fun _ _ _=>none:aJ4->List AV->List jT->Option CO) f args J.heap=some (.ret e)->Hz P f args J e)/\∀x H',(fun _ _ _=>none:aJ4->List AV->List jT->Option CO) f args J.heap=some (.pan x H')->aji P f args J.heap x H':=by
 grind
def Bf.mono {K':vf->List jT->Prop}(h:Bf P f args J K)(hk:∀o H,K o H->K' o H):Bf P f args J K':=by
 obtain⟨he,hc⟩:=h;refine⟨he,fun C U a w hP S vs hr=>(hc C U a w hP S vs hr).mono ?_⟩
 grind
def MY.mono {K':vf->List jT->Prop}(h:MY P l args J K)(hk:∀o H,K o H->K' o H):MY P l args J K':=by
 obtain⟨he,hc⟩:=h;refine⟨he,fun C U a w hP S vs hr D rec h1 h2=>(hc C U a w hP S vs hr D rec h1 h2).mono ?_⟩
 grind
def uK:∀(l:Nat)(args:List AV)(J:jJ)(r:AV)(H':List jT),(fun _ _ _=>none:Nat->List AV->List jT->Option (AV×List jT)) l args J.heap=some (r,H')->MY P l args J (fun o FJ=>o=.ret r/\FJ=H'):=by
 intro l args J r H' h;cases h
def BN {M:kG R} (G:Hh M) {j8:Array aJ1} {Q:nU->jJ->Prop}: ∀ (rest:List aJ1) (J J':jJ) (e:nU),vS M j8 rest J=some (e,J')->Q e J'->Uk M.P j8 rest Q J
 |[],J,J',e,h,hq=>by simp only[vS,bY,cc]at h;obtain⟨rfl,rfl⟩:=h;exact hq
 |o::rest,J,J',en,h,hq=>by
  simp only[vS]at h;simp only[Uk];cases hw:qx j8 o J with
  |none=>simp only[hw]at h;cases h
  |some b=>
   simp only[hw]at h;have hg:=anK hw;cases b with
   |false=>
    refine⟨fun h=>(by cases h),fun _=>?_⟩;simp only[jz,hg]at h;exact BN G rest _ J' _ h hq
   |true=>
    refine⟨fun _=>?_,fun h=>by cases h⟩;simp only[jy,hg]at h;cases hc:nk J o.op with
    |some p=>
     obtain⟨f,args⟩:=p;simp only[hc]at h ⊢;cases hi:M.xb f with
     |true=>
      simp only[hi,jy]at h;cases ha:M.cp f args J.heap with
      |none=>simp only[ha]at h;cases h
      |some q=>
       obtain⟨r,H'⟩:=q;refine(G.cp f args J r H' ha).mono ?_;cases r with
       |ret r=>
        simp only[ha]at h;rintro o' FJ ⟨rfl,rfl⟩;exact BN G rest _ J' _ h hq
       |panic x=>
        grind
     |false=>
      simp only[hi,jz]at h;cases ha:M.cl f args J.heap with
      |none=>simp only[ha]at h;cases h
      |some q=>
       obtain⟨r,H'⟩:=q;simp only[ha]at h;refine(G.cl f args J r H' ha).mono ?_;rintro o' FJ ⟨rfl,rfl⟩;exact BN G rest _ J' _ h hq
    |none=>
     simp only[hc]at h ⊢;cases hy:Hf J o.op with
     |some p=>
      obtain⟨l,args⟩:=p;simp only[hy]at h ⊢;cases ha:M.cy l args J.heap with
      |none=>simp only[ha]at h;cases h
      |some q=>
       obtain⟨r,H'⟩:=q;simp only[ha]at h;refine(G.cy l args J r H' ha).mono ?_;rintro o' FJ ⟨rfl,rfl⟩;exact BN G rest _ J' _ h hq
     |none=>
      simp only[hy]at h ⊢;cases he:kQ M.P J o.op with
      |none=>
       simp only[he]at h ⊢;cases hd:Hg J o.op with
       |some p=>
        simp only[hd]at h ⊢;exact BN G rest _ J' _ h hq
       |none=>
        grind
      |some e=>
       simp only[he]at h;rw[mg]at h;exact⟨h.1,BN G rest _ J' _ h.2 hq⟩
def JF {M:kG R} (G:Hh M) {j8:Array aJ1} {Q:nU->jJ->Prop}: ∀ (rest:List aJ1) (j:Nat) (tr:List Tr) (J J':jJ) (e:nU),KG M j8 rest j tr J=some (e,J')->Q e J'->ae1 M.P j8 Q rest j tr J
 |[],_,_,J,J',e,h,hq=>by simp only[KG,bY,cc]at h;obtain⟨rfl,rfl⟩:=h;exact hq
 |o::rest,j,tr,J,J',en,h,hq=>by
  simp only[KG]at h;simp only[ae1];cases hw:qx j8 o J with
  |none=>simp only[hw]at h;cases h
  |some b=>
   simp only[hw]at h;have hg:=anK hw;cases b with
   |false=>
    refine⟨fun h=>(by cases h),fun _=>?_⟩;simp only[jz,hg]at h;exact JF G rest _ _ _ J' _ h hq
   |true=>
    refine⟨fun _=>?_,fun h=>(by cases h)⟩;simp only[jy,hg]at h;cases hc:nk J o.op with
    |some p=>
     obtain⟨f,args⟩:=p;simp only[hc]at h ⊢;cases hic:M.xy f with
     |true=>
      simp only[hic,jy]at h;cases ha:M.co f args J.heap with
      |none=>simp only[ha]at h;cases h
      |some q=>
       cases q with
       |ret e=>
        simp only[ha]at h;rw[mg]at h;exact .inr (.inl ⟨e,(G.co f args J).1 e ha,h.1.2,JF G rest _ _ _ J' _ h.2 hq⟩)
       |pan x H'=>
        simp only[ha]at h;rw[mg]at h;obtain⟨h1,h⟩:=h;simp only[bY,cc]at h;obtain⟨rfl,rfl⟩:=h;exact .inr (.inr ⟨x,H',(G.co f args J).2 x H' ha,h1,hq⟩)
     |false=>
     simp only[hic,jz]at h;cases hi:M.xF f with
     |true=>
      simp only[hi,jy]at h;cases ha:M.ce f args J.heap with
      |none=>simp only[ha]at h;cases h
      |some e=>
       simp only[ha]at h;rw[mg]at h;exact .inr (.inl ⟨e,G.ce f args J e ha,h.1.2,JF G rest _ _ _ J' _ h.2 hq⟩)
     |false=>
     simp only[hi,jz]at h;cases ha:M.cd f args with
     |none=>simp only[ha]at h;cases h
     |some r=>
      simp only[ha]at h;exact .inl ⟨r,G.cd f args r ha,JF G rest _ _ _ J' _ h hq⟩
    |none=>
     simp only[hc]at h ⊢;cases he:kQ M.P J o.op with
     |none=>simp only[he]at h;cases h
     |some e=>
      simp only[he]at h;rw[mg]at h;exact⟨h.1.1,h.1.2,JF G rest _ _ _ J' _ h.2 hq⟩
def ajm{tv:jJ->Option jJ}{body:jJ->Option (nU×jJ)}(hb: ∀J l J',body J≠some (.goto l,J')): ∀(m:Nat)(J:jJ)(l:Nat)(J':jJ),lqN tv body m J≠some (.goto l,J')
 |0,_,_,_=>by simp [lqN]
 |m+1,J,l,J'=>by
  intro h;simp only[lqN]at h;cases hx:body J with
  |none=>simp only[hx]at h;cases h
  |some r=>
   obtain⟨e1,J1⟩:=r;cases e1 with
   |normal=>
    simp only[hx]at h;cases hn:tv J1 with
    |none=>grind
    |some J2=>simp only[hn,cG]at h;exact ajm hb m J2 l J' h
   |goto l'=>exact hb _ _ _ hx
   |_=>grind
theorem ast{M:kG R}:∀(rest:List aJ1)(J:jJ)(l:Nat)(J':jJ),vS M j8 rest J≠some (.goto l,J'):=by
 intro rest;induction rest with
 |nil=>grind [vS]
 |cons o rest ih=>
  intro J l J' h;simp only[vS]at h
  grind [mg]
theorem ax6{M:kG R}:∀(rest:List aJ1)(j:Nat)(tr:List Tr)(J:jJ)(l:Nat)(J':jJ),KG M j8 rest j tr J≠some (.goto l,J'):=by
 intro rest;induction rest with
 |nil=>grind [KG]
 |cons o rest ih=>
  grind [KG,mg]
theorem ax7{c:Option aJ3}:apz J c≠some (.goto l,J'):=by
 intro h;unfold apz at h;split at h<;>simp at h
def aAB{M:kG R}{lk:yN}{v:AV}:ax5 M lk J v≠some (.goto l,J'):=by
 intro h;unfold ax5 at h;split at h
 ·split at h
  ·unfold aAA at h
   grind [mg,ax7]
  ·cases h
 ·cases h
theorem Sg(M:kG R):∀(c:aJ3)(p:List Nat)(J:jJ)(l:Nat)(J':jJ),exec M c p J≠some (.goto l,J')
 |.skip,_,_,_,_=>by simp [exec]
 |.label _,_,_,_,_=>by simp [exec]
 |.ret,_,_,_,_=>by simp [exec]
 |.exit id,_,_,_,_=>by simp [exec]
 |.region _ j8 false,_,_,_,_=>by grind [exec,ast]
 | .region _ j8 true,_,_,_,_=>by
   grind [exec,mg,ax6]
 | .seq x y,p,J,l,J'=>by
   intro h;simp only[exec]at h;cases hx:exec M x (0::p) J with
   |none=>simp only[hx]at h;cases h
   |some r=>
    obtain⟨e1,J1⟩:=r;cases e1 with
    |normal=>
     simp only[hx]at h;cases hc:M.cut (1::p) J1 with
     |none=>grind
     |some J2=>simp only[hc,cG]at h;exact Sg M y _ _ _ _ h
    |goto l'=>exact Sg M x _ _ _ _ hx
    |_=>grind
 | .cond c x y,p,J,l,J'=>by
   intro h;simp only[exec]at h;cases hv:J.ev c with
   |bool b=>
    simp only[hv]at h;cases b with
    |true=>exact Sg M x _ _ _ _ h
    |false=>exact Sg M y _ _ _ _ h
   |_=>simp only[hv]at h;cases h
 | .block id x,p,J,l,J'=>by
   intro h;simp only[exec]at h;cases hx:exec M x (0::p) J with
   |none=>simp only[hx]at h;cases h
   |some r=>
    obtain⟨e1,J1⟩:=r;cases e1 with
    |exit id'=>
     grind
    |goto l'=>exact Sg M x _ _ _ _ hx
    |_=>grind
 | .loop x,p,J,l,J'=>by
   intro h;simp only[exec]at h;cases hn:M.tv p J with
   |none=>grind
   |some J1=>
    simp only[hn,cG]at h;exact ajm (fun _ _ _=>Sg M x _ _ _ _) _ _ _ _ h
 | .scope x,p,J,l,J'=>by
   intro h;simp only[exec]at h;exact Sg M x _ _ _ _ h
 |.goto _,_,_,_,_=>by simp [exec]
 |.rangeFunc g ps aJU body,_,_,_,_=>by simp only[exec];exact aAB
 |.refuse _,_,_,_,_=>by simp [exec]
def Ai {M:kG R} (G:Hh M): ∀ (c:aJ3) (p:List Nat) (Q:nU->jJ->Prop) (J:jJ) (e:nU) (J':jJ),exec M c p J=some (e,J')->Q e J'->awp M.P c Q J
 |.skip,_,Q,J,e,J',h,hq=>by simp only[exec,bY,cc]at h;obtain⟨rfl,rfl⟩:=h;exact hq
 |.label _,_,Q,J,e,J',h,hq=>by simp only[exec,bY,cc]at h;obtain⟨rfl,rfl⟩:=h;exact hq
 |.ret,_,Q,J,e,J',h,hq=>by simp only[exec,bY,cc]at h;obtain⟨rfl,rfl⟩:=h;exact hq
 |.exit id,_,Q,J,e,J',h,hq=>by simp only[exec,bY,cc]at h;obtain⟨rfl,rfl⟩:=h;exact hq
 | .region _ j8 false,_,Q,J,e,J',h,hq=>by
   simp only[exec]at h;exact BN G _ _ _ _ h hq
 | .region _ j8 true,_,Q,J,e,J',h,hq=>by
   simp only[exec]at h;rw[mg]at h;obtain⟨hp,h⟩:=h;exact⟨hp,JF G _ _ _ _ _ _ h hq⟩
 | .seq x y,p,Q,J,e,J',h,hq=>by
   simp only[exec]at h;cases hx:exec M x (0::p) J with
   |none=>simp only[hx]at h;cases h
   |some r=>
    obtain⟨e1,J1⟩:=r;refine Ai G x (0::p) _ J e1 J1 hx ?_;cases e1 with
    |normal=>
     simp only[hx]at h;cases hc:M.cut (1::p) J1 with
     |none=>grind
     |some J2=>
      simp only[hc,cG]at h;exact⟨J2,G.cut _ _ _ hc,Ai G y (1::p) Q J2 e J' h hq⟩
    |_=>
     simp only[hx,bY,cc]at h;obtain⟨rfl,rfl⟩:=h;exact hq
 | .cond c x y,p,Q,J,e,J',h,hq=>by
   simp only[exec]at h;simp only[awp];cases hv:J.ev c with
   |bool b=>
    simp only[hv]at h ⊢;cases b with
    |true=>simp only[jy,auM hv]at h;exact⟨fun _=>Ai G x (0::p) Q J e J' h hq,fun h=>(by cases h)⟩
    |false=>simp only[jz,auM hv]at h;exact⟨fun h=>(by cases h),fun _=>Ai G y (1::p) Q J e J' h hq⟩
   |_=>simp only[hv]at h;cases h
 | .block id x,p,Q,J,e,J',h,hq=>by
   simp only[exec]at h;cases hx:exec M x (0::p) J with
   |none=>simp only[hx]at h;cases h
   |some r=>
    obtain⟨e1,J1⟩:=r;refine Ai G x (0::p) _ J e1 J1 hx ?_;cases e1 with
    |exit id'=>
     grind [nU.inBlock]
    |_=>
     simp only[hx,bY,cc]at h;obtain⟨rfl,rfl⟩:=h;exact hq
 | .loop x,p,Q,J,e,J',h,hq=>by
   simp only[exec]at h;cases hn:M.tv p J with
   |none=>grind
   |some J1=>
    simp only[hn,cG]at h;refine⟨fun m J2=>lqN (M.tv p) (exec M x (0::p)) m J2=some (e,J'),M.n,J1,G.tv _ _ _ hn,h,?_⟩;intro m J2 h2;cases m with
    |zero=>simp only[lqN]at h2;cases h2
    |succ m=>
     simp only[lqN]at h2;cases hx:exec M x (0::p) J2 with
     |none=>simp only[hx]at h2;cases h2
     |some r=>
      obtain⟨e1,J3⟩:=r;refine Ai G x (0::p) _ J2 e1 J3 hx ?_;cases e1 with
      |normal=>
       simp only[hx]at h2;cases hn2:M.tv p J3 with
       |none=>grind
       |some J4=>
        simp only[hn2,cG]at h2;exact⟨m,J4,Nat.lt_succ_self _,G.tv _ _ _ hn2,h2⟩
      |_=>
       simp only[hx,bY,cc]at h2;obtain⟨rfl,rfl⟩:=h2;exact hq
 | .scope x,p,Q,J,e,J',h,hq=>by
   simp only[exec]at h;refine Ai G x (0::p) _ J e J' h ?_;cases e with
   |goto l=>grind [Sg]
   |_=>exact hq
 |.goto _,_,_,_,_,_,h,_=>by simp only[exec]at h;cases h
 | .rangeFunc g ps aJU body,p,Q,J,e,J',h,hq=>by
   simp only[exec]at h;simp only[awp];unfold ax5 at h;split at h
   ·rename_i f first cap hv
    split at h
    ·rename_i r H' hc;refine apy hv ((G.cl f _ {J with jV:=J.jV++[.map J.heap.length],heap:=J.heap++[.loop ⟨ps,aJU,body,M.js p⟩ J.jV .ready 0]} r H' hc).mono ?_);rintro o' FJ ⟨rfl,rfl⟩;unfold aAA at h;split at h
     ·rename_i k s st uu hH;rw[mg]at h;obtain⟨Xg,h⟩:=h;subst Xg;refine⟨r,k,s,uu,rfl,hH,?_⟩;generalize qy k.js uu=pc at*;unfold apz at h;split at h
      ·simp only[bY,cc]at h;obtain⟨rfl,rfl⟩:=h;exact hq
      ·simp only[bY,cc]at h;obtain⟨rfl,rfl⟩:=h;exact hq
      ·simp only[bY,cc]at h;obtain⟨rfl,rfl⟩:=h;exact hq
      ·cases h
     ·cases h
    ·cases h
   ·cases h
 |.refuse _,_,_,_,_,_,h,_=>by simp only[exec]at h;cases h
end
def aAC(C:qu)(U:Nat->aJ2)(H:List jT)(w:aJ6):Prop:=mM C U {jV:=[],heap:=H,low:=H.length} {tmps:= #[],defers:=[]} w
def FnG(P:aJ5)(f:aJ4)(args:List AV)(H:List jT)(V:vf->List jT->Prop):Prop:=
 enters P f=true/\w5 H.length args/\(∀x∈H,rJ H.length x)/\∀(C:qu)(U:Nat->aJ2)(w:aJ6),C.P=P->C.w0=w->C.N0=H.length->(∀l,l<H.length->C.U0 l=U l/\C.ln0 l=lZ H[l]?)->(∀b o,C.M0 b o↔F8 U H b o)->
  aAC C U H w->∀vs:Array aJ2,ko (C.env U H w) args vs.toList->
  Calls P f vs w fun e w'=>∃o U' H',V o H'/\mM C U' {jV:=[],heap:=H',low:=H.length} {tmps:= #[],defers:=[]} w'/\o.rep (C.env U' H' w') e
def si:List jT->List Nat->List jT->List jT
 |H,l::ls,x::xs=>si (H.set l x) ls xs
 |H,_,_=>H
def oP(Y:List Nat)(n:Nat)(l:Nat):Nat:=if l<Y.length then Y.getD l 0 else n+(l-Y.length)
def xc(Y:List Nat)(H H':List jT):List jT:=
 si H Y (H'.map (jT.qc (oP Y H.length)))++(H'.drop Y.length).map (jT.qc (oP Y H.length))
theorem xK:∀(H:List jT)(ls:List Nat)(xs:List jT),(si H ls xs).length=H.length
 |_,[],_=>by simp [si]
 |_,_::_,[]=>by simp [si]
 |H,l::ls,x::xs=>by rw[si,xK,List.length_set]
theorem Hi:∀(ls:List Nat)(H:List jT)(xs:List jT)(k:Nat),k ∉ ls->(si H ls xs)[k]? =H[k]?
 |[],_,_,_,_=>by simp [si]
 |_::_,_,[],_,_=>by simp [si]
 |l::ls,H,x::xs,k,h=>by
  simp only[cH,not_or]at h;rw[si,Hi ls _ xs k h.2,di (fun e=>h.1 e.symm)]
theorem VC:∀(ls:List Nat)(H:List jT)(xs:List jT)(i k:Nat)(x:jT),ls.Nodup->ls[i]? =some k->xs[i]? =some x->k<H.length->(si H ls xs)[k]? =some x
 |[],_,_,_,_,_,_,h,_,_=>by simp at h
 |_::_,_,[],_,_,_,_,_,h,_=>by simp at h
 |l::ls,H,y::ys,0,k,x,hnd,h,hx,hk=>by
  grind [si,Hi]
 |l::ls,H,y::ys,i+1,k,x,hnd,h,hx,hk=>by
  simp at h hx;rw[dy]at hnd;rw[si];exact VC ls _ ys i k x hnd.2 h hx (by rw[List.length_set];exact hk)
def ajn:List Nat->Nat->Option Nat
 |[],_=>none
 |x::xs,k=>if x=k then some 0 else(ajn xs k).map (· +1)
theorem ae5:∀(Y:List Nat)(l k:Nat),Y.Nodup->Y[l]? =some k->ajn Y k=some l
 |[],_,_,_,h=>by simp at h
 |x::xs,0,k,_,h=>by simp at h;subst h;simp [ajn]
 |x::xs,l+1,k,hnd,h=>by
  simp at h;rw[dy]at hnd;have sA:x≠k:=fun e=>hnd.1 (e ▸ cP h)
  simp [ajn,sA,ae5 xs l k hnd.2 h]
theorem ajo:∀(Y:List Nat)(k:Nat),k ∉ Y->ajn Y k=none
 |[],_,_=>rfl
 |x::xs,k,h=>by
  simp only[cH,not_or]at h;have sA:x≠k:=fun e=>h.1 e.symm
  simp [ajn,sA,ajo xs k h.2]
section call
variable {C:qu}
structure aaC(T:aJ2->aJ6->Array aJ2->(aJ7->aJ6->Prop)->Prop):Prop where
 mono:∀h w vs R R',(∀e w',R e w'->R' e w')->T h w vs R->T h w vs R'
def FnT(P:aJ5)(T:aJ2->aJ6->Array aJ2->(aJ7->aJ6->Prop)->Prop)(args:List AV)(H:List jT)(V:vf->List jT->Prop):Prop:=
 w5 H.length args/\(∀x∈H,rJ H.length x)/\∀(C:qu)(U:Nat->aJ2)(w:aJ6),C.P=P->C.w0=w->C.N0=H.length->(∀l,l<H.length->C.U0 l=U l/\C.ln0 l=lZ H[l]?)->(∀b o,C.M0 b o↔F8 U H b o)->
  aAC C U H w->∀vs:Array aJ2,ko (C.env U H w) args vs.toList->
  T (U 0) w vs fun e w'=>∃o U' H',V o H'/\mM C U' {jV:=[],heap:=H',low:=H.length} {tmps:= #[],defers:=[]} w'/\o.rep (C.env U' H' w') e
def Sh(P:aJ5)(T:aJ2->aJ6->Array aJ2->(aJ7->aJ6->Prop)->Prop)(l:Nat)(args:List AV)(J:jJ)(K:vf->List jT->Prop):Prop:=
 ∀ (C:qu) (U:Nat->aJ2) (a:Act) (w:aJ6),C.P=P->mM C U J a w-> ∀vs:Array aJ2,ko (C.env U J.heap w) args vs.toList->
   T (U l) w vs fun e w'=>∃o U' H',K o H'/\mM C U' {J with heap:=H'} a w'/\o.rep (C.env U' H' w') e
def ae6{T:aJ2->aJ6->Array aJ2->(aJ7->aJ6->Prop)->Prop}(hT:aaC T){l0:Nat}{Pk:List AV}(h:FnT P T args H V)(Y:List Nat)(hlen:Y.length=H.length)(hnd:Y.Nodup)
 (hz:∀U:Nat->aJ2,T (U (oP Y J.heap.length 0))=T (U l0))
 (Sf:q8 Pk (sZ (oP Y J.heap.length) args)) (OX:∀(i:Nat)(k:Nat)(x:jT),Y[i]? =some k->H[i]? =some x->J.heap[k]? =some (x.qc (oP Y J.heap.length)))
 (hK:∀o H',V o H'->K (o.qc (oP Y J.heap.length)) (xc Y J.heap H')):Sh P T l0 Pk J K:=by
 obtain⟨aHY,H7,hc⟩:=h;intro C U a w hP S vs hr
 let ρf:Nat->Nat:=oP Y J.heap.length
 have hρ:∀l,l<H.length->Y[l]? =some (ρf l):=by
  grind [oP]
 let φc:Nat->aJ2:=fun l=>U (ρf l)
 have ajp:∀(l:Nat)(x:jT),H[l]? =some x->J.heap[ρf l]? =some (x.qc ρf):=fun l x hx=>OX l _ x (hρ l (bX.1 hx).1) hx
 have aIZ:∀l,l<H.length->ρf l<J.heap.length:=by
  intro l hl;have:=ajp l H[l] (bW hl)
  grind
 have hinj:∀l l',l<H.length->l'<H.length->ρf l=ρf l'->l=l':=by
  grind [List.getElem_inj]
 have ajq:∀b o,F8 φc H b o->F8 U J.heap b o:=by
  rintro b o ⟨l,x,hx,hm⟩;exact⟨ρf l,_,ajp l x hx,Vz.2 hm⟩
 have hA0:∀b o,((F8 U J.heap b o\/C.A b o)/\ ¬ F8 φc H b o)->b<w.heap.size:=by
  rintro b o ⟨⟨l,x,hx,hm⟩|hA,_⟩
  ·exact(S.nX l x hx).qH (jT.nV hm)
  ·exact bZ (C.hA b o hA) S.size
 let C':qu:=qu.mk C.P w (F8 φc H) (fun b o=>(F8 U J.heap b o\/C.A b o)/\ ¬ F8 φc H b o) hA0 ⟨fun b o h=>let ⟨v,h1,h2,h3⟩:=S.know.cell b o h;⟨v,h1,h2,fun hm=>h3 (ajq b o hm)⟩,fun b h=>⟨fun o hm=>(S.know.row b h).1 o (ajq b o hm),(S.know.row b h).2⟩⟩ H.length φc (fun l=>lZ H[l]?)
 have aFP:∀b o,(F8 φc H b o\/C'.A b o)↔(F8 U J.heap b o\/C.A b o):=by
  grind
 have un:apn H.length ρf (C.env U J.heap w) (C'.env φc H w):=by
  refine⟨b9 _,fun l hl=>⟨rfl,?_⟩,fun b o u hm tO=>⟨fun hh=>hm ((aFP b o).1 hh),tO⟩,CF _⟩
  grind [qu.env,Gd]
 have HZ:∀(l:Nat)(x:jT)(b:Nat),H[l]? =some x->x.block (φc l) b->∃y:jT,J.heap[ρf l]? =some y/\y.block (U (ρf l)) b:=fun l x b hx hb=>⟨_,ajp l x hx,CP.2 hb⟩
 have aat:∀(l:Nat)(x:jT)(b:Nat),H[l]? =some x->x.block (φc l) b->∀o,F8 U J.heap b o->F8 φc H b o:=by
  rintro l x b hx hb o ⟨k,y,hy,hm⟩;obtain⟨z,hz,hzb⟩:=HZ l x b hx hb;have hk:=S.apart k (ρf l) y z b hy hz (jT.nV hm) hzb;subst hk;have hf:=ajp l x hx;rw[hy]at hf;cases hf;exact⟨l,x,hx,Vz.1 hm⟩
 have hS':aAC C' φc H w:=by
  refine {jV:=rfl,defers:=sQ.nil,nX:=?_,apart:=?_,tW:=?_,size:=b9 _,F9:=fun _ _ _ _=>rfl,nM:=fun _ _ _=>rfl,Ce:=?_,wS:=fun _ _ _=>rfl,rest:=⟨rfl,rfl⟩,low:=⟨rfl,b9 _⟩,lR:=fun l hl=>.inl ⟨rfl,.inl rfl⟩}
  ·intro l x hx;exact n8.DC un (H7 x (cP hx)) (fun _ _=>rfl) (S.nX (ρf l) _ (ajp l x hx))
  ·intro l l' x x' b hx Dt hb qR;obtain⟨z,hz,hzb⟩:=HZ l x b hx hb;obtain⟨z',hz',aDJ⟩:=HZ l' x' b Dt qR;exact hinj l l' (bX.1 hx).1 (bX.1 Dt).1 (S.apart _ _ z z' b hz hz' hzb aDJ)
  ·rintro l x b o hx hb ⟨hA|hA,hn⟩
   ·exact hn (aat l x b hx hb o hA)
   ·obtain⟨z,hz,hzb⟩:=HZ l x b hx hb;exact S.tW _ z b o hz hzb hA
  ·intro l x b o hx hm _;exact⟨l,x,hx,hm⟩
 have hr':ko (C'.env φc H w) args vs.toList:=ko.DC un _ _ aHY (Sf _ _ hr);have xE:=hc C' φc w hP rfl rfl (fun l _=>⟨rfl,rfl⟩) (fun _ _=>b7) hS' vs hr';rw[show φc 0=U (oP Y J.heap.length 0)from rfl,hz U]at xE;refine hT.mono _ _ _ _ _ ?_ xE;rintro e w' ⟨o,U',H',hV,S',ui⟩;have aI0:H.length<=H'.length:=S'.low.2
 let n:=J.heap.length
 have auH:∀k,k<n->(∃l,l<H.length/\ρf l=k)\/k ∉ Y:=by
  grind [dG]
 let ix:Nat->Option Nat:=ajn Y
 have hix:∀l,l<H.length->ix (ρf l)=some l:=by
  grind [ae5]
 have aI1:∀k,k ∉ Y->ix k=none:=by
  grind [ajo]
 let U2:Nat->aJ2:=fun k=>if k<n then(match ix k with|some l=>U' l|none=>U k)else U' (H.length+(k-n))
 have ajr:∀l,l<H'.length->U2 (ρf l)=U' l:=by
  intro l hl;by_cases h1:l<H.length
  ·grind
  ·have h2:ρf l=n+(l-H.length):=by
    grind [oP]
   simp only[U2];rw[if_neg (by omega),h2];congr 1;omega
 have apA:∀k,k<n->k ∉ Y->U2 k=U k:=by
  grind
 let H2:List jT:=xc Y J.heap H'
 have aDK:∀(l:Nat)(hl:l<H'.length),H2[ρf l]? =some ((H'[l]).qc ρf):=by
  intro l hl;simp only[H2,xc];by_cases h1:l<H.length
  ·grind [xK,VC]
  ·have h2:ρf l=n+(l-H.length):=by
    grind [oP]
   rw[h2,cx (by rw[xK];omega),xK];rw[List.getElem?_map,List.getElem?_drop,hlen];have e:H.length+(n+(l-H.length)-J.heap.length)=l:=by simp only[n];omega
   grind
 have aHZ:∀k,k<n->k ∉ Y->H2[k]? =J.heap[k]? :=by
  grind [xc,xK,Hi]
 have aH0:H2.length=n+(H'.length-H.length):=by
  grind [xc,xK]
 have hH2:∀(k:Nat)(y:jT),H2[k]? =some y->(∃l,∃hl:l<H'.length,k=ρf l/\y=(H'[l]).qc ρf)\/(k<n/\k ∉ Y/\J.heap[k]? =some y):=by
  intro k y hy;have hk:k<H2.length:=(bX.1 hy).1;by_cases h1:k<n
  ·rcases auH k h1 with⟨l,hl,rfl⟩|hm
   all_goals grind
  ·left;have hl:H.length+(k-n)<H'.length:=by omega
   grind [oP]
 have aDb:∀b o,F8 U2 H2 b o->F8 U' H' b o\/∃(k:Nat)(y:jT),k<n/\k ∉ Y/\J.heap[k]? =some y/\y.AT (U k) b o:=by
  rintro b o ⟨k,y,hy,hm⟩;rcases hH2 k y hy with⟨l,hl,rfl,rfl⟩|⟨h1,h2,h3⟩
  ·left;rw[ajr l hl]at hm;exact⟨l,_,bW hl,Vz.1 hm⟩
  grind
 have apu:∀(k:Nat)(y:jT)(b:Nat),k<n->k ∉ Y->J.heap[k]? =some y->y.block (U k) b->∀o,¬ F8 φc H b o:=by
  rintro k y b hk hm hy hb o ⟨l,x,hx,hmu⟩;obtain⟨z,hz,hzb⟩:=HZ l x b hx (jT.nV hmu);have e:=S.apart k (ρf l) y z b hy hz hb hzb
  grind
 have aiH:∀(l:Nat)(hl:l<H'.length)(b:Nat),(H'[l]).block (U' l) b->b<w.heap.size->∃(k:Nat)(x:jT),H[k]? =some x/\x.block (φc k) b:=by
  intro l hl b hb mR;obtain⟨o,hmu⟩:=Ul hb;obtain⟨k,x,hx,hmx⟩:=S'.Ce l _ b o (bW hl) hmu mR
  grind [jT.nV]
 have le:(C.env U J.heap w).Le n (C.env U2 H2 w'):=by
  refine⟨by simp only[qu.env];omega,fun k hk=>?_,fun b o' u hm tO=>?_,S'.ty⟩
  ·rcases auH k hk with⟨l,hl,rfl⟩|hm
   ·have hn:=S'.lR l hl;simp only[qu.env];rw[ajr l (by omega),aDK l (by omega),Gd,ajp l H[l] (bW hl),Gd];have h1:lZ H'[l]? =lZ (some H'[l]):=by grind
    have h2:C'.ln0 l=lZ (some H[l]):=by grind
    rw[h1,h2]at hn;exact hn
   grind [qu.env]
  ·have hb:=FI tO;simp only[qu.env]at hb hm ⊢;have hnc: ¬ F8 φc H b o':=fun hh=>hm (.inl (ajq b o' hh))
   refine⟨?_,by rw[S'.F9 b o' hb hnc];exact tO⟩;rintro(hh|hh)
   ·rcases aDb b o' hh with⟨l,x,hx,hmu⟩|⟨k,y,_,_,hy,hmu⟩
    ·exact hnc (S'.Ce l x b o' hx hmu hb)
    ·exact hm (.inl ⟨k,y,hy,hmu⟩)
   ·exact hm (.inr hh)
 have qc:aeY H'.length ρf (C'.env U' H' w') (C.env U2 H2 w'):=by
  refine⟨fun l hl=>?_,fun l hl=>?_,fun b o' u hm tO=>⟨?_,tO⟩,CF _⟩
  ·have:=aDK l hl;exact(bX.1 this).1
  ·grind [qu.env,Gd]
  ·simp only[qu.env]at hm ⊢;rintro(hh|hh)
   ·rcases aDb b o' hh with h1|⟨k,y,hk,hkm,hy,hmu⟩
    ·exact hm (.inl h1)
    ·exact hm (.inr ⟨.inl ⟨k,y,hy,hmu⟩,apu k y b hk hkm hy (jT.nV hmu) o'⟩)
   ·refine hm (.inr ⟨.inr hh,?_⟩);rintro⟨l,x,hx,hmu⟩;obtain⟨z,hz,hzb⟩:=HZ l x b hx (jT.nV hmu);exact S.tW _ z b o' hz hzb hh
 have S2:mM C U2 {J with heap:=H2} a w':=by
  have BM:sQ C U2 H2 w' J.df a.defers:=by
   refine S.defers.step le (fun b hb hno=>S'.nM b hb (fun o' hh=>?_)) (fun k x b hx hb=>?_)
   ·obtain⟨l,x,hx,hmu⟩:=hh
    grind [jT.nV]
   ·by_cases hbs:b<w.heap.size
    ·rcases hH2 k x hx with⟨l,hl,rfl,rfl⟩|⟨h1,h2,h3⟩
     ·rw[ajr l hl]at hb;obtain⟨q,z,hz',hzb⟩:=aiH l hl b (CP.1 hb) hbs
      grind
     grind
    ·exact .inr (by omega)
  refine {jV:=ko.mono le _ _ (ko.nb _ _ S.jV) S.jV,defers:=BM,nX:=?_,apart:=?_,tW:=?_,size:=Nat.le_trans S.size S'.size,F9:=?_,nM:=?_,Ce:=?_,wS:=fun x hx hm0=>(S'.wS x (bZ hx S.size) (fun o' hh=>by obtain⟨l,x',Dt,hmu⟩:=ajq x.block o' hh;exact hm0 o' (S.Ce l x' _ o' Dt hmu hx))).trans (S.wS x hx hm0),rest:=⟨S'.rest.1.trans S.rest.1,S'.rest.2.trans S.rest.2⟩,low:=⟨S.low.1,by have:=S.low.2;show J.low<=H2.length;omega⟩,lR:=?_}
  ·intro k y hy;rcases hH2 k y hy with⟨l,hl,rfl,rfl⟩|⟨h1,h2,h3⟩
   ·rw[ajr l hl];have r0:=S'.nX l _ (bW hl);exact n8.qc qc (VA r0) (fun _ _=>rfl) r0
   ·rw[apA k h1 h2];have r0:=S.nX k y h3;exact n8.mono r0 le (fun b hb=>S'.nM b (r0.qH hb) (apu k y b h1 h2 h3 hb))
  ·intro k k' x x' b hx Dt hb qR;rcases hH2 k x hx with⟨l,hl,rfl,rfl⟩|⟨h1,h2,h3⟩<;>rcases hH2 k' x' Dt with⟨l',Xf,rfl,rfl⟩|⟨h1',h2',h3'⟩
   ·rw[ajr l hl]at hb;rw[ajr l' Xf]at qR;have:=S'.apart l l' _ _ b (bW hl) (bW Xf) (CP.1 hb) (CP.1 qR);rw[this]
   ·rw[ajr l hl]at hb;rw[apA k' h1' h2']at qR;exfalso;obtain⟨q,z,hz,hzb⟩:=aiH l hl b (CP.1 hb) ((S.nX k' x' h3').qH qR);obtain⟨o'',hmu⟩:=Ul hzb;exact apu k' x' b h1' h2' h3' qR o'' ⟨q,z,hz,hmu⟩
   ·rw[ajr l' Xf]at qR;rw[apA k h1 h2]at hb;exfalso;obtain⟨q,z,hz,hzb⟩:=aiH l' Xf b (CP.1 qR) ((S.nX k x h3).qH hb);obtain⟨o'',hmu⟩:=Ul hzb;exact apu k x b h1 h2 h3 hb o'' ⟨q,z,hz,hmu⟩
   ·rw[apA k h1 h2]at hb;rw[apA k' h1' h2']at qR;exact S.apart k k' x x' b h3 h3' hb qR
  ·intro k x b o' hx hb;rcases hH2 k x hx with⟨l,hl,rfl,rfl⟩|⟨h1,h2,h3⟩
   ·rw[ajr l hl]at hb;intro hA;have hbs:b<w.heap.size:=bZ (C.hA b o' hA) S.size;obtain⟨q,z,hz,hzb⟩:=aiH l hl b (CP.1 hb) hbs;obtain⟨z',hz',aDJ⟩:=HZ q z b hz hzb;exact S.tW _ z' b o' hz' aDJ hA
   ·rw[apA k h1 h2]at hb;exact S.tW k x b o' h3 hb
  ·intro b o' hb hm;have qR:b<w.heap.size:=bZ hb S.size
   have hnc: ¬ F8 φc H b o':=by
    intro hh;obtain⟨k,y,hy,hmu⟩:=ajq b o' hh;exact hm (S.Ce k y b o' hy hmu hb)
   exact(S'.F9 b o' qR hnc).trans (S.F9 b o' hb hm)
  ·intro b hb hm;have qR:b<w.heap.size:=bZ hb S.size
   have hnc:∀o',¬ F8 φc H b o':=by
    intro o' hh;obtain⟨k,y,hy,hmu⟩:=ajq b o' hh;exact hm o' (S.Ce k y b o' hy hmu hb)
   exact(S'.nM b qR hnc).trans (S.nM b hb hm)
  ·intro k x b o' hx hmu hb;rcases hH2 k x hx with⟨l,hl,rfl,rfl⟩|⟨h1,h2,h3⟩
   ·rw[ajr l hl]at hmu;obtain⟨q,z,hz,hmz⟩:=S'.Ce l _ b o' (bW hl) (Vz.1 hmu) (bZ hb S.size);obtain⟨k2,y2,hy2,aH1⟩:=ajq b o' ⟨q,z,hz,hmz⟩;exact S.Ce k2 y2 b o' hy2 aH1 hb
   ·rw[apA k h1 h2]at hmu;exact S.Ce k x b o' h3 hmu hb
  ·intro k hk;have hkn:k<n:=by have:=S.low;simp only[n];omega
   have hn:=S.lR k hk;show(U2 k=_/\_)\/_;rcases auH k hkn with⟨l,hl,rfl⟩|hm
   ·have hn':=S'.lR l hl;rw[ajr l (by omega),aDK l (by omega),Gd];rw[ajp l H[l] (bW hl),Gd]at hn;have h1:lZ H'[l]? =lZ (some H'[l]):=by rw[bW (by omega)]
    have h2:C'.ln0 l=lZ (some H[l]):=by show lZ H[l]? =_;rw[bW hl]
    have h3:C'.U0 l=U (ρf l):=rfl;rw[h1,h2,h3]at hn';rcases hn' with⟨ha,hb|hb⟩|⟨⟨q,hq,mR⟩,hp,hmp⟩
    ·rw[ha,hb];exact hn
    ·rw[hb];rcases hn with⟨hc1,_⟩|⟨⟨q,hq,_⟩,hp,hmp⟩
     ·exact .inl ⟨by rw[ha];exact hc1,.inr rfl⟩
     ·exact .inr ⟨⟨q,hq,fun k' RB=>by cases RB⟩,hp,hmp⟩
    ·right;rcases hn with⟨hc1,hc2|hc2⟩|⟨⟨q2,hq2,aH2⟩,hp2,aH3⟩
     ·rw[hq]at hc2;exact⟨⟨q,hc2.symm,mR⟩,by rw[<-hc1];exact⟨hp,hmp⟩⟩
     ·rw[hq]at hc2;cases hc2
     ·exact⟨⟨q2,hq2,fun k' RB=>by have:=mR k' RB;have:=aH2 q hq;omega⟩,hp2,aH3⟩
   ·rw[apA k hkn hm,aHZ k hkn hm];exact hn
 refine⟨o.qc ρf,U2,H2,hK o H' hV,S2,?_⟩;cases o with
 |ret r=>
  cases e with
  |returned v=>exact pg.qc qc r v (pg.nb _ _ ui) ui
  |panicked chain=>exact ui.elim
  |outgrown=>exact ui.elim
 |panic x=>
  cases e with
  |returned v=>exact ui.elim
  |panicked chain=>
   obtain⟨v,hv,hr⟩:=ui;exact⟨v,hv,pg.qc qc x v (pg.nb _ _ hr) hr⟩
  |outgrown=>exact ui.elim
def ad9:aaC (fun _ w vs R=>Calls P f vs w R):=⟨fun _ _ _ _ _ hr h=>Calls.mono h hr⟩
def apB:aaC (aau P):=⟨fun _ _ _ _ _ hr h D rec h1 h2=>(h D rec h1 h2).mono hr⟩
def anL {Pk:List AV}(h:FnG P f args H V)(Y:List Nat)(hlen:Y.length=H.length)(hnd:Y.Nodup)
 (Sf:q8 Pk (sZ (oP Y J.heap.length) args)) (OX:∀(i:Nat)(k:Nat)(x:jT),Y[i]? =some k->H[i]? =some x->J.heap[k]? =some (x.qc (oP Y J.heap.length)))
 (hK:∀o H',V o H'->K (o.qc (oP Y J.heap.length)) (xc Y J.heap H')):Bf P f Pk J K:=
 ⟨h.1,ae6 (T:=fun _ w vs R=>Calls P f vs w R) (l0:=0) ad9 h.2 Y hlen hnd (fun _=>rfl) Sf OX hK⟩
end call
def n8.aFQ{x:jT}(r:n8 E x hd)(h:E.Le N E')(hn:rJ N x)(hs:E'.w=E.w:=by rfl):n8 E' x hd:=by
 cases x with
 |cells cs=>obtain⟨b,c,t,h1,h2,rl,h3⟩:=r;exact⟨b,c,t,h1,by rw[hs];exact h2,ko.mono h _ _ hn rl,h3⟩
 |lN tN sz rows=>
  obtain⟨base,cap,h1,h2,h3,h4,h5⟩:=r;refine⟨base,cap,h1,h2,h3,h4,fun a0 ha hc=>?_⟩;obtain⟨h6,c,t,h7,h8,rl,h9⟩:=h5 a0 ha hc;exact⟨h6,c,t,by rw[hs];exact h7,h8,ko.mono h _ _ (JD hn) rl,h9⟩
 |map es=>obtain⟨r',en,cl,h1,h2,rp⟩:=r;exact⟨r',en,cl,h1,by rw[hs];exact h2,sP.mono h hn rp⟩
 |loop k jV st uu=>obtain⟨D,rec,h1,h2,h3,h4,rl⟩:=r;exact⟨D,rec,h1,by rw[hs];exact h2,by rw[hs];exact h3,h4,ko.mono h _ _ hn rl⟩
 |iter s p=>obtain⟨b,h1,h2⟩:=r;exact⟨b,h1,by rw[hs];exact h2⟩
 |Io s=>exact Xl r (fun b _=>by rw[hs])
 |xu=>trivial
def aea(J:jJ)(x r:AV)(H':List jT):Prop:=
 ∀ (C:qu) (U:Nat->aJ2) (a:Act) (w:aJ6),mM C U J a w-> ∀v,pg (C.env U J.heap w) x v->
   ∃U',mM C U' {jV:=[],heap:=H',low:=J.low} {tmps:= #[],defers:=[]} w/\pg (C.env U' H' w) r v
def Xy(low l k:Nat):Nat:=if k<low then k else if k=l then low else low+1+k
section aAD

theorem apC(hl:l<low):(H.take low)[l]? =H[l]? :=by rw[List.getElem?_take,if_pos hl]
def asu{y:jT}(hl:J.heap[l]? =some y)(It:J.low<=l)(G9: ∀z∈J.heap.take J.low,rJ J.low z)(hy:rJ J.low y)(hr:(x.qc (Xy J.low l)).nb (J.low+1)):
 aea J x (x.qc (Xy J.low l)) (J.heap.take J.low++[y]):=by
 intro C U a w S v hv;have aH4:=S.low.2;have hHl:(J.heap.take J.low).length=J.low:=by rw[List.length_take];omega
 let H':=J.heap.take J.low++[y]
 let U':Nat->aJ2:=fun k=>if k=J.low then U l else U k
 have hφ':∀k,k<J.low->U' k=U k:=fun k hk=>by simp only[U'];rw[if_neg (by omega)]
 have hφl:U' J.low=U l:=by simp [U']
 have auN:∀k,k<J.low->H'[k]? =J.heap[k]? :=by
  intro k hk;simp only[H'];rw[cq (by omega),apC hk]
 have aDc:H'[J.low]? =some y:=by
  simp only[H'];rw[cx (by omega),hHl,Nat.sub_self];rfl
 have ax8:H'.length=J.low+1:=by simp only[H',List.length_append,hHl,dw,List.length_nil]
 have nA:∀(k:Nat)(z:jT),H'[k]? =some z->(k<J.low/\J.heap[k]? =some z)\/(k=J.low/\z=y):=by
  intro k z hz;have hk:k<J.low+1:=by rw[<-ax8];exact(bX.1 hz).1
  by_cases e:k=J.low
  ·subst e;rw[aDc]at hz;cases hz;exact .inr ⟨rfl,rfl⟩
  ·left;rw[auN k (by omega)]at hz;exact⟨by omega,hz⟩
 let F9:Nat->Nat:=fun k=>if k=J.low then l else k
 have hold:∀(k:Nat)(z:jT),H'[k]? =some z->J.heap[F9 k]? =some z/\U' k=U (F9 k):=by
  intro k z hz;rcases nA k z hz with⟨h1,h2⟩|⟨rfl,rfl⟩
  ·simp only[F9];rw[if_neg (by omega)];exact⟨h2,hφ' k h1⟩
  ·simp only[F9,jE];exact⟨hl,hφl⟩
 have aAE:∀k k',k<J.low+1->k'<J.low+1->F9 k=F9 k'->k=k':=by
  intro k k' hk RB he;simp only[F9]at he;split at he<;>split at he<;>omega
 have L0:∀b o,F8 U' H' b o->F8 U J.heap b o:=by
  rintro b o ⟨k,z,hz,hm⟩;obtain⟨h1,h2⟩:=hold k z hz;rw[h2]at hm;exact⟨F9 k,z,h1,hm⟩
 have le:(C.env U J.heap w).Le J.low (C.env U' H' w):=by
  refine⟨by simp only[qu.env];omega,fun k hk=>.inl ⟨hφ' k hk,.inl (by simp only[qu.env];rw[auN k hk])⟩,fun b o u hm hc=>⟨fun h=>hm (h.imp (L0 b o) id),hc⟩,CF _⟩
 refine⟨U',{jV:=rfl,defers:=sQ.nil,nX:=?_,apart:=?_,tW:=?_,size:=S.size,F9:=S.F9,nM:=S.nM,Ce:=?_,wS:=S.wS,rest:=S.rest,low:=⟨S.low.1,by show J.low<=H'.length;omega⟩,lR:=?_},?_⟩
 ·intro k z hz;show n8 (C.env U' H' w) z (U' k);obtain⟨h1,h2⟩:=hold k z hz;rw[h2];refine(S.nX (F9 k) z h1).aFQ le ?_;rcases nA k z hz with⟨h3,h4⟩|⟨rfl,rfl⟩
  ·exact G9 z (cP ((apC h3).trans h4))
  ·exact hy
 ·intro k k' z z' b hz hz' hb qR;obtain⟨h1,h2⟩:=hold k z hz;obtain⟨h1',h2'⟩:=hold k' z' hz';rw[h2]at hb;rw[h2']at qR;have hk:k<J.low+1:=by rw[<-ax8];exact(bX.1 hz).1
  have RB:k'<J.low+1:=by rw[<-ax8];exact(bX.1 hz').1
  exact aAE k k' hk RB (S.apart _ _ z z' b h1 h1' hb qR)
 ·intro k z b o hz hb;obtain⟨h1,h2⟩:=hold k z hz;rw[h2]at hb;exact S.tW _ z b o h1 hb
 ·intro k z b o hz hm hb;obtain⟨h1,h2⟩:=hold k z hz;rw[h2]at hm;exact S.Ce _ z b o h1 hm hb
 ·intro k hk;have RB:k<J.low:=by have:=S.low.1;omega
  show(U' k=_/\(lZ H'[k]? =_\/_))\/_;rw[hφ' k RB,auN k RB];exact S.lR k hk
 ·
  let E2:Dw:={w,mu:=(C.env U' H' w).mu,U:=fun k=>if k<J.low+1 then U' k else U (k-(J.low+1)),ln:=fun k=>if k<J.low+1 then lZ H'[k]? else none,n:=J.low+1+J.heap.length}
  have qc:aeY J.heap.length (Xy J.low l) (C.env U J.heap w) E2:=by
   refine⟨fun k hk=>?_,fun k hk=>?_,fun b o u hm hc=>⟨fun h=>hm (h.imp (L0 b o) id),hc⟩,CF _⟩
   ·simp only[Xy,E2];split
    ·omega
    ·split<;>omega
   ·simp only[Xy,E2,qu.env];split
    ·rename_i h1;rw[if_pos (by omega),if_pos (by omega),hφ' k h1,auN k h1];exact⟨rfl,.inl rfl⟩
    ·split
     ·rename_i h1 h2;subst h2;rw[if_pos (by omega),if_pos (by omega),hφl,aDc,hl];exact⟨rfl,.inl rfl⟩
     ·rw[if_neg (by omega),if_neg (by omega)];refine⟨?_,.inr rfl⟩;congr 1;omega
  have h1:=pg.qc qc x v (pg.nb _ _ hv) hv
  have le2:E2.Le (J.low+1) (C.env U' H' w):=by
   refine⟨by simp only[qu.env];show J.low+1<=H'.length;omega,fun k hk=>.inl ⟨?_,.inl ?_⟩,fun b o u hm hc=>⟨hm,hc⟩,CF _⟩
   ·show U' k=if k<J.low+1 then U' k else _
    rw[if_pos hk]
   ·show lZ H'[k]? =if k<J.low+1 then lZ H'[k]? else none
    rw[if_pos hk]
  exact pg.mono le2 _ v hr h1
end aAD
def xL{args:Array aJ2}{R R':aJ7->FrameMode->aJ6->Prop}(h:CallsDIn F n P f args u w R)(hr:∀e u' w',R e u' w'->R' e u' w'):CallsDIn F n P f args u w R':=by
 refine⟨h.1,fun c cs hc NS=>?_⟩;obtain⟨e,u',w',fr,hR,uh⟩:=h.2 c cs hc NS;exact⟨e,u',w',fr,hr _ _ _ hR,uh⟩
def ald(P:aJ5)(f:aJ4):aJ2->aJ6->Array aJ2->(aJ7->aJ6->Prop)->Prop:=fun _ w vs R=>
 CallsDIn cf 0 P f vs .returning w fun e u' w'=>∃r,e=.returned r/\settle u'=.returning/\R (.returned r) w'
def ale(P:aJ5)(f:aJ4):aJ2->aJ6->Array aJ2->(aJ7->aJ6->Prop)->Prop:=fun _ w vs R=>∀(vs0:Array aJ2)(v:aJ2),vs=vs0.push v->
 CallsDIn cf 0 P f vs0 (.panicking [{v,recovered:=false}]) w fun e u' w'=>∃r,e=.returned r/\
  ((settle u'=.returning/\R (.returned r) w')\/∃v',settle u'=.panicking [{v:=v',recovered:=false}]/\R (.panicked [{v:=v',recovered:=false}]) w')
def agn:aaC (ald P f):=⟨fun _ _ _ _ _ hr h=>xL h fun _ _ _ ⟨r,h1,h2,h3⟩=>⟨r,h1,h2,hr _ _ h3⟩⟩
def ago:aaC (ale P f):=⟨fun _ _ _ _ _ hr h vs0 v hv=>xL (h vs0 v hv) fun _ _ _ ⟨r,h1,h2⟩=>⟨r,h1,h2.imp (fun ⟨h3,h4⟩=>⟨h3,hr _ _ h4⟩) fun ⟨v',h3,h4⟩=>⟨v',h3,hr _ _ h4⟩⟩⟩
def ae7 (P:aJ5) (xw:Option AV->jJ->Prop):List (aJ4×List AV)->Option AV->jJ->Prop
 |[],m,J=>xw m J
 |(f,args)::ds,none,J=>enters P f=true/\Sh P (ald P f) 0 args {J with df:=ds} (fun o H'=>match o with
    |.ret _=>ae7 P xw ds none {J with heap:=H',df:=ds}
    |.panic _=>False)
 |(f,args)::ds,some x,J=>enters P f=true/\Sh P (ale P f) 0 (args++[x]) {J with df:=ds} (fun o H'=>match o with
    |.ret _=>ae7 P xw ds none {J with heap:=H',df:=ds}
    |.panic x'=>ae7 P xw ds (some x') {J with heap:=H',df:=ds})
section unw
variable {C:qu} {ds:List Deferred}
def mM.asv(S:mM C U {J with jV:=J.jV++[x]} {tmps:=tmps.push v,defers:=ds} w)(hl:J.jV.length=tmps.size):mM C U J {tmps,defers:=ds} w/\pg (C.env U J.heap w) x v:=by
 have h1:=S.jV.take J.jV.length;have h2:=S.jV.drop J.jV.length;have hlen:tmps.toList.length=J.jV.length:=by simp [hl]
 simp only[cz]at h1 h2;rw[cK rfl,cK hlen]at h1;rw[cM rfl,cM hlen]at h2;obtain⟨u,us,he2,r1,_⟩:=h2;simp only[dl]at he2;obtain⟨rfl,_⟩:=he2;exact⟨{S with jV:=h1,defers:=S.defers},r1⟩
def mM.anM(S:mM C U J {tmps,defers:=ds} w)(h:pg (C.env U J.heap w) x v):mM C U {J with jV:=J.jV++[x]} {tmps:=tmps.push v,defers:=ds} w:=by
 refine {S with jV:=?_,defers:=S.defers};have hv:ko (C.env U J.heap w) [x] [v]:=⟨v,[],rfl,h,rfl⟩;simp only[cz];exact S.jV.append hv
def mM.len(S:mM C U J {tmps,defers:=ds} w):J.jV.length=tmps.size:=by
 have:=S.jV.length;simpa using this.symm
def mM.aFR(S:mM C U {J with jV:=J.jV++[x]} {tmps:=tmps.push v,defers:=ds} w):J.jV.length=tmps.size:=by
 have:=S.jV.length;simp at this;exact this.symm
def mM.pop{d:Deferred}(S:mM C U J {tmps,defers:=d::ds} w)(hm:aeK d=false):
 ∃f xs df' cap,J.df=(f,xs)::df'/\d.target=.fn (.func f) cap/\ko (C.env U J.heap w) xs (d.args++cap).toList/\mM C U {J with df:=df'} {tmps,defers:=ds} w:=by
 obtain⟨h1,h2,h3⟩:=S.defers;simp only[dx,hm,Bool.not_false,jE,cU,if_false]at h1 h3;cases ZI:J.df with
 |nil=>rw[ZI]at h3;cases h3
 |cons p df'=>
  obtain⟨f,xs⟩:=p;rw[ZI]at h3;obtain⟨d',s,cap,he,ht,hr,uh⟩:=h3;simp only[dl]at he;obtain⟨rfl,rfl⟩:=he;exact⟨f,xs,df',cap,rfl,ht,hr,{S with jV:=S.jV,defers:=⟨h1,fun d' hd'=>h2 d' (List.mem_cons_of_mem _ hd'),uh⟩}⟩
def ajs{d:Deferred}{cap:Array aJ2}(ht:d.target=.fn (.func f) cap)(he:enters P f=true):(invoke d.target d.args).run P w=.ok (.enter f (d.args++cap)) w:=by
 unfold enters at he;split at he
 ·rename_i fn hfn;simp only[cg,bne_iff_ne,ne_eq]at he;have amt:fn.body≠none:=by intro hb;simp [hb]at he
  simp [ht,invoke,callFunc,hfn,he.2,amt]
 ·cases he
def aeb{fn:Func}{R:aJ7->aJ6->Prop}{xw:Option AV->jJ->Prop}
 (hr:∀U J w,mM C U J {tmps,defers:=[]} w->xw none J->∃v,(results fn tmps).run C.P w=.ok v w/\R (.returned v) w)
 (hp:∀U J x v w,mM C U J {tmps,defers:=[]} w->pg (C.env U J.heap w) x v->xw (some x) J->R (.panicked [{v,recovered:=false}]) w):
 ∀ (ds:List Deferred),
   (∀U J w,mM C U J {tmps,defers:=ds} w->ae7 C.P xw J.df none J->LeavesInM cf 0 C.P fn tmps R ds .returning w)/\
   (∀U J x v w,mM C U {J with jV:=J.jV++[x]} {tmps:=tmps.push v,defers:=ds} w->ae7 C.P xw J.df (some x) J->LeavesInM cf 0 C.P fn tmps R ds (.panicking [{v,recovered:=false}]) w)
 |[]=>by
  refine⟨fun U J w S h=>?_,fun U J x v w S h=>?_⟩
  ·have hd:J.df=[]:=by
    have:=S.defers.2.2;cases ZI:J.df with
    |nil=>rfl
    |cons p r=>rw[ZI]at this;obtain⟨_,_,_,h,_⟩:=this;cases h
   rw[hd]at h;exact hr U J w S h
  ·obtain⟨S',hx⟩:=S.asv S.aFR
   have hd:J.df=[]:=by
    have:=S'.defers.2.2;cases ZI:J.df with
    |nil=>rfl
    |cons p r=>rw[ZI]at this;obtain⟨_,_,_,h,_⟩:=this;cases h
   rw[hd]at h;exact hp U J x v w S' hx h
 |d::ds=>by
  obtain⟨ihr,ihp⟩:=aeb hr hp ds;refine⟨fun U J w S h=>?_,fun U J x v w S h=>?_⟩
  ·cases hm:aeK d with
   |true=>
    obtain⟨D,hD,_⟩:=S.defers.2.1 d (cN) hm;subst hD;obtain⟨h1,S'⟩:=S.ae3;exact⟨by simp,.inl ⟨D,_,rfl,run_takeDeferred h1,ihr U J _ S' h⟩⟩
   |false=>
    obtain⟨f,xs,df',cap,ZI,ht,hxs,S'⟩:=S.pop hm;rw[ZI]at h;obtain⟨he,hc⟩:=h;refine⟨by simp,.inr ⟨fun h=>by simp [cf]at h,_,cap,f,d.args++cap,ht,ajs ht he,fun _ _=>trivial,?_⟩⟩;refine xL (hc C U _ w rfl S' _ hxs) ?_;rintro e u' w' ⟨r,rfl,hs,o,U',H',hK,S2,ui⟩;cases o with
    |ret r'=>
     simp only;rw[hs];exact ihr U' _ w' S2 hK
    |panic _=>exact hK.elim
  ·cases hm:aeK d with
   |true=>
    obtain⟨D,hD,_⟩:=S.defers.2.1 d (cN) hm;subst hD;obtain⟨h1,S'⟩:=S.ae3;exact⟨by simp,.inl ⟨D,_,rfl,run_takeDeferred h1,ihp U J x v _ S' h⟩⟩
   |false=>
    obtain⟨S1,hx⟩:=S.asv S.aFR;obtain⟨f,xs,df',cap,ZI,ht,hxs,S'⟩:=S1.pop hm;rw[ZI]at h;obtain⟨he,hc⟩:=h;refine⟨by simp,.inr ⟨fun h=>by simp [cf]at h,_,cap,f,d.args++cap,ht,ajs ht he,fun _ _=>trivial,?_⟩⟩
    have Sf:ko (C.env U J.heap w) (xs++[x]) ((d.args++cap).push v).toList:=by
     have hv:ko (C.env U J.heap w) [x] [v]:=⟨v,[],rfl,hx,rfl⟩;rw[cz];exact hxs.append hv
    refine xL (hc C U _ w rfl S' _ Sf _ v rfl) ?_;rintro e u' w' ⟨r,rfl,⟨hs,o,U',H',hK,S2,ui⟩|⟨v',hs,o,U',H',hK,S2,ui⟩⟩
    ·cases o with
     |ret r'=>
      simp only;rw[hs];exact ihr U' _ w' S2 hK
     |panic _=>exact ui.elim
    ·cases o with
     |ret r'=>exact ui.elim
     |panic x'=>
      simp only;rw[hs];obtain⟨v2,hv2,hr2⟩:=ui;simp only[dl,PanicEntry.mk.injEq,and_true]at hv2;subst hv2;exact ihp U' _ x' _ w' (S2.anM hr2) hK
end unw
def agp(P:aJ5)(rs:List ResultVar)(V:vf->List jT->Prop):Option AV->jJ->Prop
 |none,J=>∃x,Pj P J rs=some x/\∃r H',aea J x r H'/\V (.ret r) H'
 |some x,J=>∃r H',aea J x r H'/\V (.panic r) H'
def aDd(P:aJ5)(rs:List ResultVar)(V:vf->List jT->Prop):nU->jJ->Prop
 |.normal,J=>ae7 P (agp P rs V) J.df none J
 |.ret,J=>ae7 P (agp P rs V) J.df none J
 |.panic x,J=>ae7 P (agp P rs V) J.df (some x) J
 |_,_=>False
def apD{fn:Func}(hf:P.funcs[f]? =some fn)(hb:fn.body=some c)(sA:(fn.name != "runtime.NumGoroutine")=true)(G9:w5 H.length args)
 (H7:∀x∈H,rJ H.length x) (hn:fn.ntmps=n) {rs:List ResultVar} (L1:fn.results=rs.toArray)
 (h:awp P c (aDd P rs V) {jV:=args++cn (n-args.length) .any,heap:=H,low:=H.length}):FnG P f args H V:=by
 refine⟨?_,G9,H7,fun C U w hP h0 hN0 hφ0 hM HS vs hr=>?_⟩
 ·unfold enters;rw[hf];simp only[hb,dJ,Bool.true_and];exact sA
 ·subst hP;refine(callsIn_wide (n:=0)).1 (callsIn_of_wp_marks hf hb trivial ?_);have hsz:vs.size=args.length:=by have:=hr.length;simpa using this
  have S:mM C U {jV:=args++cn (n-args.length) .any,heap:=H,low:=H.length} {tmps:=vs++b8 (fn.ntmps-vs.size) undef,defers:=[]} w:=by
   refine {HS with jV:=?_,defers:=sQ.nil};simp only[cR,cX];refine hr.append ?_;rw[hsz,hn];have:=ko.Fc (E:=C.env U H w) (cn (n-args.length) undef);simpa using this
  refine wpIn_mono (ye (ro:=none) c _ U _ _ w (.inl rfl) h S) ?_;intro e a' w' hq;have It:∀{U':Nat->aJ2}{J':jJ}{a'':Act}{w'':aJ6},mM C U' J' a'' w''->J'.low=H.length:=fun S'=>by rw[<-S'.low.1];exact hN0
  have xw:=aeb (C:=C) (tmps:=a'.tmps) (fn:=fn) (R:=fun e w'=>∃o U' H',V o H'/\mM C U' {jV:=[],heap:=H',low:=H.length} {tmps:= #[],defers:=[]} w'/\o.rep (C.env U' H' w') e) (xw:=agp C.P rs V)
   (by
     rintro U' J' w' S' ⟨x,hx,r,H',hex,hV⟩;obtain⟨v,hv,rv⟩:=NX (fn:=fn) S' (by rw[L1];exact hx);obtain⟨U2,S2,hr2⟩:=hex C U' _ w' S' v rv;rw[It S']at S2;exact⟨v,hv,.ret r,U2,H',hV,S2,hr2⟩)
   (by
     rintro U' J' x v w' S' hx ⟨r,H',hex,hV⟩;obtain⟨U2,S2,hr2⟩:=hex C U' _ w' S' v hx;rw[It S']at S2;exact⟨.panic r,U2,H',hV,S2,v,rfl,hr2⟩) a'.defers
  cases e with
  |normal=>obtain⟨U',J',S',hq⟩:=hq;exact xw.1 U' J' w' S' hq
  |ret=>obtain⟨U',J',S',hq⟩:=hq;exact xw.1 U' J' w' S' hq
  |exit id=>obtain⟨_,_,_,hq⟩:=hq;exact hq.elim
  |goto l=>obtain⟨_,_,_,hq⟩:=hq;exact hq.elim
  |panic chain=>
   obtain⟨U',J',x,v,S',hq,hch,ui⟩:=hq;subst hch;exact xw.2 U' J' x v w' (mM.anM (tmps:=a'.tmps) (ds:=a'.defers) S' ui) hq
  |outgrown=>exact hq.elim
def avT(P:aJ5)(rs:List ResultVar)(V:AV->Prop):Option AV->jJ->Prop
 |none,J=>avS V J.heap (Pj P J rs)
 |some _,_=>False
def ax9(P:aJ5)(rs:List ResultVar)(V:AV->Prop):nU->jJ->Prop
 |.normal,J=>ae7 P (avT P rs V) J.df none J
 |.ret,J=>ae7 P (avT P rs V) J.df none J
 |.panic x,J=>ae7 P (avT P rs V) J.df (some x) J
 |_,_=>False
def anN {fn:Func} {V:AV->Prop} (hf:P.funcs[f]? =some fn) (hb:fn.body=some c) (sA:(fn.name != "runtime.NumGoroutine")=true) (G9:w5 0 args)
 (h:awp P c (ax9 P fn.results.toList V) {jV:=args++cn (fn.ntmps-args.length) .any,heap:=[]}):KD P f args V:=by
 refine⟨?_,G9,fun C U w hP h0 hN hM vs hr=>?_⟩
 ·unfold enters;rw[hf];simp only[hb,dJ,Bool.true_and];exact sA
 ·subst hP;refine (callsIn_wide (n:=0)).1 (callsIn_of_wp_marks hf hb trivial ?_);have hsz:vs.size=args.length:=by have:=hr.length;simpa using this
  have S:mM C U {jV:=args++cn (fn.ntmps-args.length) .any,heap:=[]} {tmps:=vs++b8 (fn.ntmps-vs.size) undef,defers:=[]} w:=by
   refine {jV:=?_,defers:=sQ.nil,nX:=by simp,apart:=by simp,tW:=by simp,size:=by rw[h0];exact b9 _,F9:=fun b o _ _=>by rw[h0],nM:=fun b _ _=>by rw[h0],Ce:=by simp,wS:=fun x _ _=>by rw[h0],rest:=by rw[h0];exact⟨rfl,rfl⟩,low:=⟨hN,b9 _⟩,lR:=fun l hl=>by rw[hN]at hl;exact absurd hl (ck _)};simp only[cR,cX];refine hr.append ?_;rw[hsz];have:=ko.Fc (E:=C.env U [] w) (cn (fn.ntmps-args.length) undef);simpa using this
  refine wpIn_mono (ye (ro:=none) c _ U _ _ w (.inl rfl) h S) ?_;intro e a' w' hq
  have xw:=aeb (C:=C) (tmps:=a'.tmps) (fn:=fn) (R:=fun e w'=>∃r v U',V r/\e=.returned v/\pg (C.env U' [] w') r v/\w.heap.size<=w'.heap.size/\(∀b,b<w.heap.size->w'.heap[b]? =w.heap[b]?)/\
        (∀x,x.block<w.heap.size->w'.frozen? x=w.frozen? x)/\w'.output=w.output/\w'.os=w.os) (xw:=avT C.P fn.results.toList V)
   (by
     intro U' J' w' S' Um;simp only[avT]at Um;cases hx:Pj C.P J' fn.results.toList with
     |none=>rw[hx]at Um;exact Um.elim
     |some x=>
     rw[hx]at Um;obtain⟨hn,r0,acJ,hV⟩:=Um;obtain⟨v,hv,rv⟩:=NX S' hx;refine⟨v,hv,_,v,U',hV,rfl,acJ _ _ (by have:=agi S' (S'.aC6 (by rw[<-S'.low.1];exact hN)) x v;rw[<-S'.low.1,hN]at this;exact this hn rv),?_,?_,?_,?_⟩
     ·rw[<-h0];exact S'.size
     ·intro b hb;rw[<-h0];exact S'.nM b (by rw[h0];exact hb) (fun o=>hM b o)
     ·intro y hy;rw[<-h0];exact S'.wS y (by rw[h0];exact hy) (fun o=>hM y.block o)
     ·rw[<-h0];exact S'.rest)
   (by
     intro U' J' x v w' S' hx Um;exact Um.elim) a'.defers
  cases e with
  |normal=>obtain⟨U',J',S',hq⟩:=hq;exact xw.1 U' J' w' S' hq
  |ret=>obtain⟨U',J',S',hq⟩:=hq;exact xw.1 U' J' w' S' hq
  |exit id=>obtain⟨_,_,_,hq⟩:=hq;exact hq.elim
  |goto l=>obtain⟨_,_,_,hq⟩:=hq;exact hq.elim
  |panic chain=>
   obtain⟨U',J',x,v,S',hq,hch,ui⟩:=hq;subst hch;exact xw.2 U' J' x v w' (mM.anM (tmps:=a'.tmps) (ds:=a'.defers) S' ui) hq
  |outgrown=>exact hq.elim
attribute [go_sem] AV.qc sZ Gc jT.qc vf.qc oP xc si Xy aDd
def VD:List AV->List Tmp->List AV->List AV
 |s,p::ps,x::xs=>VD (s.set p x) ps xs
 |s,_,_=>s
def amC{E:Dw}:∀{ps:List Tmp}{xs:List AV}{vs:List aJ2}{s:List AV}{t:Array aJ2},ko E xs vs->ko E s t.toList->
 ko E (VD s ps xs) ((ps.zip vs).foldl (fun t (p:Tmp×aJ2)=>t.setIfInBounds p.1 p.2) t).toList
 |[],_,_,_,_,_,h=>by simpa [VD] using h
 |_::_,[],_,_,_,rfl,h=>by simpa [VD] using h
 |p::ps,x::xs,_,s,t,⟨u,us,rfl,r1,r2⟩,h=>by
  simp only[VD,List.zip_cons_cons,List.foldl_cons];refine amC r2 ?_;have:=h.set (i:=p) r1
  grind
def ajt:nU->Option (Option aJ3)
 |.normal=>some none
 |.ret=>some (some .ret)
 |.exit id=>some (some (.exit id))
 |_=>none
def auO(V:vf->List jT->Prop)(e:nU)(J:jJ):Prop:=
 ∃j k s,ajt e=some (qy k.js j)/\J.heap[0]? =some (.loop k s .busy 0)/\∃r H',aea {J with heap:=J.heap.set 0 (.loop k s (stP (qy k.js j)) j)} (.bool (qy k.js j).isNone) r H'/\V (.ret r) H'
def anO{k:yN}(hH:H[0]? =some (.loop k jV .ready 0))
 (G9:w5 H.length args) (H7:∀x∈H,rJ H.length x) (hn:yd k.assign=true/\yd k.body=true)
 (h:awp P k.assign (nU.then (fun J1=>∃k1 s1,J1.heap[0]? =some (.loop k1 s1 .ready 0)/\awp P k.body (auO V) {J1 with heap:=J1.heap.set 0 (.loop k1 s1 .busy 0)}) (fun _ _=>False))
   {jV:=VD jV k.ps.toList args,heap:=H,low:=H.length}):FnT P (aau P) args H V:=by
 refine⟨G9,H7,fun C U w hP h0 hN hφ0 hM HS vs hr D rec hφ hw=>?_⟩;subst hP;have ala:0<H.length:=(bX.1 hH).1
 have aya:∀{U':Nat->aJ2}{J':jJ}{a':Act}{w':aJ6},mM C U' J' a' w'->U' 0=.func (.yield (D+1)) #[] #[]:=by
  intro U' J' a' w' S';rcases S'.lR 0 (by omega)with⟨h1,_⟩|⟨⟨n,h1,_⟩,_⟩
  ·rw[h1,(hφ0 0 ala).1];exact hφ
  ·rw[(hφ0 0 ala).2,hH]at h1;cases h1
 have It:∀{U':Nat->aJ2}{J':jJ}{a':Act}{w':aJ6},mM C U' J' a' w'->J'.low=H.length:=fun S'=>by rw[<-S'.low.1];exact hN
 have OX:∀{U':Nat->aJ2}{J':jJ}{a':Act}{w':aJ6}{k:yN}{s:List AV}{st:LoopState}{c:Int},mM C U' J' a' w'->J'.heap[0]? =some (.loop k s st c)->
  ∃aaB,w'.heap[D+1]? =some (.loop aaB)/\(aaB.params=k.ps/\aaB.assign=k.assign/\aaB.body=k.body/\aaB.state=st/\aaB.pending=qy k.js c/\aaB.defers=D)/\ko (C.env U' J'.heap w') s aaB.tmps.toList:=by
  intro U' J' a' w' k s st c S' h0;obtain⟨D',aaB,e1,g1,g2,g3,rl⟩:=S'.nX 0 _ h0;rw[aya S']at e1;simp only[dc,Fn.yield.injEq,cE,and_true]at e1;subst e1;exact⟨aaB,g1,g3,rl⟩
 obtain⟨aI2,g1,g3,rl⟩:=OX HS hH;rw[hw]at g1;cases g1;rw[g3.1,g3.2.1,g3.2.2.1];refine roundIn_of_wpIn (F:=cf) trivial ?_
 have S:mM C U {jV:=VD jV k.ps.toList args,heap:=H,low:=H.length} {tmps:=(k.ps.zip vs).foldl (fun tmps (t,a)=>tmps.setIfInBounds t a) rec.tmps,defers:=[]} w:=by
  refine {HS with jV:=?_,defers:=sQ.nil};have:=amC (ps:=k.ps.toList) hr rl
  grind [Array.toList_zip]
 refine wpIn_mono (ye (ro:=some (D+1)) k.assign _ U _ _ w (.inr hn.1) h S) ?_;intro e a1 w1 hq;cases e with
 |exit id=>obtain⟨_,_,_,hq⟩:=hq;exact hq.elim
 |goto l=>obtain⟨_,_,_,hq⟩:=hq;exact hq.elim
 |ret=>obtain⟨_,_,_,hq⟩:=hq;exact hq.elim
 |panic ch=>obtain⟨_,_,_,_,_,hq,_⟩:=hq;exact hq.elim
 |outgrown=>exact hq.elim
 |normal=>
  obtain⟨U1,J1,S1,k1,s1,hH1,Ma⟩:=hq;obtain⟨aFS,kk,k3,_⟩:=OX S1 hH1;refine⟨_,run_beginRound kk k3.2.2.2.1,?_⟩;have S2:=S1.anJ (st':=.busy) (L9:=0) hH1 (aya S1) kk
  have e2:({aFS with state:=.busy,pending:=qy k1.js 0}:Loop)={aFS with state:=.busy}:=by
   rw[<-k3.2.2.2.2.1]
  rw[e2]at S2;refine wpIn_mono (ye (ro:=some (D+1)) k.body _ _ _ _ _ (.inr hn.2) Ma S2) ?_
  have xw:∀(e:nU)(c:Option aJ3)(U2:Nat->aJ2)(J2:jJ)(a2:Act)(w3:aJ6),ajt e=some c->mM C U2 J2 a2 w3->auO V e J2->
   ∃v w',(Instr.endRound (D+1) c).run C.P w3=.ok v w'/\∃o U' H',V o H'/\mM C U' {jV:=[],heap:=H',low:=H.length} {tmps:= #[],defers:=[]} w'/\o.rep (C.env U' H' w') (.returned v):=by
   rintro e c U2 J2 a2 w3 hj S3 ⟨j,k2,s2,hj',hH2,r,H',hex,hV⟩;rw[hj]at hj';obtain rfl:c=qy k2.js j:=Option.some.inj hj';obtain⟨aI3,m1,m3,_⟩:=OX S3 hH2;have S4:=S3.anJ (st':=stP (qy k2.js j)) (L9:=j) hH2 (aya S3) m1;have Um:=run_endRound (P:=C.P) (qy k2.js j) m1;have est:(if (qy k2.js j).isNone then LoopState.ready else .done)=stP (qy k2.js j):=by cases qy k2.js j<;>rfl
   rw[est]at Um;obtain⟨U5,S5,hr5⟩:=hex C U2 a2 _ S4 (.bool (qy k2.js j).isNone) rfl;rw[show J2.low=H.length from It S3]at S5;exact⟨_,_,Um,.ret r,U5,H',hV,S5,hr5⟩
  intro e a2 w3 hq;cases e with
  |normal=>obtain⟨U2,J2,S3,hq⟩:=hq;exact xw .normal none U2 J2 a2 w3 rfl S3 hq
  |ret=>obtain⟨U2,J2,S3,hq⟩:=hq;exact xw .ret _ U2 J2 a2 w3 rfl S3 hq
  |exit id=>obtain⟨U2,J2,S3,hq⟩:=hq;exact xw (.exit id) _ U2 J2 a2 w3 rfl S3 hq
  |goto l=>obtain⟨_,_,_,_,_,_,hq,_⟩:=hq;cases hq
  |panic ch=>obtain⟨_,_,_,_,_,⟨_,_,_,hq,_⟩,_⟩:=hq;cases hq
  |outgrown=>exact hq.elim
end Go.Abs
end
