/- A part of the proof: abstract states and the rules for them. -/
import Derived.Test.YtpdbjkgnmjnebaaGreatDoorCoreA
import Derived.RangeFuncLeaves
import Derived.Attr
set_option linter.all false
open Go renaming Oper→aTv,Value→aTw,Code→aTx,FuncId→aTy,Program→aTz,World→aTA,Operand→aTB,Ending→aTC
open Go.Op renaming operands→bS
open List renaming getElem?_eq_getElem→bT,getElem?_eq_some_iff→bV,range→ck,replicate→cm,getElem?_append_left→cn,range_eq_range'→ct,eq_nil_of_length_eq_zero→cv,mem_append→cw,mem_cons→cx,getElem?_append_right→cz,range'→cE,map_congr_left→cJ,pairwise_cons→cK,take_left'→cM,drop_left'→cN,mem_cons_self→cO,flatten_cons→cP,mem_of_getElem?→cQ,getD_eq_getElem?_getD→cR,pairwise_lt_range→cX,set_comm→cZ,range'_succ→dc,mem_of_mem_erase→di,getElem?_set_ne→dj,tail_drop→dm,length_erase_of_mem→dw,length_cons→dx,filter_cons→dy,nodup_cons→dz,getElem?_set_self→dA,set_getElem_self→dD,erase_cons_tail→dG,getElem?_of_mem→dH,map_cons→dJ
open Option.some renaming injEq→bU
open Nat renaming lt_of_lt_of_le→bW,le_refl→bZ,not_lt_zero→cc,add_right_cancel_iff→cG,ne_of_lt→dl,zero_le→dn
open Prod.mk renaming injEq→bX
open Iff renaming rfl→bY
open Array renaming replicate→b9,toList_push→cC,getElem?_eq_getElem→cD,toList_append→cT,toList_replicate→cY,getElem?_eq_some_iff→dr
open Go.Fence renaming wide→cf
open Bool renaming and_eq_true→cg,false_eq_true→cV
open Option renaming bind_eq_some_iff→cj,bind_some→cH,getD_some→db,isSome_some→dK
open List.cons renaming injEq→cq
open Go.Oper renaming apart_spec→cU,uponIn_enter→cW,semAt_eq→da
open Go.Value.func renaming injEq→dh
noncomputable section
namespace Go.Abs
variable {v x y:AV}{a:Act}{listed:Array Bool}{kH:Array aTv}{tmps:Array aTw}{b:Bool}{c:aTx}{E E':D4}{F:Fence}{u:FrameMode}{f:aTy}{uD:Int}{df:List (aTy×List AV)}{aB9 args kf xs ys z:List AV}{cs:List Frame}{k:List Item}{H H':List j6}{st:LoopState}{D N i j l low n:Nat}{Y:Nat->Nat}{U:Nat->aTw}{op:Op}{o oi or':aTv}{ro:Option Nat}{d dst:Option Tmp}{P:aTz}{p:Prop}{R:Type}{t:TypeId}{h hd:aTw}{w:aTA}{J J':jT}{Q:ot->jT->Prop}{K V:vB->List j6->Prop}{S:wq->Prop}
def JE(P:aTz)(f:aTy)(args:List AV)(V:AV->Prop):Prop:=
 enters P f=true/\ua 0 args/\∀(C:qC)(U:Nat->aTw)(w:aTA),C.P=P->C.w0=w->C.N0=0->(∀b o,¬ C.M0 b o)->∀vs:Array aTw,kQ (C.env U [] w) args vs.toList->
  Calls P f vs w fun e w'=>∃r v U',V r/\e=.returned v/\pz (C.env U' [] w') r v/\w.heap.size<=w'.heap.size/\(∀b,b<w.heap.size->w'.heap[b]? =w.heap[b]?)/\
   (∀x,x.block<w.heap.size->w'.frozen? x=w.frozen? x)/\w'.output=w.output/\w'.os=w.os
section aGC
variable {C:qC} {w':aTA}
theorem aoZ(hh:∀b,b<w.heap.size->w'.heap[b]? =w.heap[b]?){b o:Nat}(hb:b<w.heap.size):w'.cell? ⟨b,o,none⟩=w.cell? ⟨b,o,none⟩:=by
 simp only[World.cell?,hh b hb]
def nK.aGC(S:nK C U J a w)(hs:w.heap.size<=w'.heap.size)(hh:∀b,b<w.heap.size->w'.heap[b]? =w.heap[b]?)(hf:∀x,x.block<w.heap.size->w'.frozen? x=w.frozen? x)(hr:w'.output=w.output/\w'.os=w.os):
 nK C U J a w':=by
 have le:(C.env U J.heap w).Le J.heap.length (C.env U J.heap w'):=
  qC.CR (bZ _) (fun _ _=>⟨rfl,rfl⟩) (fun b o u hm hc=>⟨hm,by grind [aoZ,GA]⟩)
 refine {kf:=kQ.mono le _ _ (kQ.nb _ _ S.kf) S.kf,defers:=S.defers.same le hh,oB:=?_,apart:=S.apart,uf:=S.uf,size:=Nat.le_trans S.size hs,old:=?_,n9:=?_,Cl:=S.Cl,xf:=fun x hx=>by rw[hf x (bW hx S.size)];exact S.xf x hx,rest:=⟨by rw[hr.1];exact S.rest.1,by rw[hr.2];exact S.rest.2⟩,low:=S.low,mF:=S.mF}
 ·intro l x hx;have r:=S.oB l x hx;exact oP.mono r le (fun b hb=>hh b (r.qQ hb))
 ·intro b o hb hm;rw[aoZ hh (bW hb S.size)];exact S.old b o hb hm
 ·intro b hb hm;rw[hh b (bW hb S.size)];exact S.n9 b hb hm
def nK.callee(S:nK C U J a w):qC:=
 {P:=C.P,w0:=w,M0:=fun _ _=>False,A:=fun b o=>G9 U J.heap b o\/C.A b o,
  hA:=by
   rintro b o (⟨l,x,hx,hm⟩|hA)
   ·exact(S.oB l x hx).qQ (j6.ou hm)
   ·exact bW (C.hA b o hA) S.size
  hk:=⟨fun b o h=>let ⟨v,h1,h2,_⟩:=S.know.cell b o h;⟨v,h1,h2,fun f=>f⟩,fun b h=>⟨fun _ f=>f,(S.know.row b h).2⟩⟩}
def nK.aHx(S:nK C U J a w)(U':Nat->aTw)(w1:aTA):(C.env U J.heap w1).Le 0 (S.callee.env U' [] w1):=by
 refine⟨dn _,fun l hl=>absurd hl (cc _),fun b o u hm hc=>⟨?_,hc⟩,CQ _⟩;simp only[qC.env,nK.callee]at hm ⊢;rintro(⟨l,x,hx,_⟩|h)
 ·simp at hx
 ·exact hm h
def nK.aHy(S:nK C U J a w)(U':Nat->aTw)(w1:aTA):(S.callee.env U' [] w1).Le 0 (C.env U J.heap w1):=by
 refine⟨dn _,fun l hl=>absurd hl (cc _),fun b o u hm hc=>⟨?_,hc⟩,CQ _⟩
 simp_all [qC.env,nK.callee]
def ao0{V:AV->Prop}(h:JE P f args V)(hK:∀r,V r->K (.ret r) J.heap):Bt P f args J K:=by
 obtain⟨he,hn,hc⟩:=h;refine⟨he,fun C U a w hP S vs hr=>?_⟩;refine(hc S.callee U w hP rfl rfl (fun _ _ h=>h) vs (kQ.mono (S.aHx U w) _ _ hn hr)).mono ?_;rintro e w' ⟨r,v,U',hV,rfl,rep,hs,hh,hf,ho⟩;refine⟨.ret r,U,J.heap,hK r hV,S.aGC hs hh hf ho,?_⟩;exact pz.mono (S.aHy U' w') _ _ (pz.nb _ _ rep) rep
end aGC
section loc

def ao1{c:Call}{x:aTB}(h:x∈c.args):x∈(Op.call c).operands:=by
 grind [bS,Call.operands]
def aiB{d:Nat}{x:Option aTB}(h:∀y,x=some y->J'.ev y=J.ev y):Ck J' d x=Ck J d x:=by
 cases x with
 |none=>rfl
 |some y=>simp only[Ck,h y rfl]
theorem ard{H H':List j6}:∀{cs ds:List AV}{ns:List Nat},vwL H cs=some (ds,ns)->(∀l∈ns,H'[l]? =H[l]?)->vwL H' cs=some (ds,ns)
 |[],_,_,h,_=>by simp only[vwL]at h ⊢;exact h
 |c::cs,ds,ns,h,hr=>by
  unfold vwL at h ⊢;split at h
  ·cases ‹_::_=[]›
  ·rename_i l n cs' heq;simp only[cq]at heq;obtain⟨rfl,rfl⟩:=heq;split at h
   ·rename_i tZ sz rows hl;split at h
    ·rename_i hn;split at h
     ·rename_i es ms he;simp only[bU,bX]at h;obtain⟨rfl,rfl⟩:=h;have:=ard he (fun k hk=>hr k (by simp [hk]))
      grind
     ·cases h
    ·cases h
   ·cases h
  ·rename_i c' cs' sB heq;simp only[cq]at heq;obtain⟨rfl,rfl⟩:=heq;split at h
   ·rename_i es ms he;simp only[bU,bX]at h;obtain⟨rfl,rfl⟩:=h;have:=ard he hr
    grind
   ·cases h
theorem aEw{H:List j6}:∀{cs ds:List AV}{ns:List Nat},vwL H cs=some (ds,ns)->∀l∈ns,l<H.length
 |[],_,_,h=>by grind [vwL]
 |c::cs,ds,ns,h=>by
  unfold vwL at h;split at h
  ·cases ‹_::_=[]›
  ·rename_i l n cs' heq;simp only[cq]at heq;obtain⟨rfl,rfl⟩:=heq;split at h
   ·rename_i tZ sz rows hl;split at h
    ·split at h
     ·rename_i es ms he;simp only[bU,bX]at h;obtain⟨_,rfl⟩:=h;intro k hk;simp only[cx]at hk;rcases hk with rfl|hk
      ·grind
      ·exact aEw he k hk
     ·cases h
    ·cases h
   ·cases h
  ·rename_i c' cs' sB heq;simp only[cq]at heq;obtain⟨rfl,rfl⟩:=heq;split at h
   ·rename_i es ms he;simp only[bU,bX]at h;obtain⟨_,rfl⟩:=h;exact aEw he
   ·cases h
theorem aHz{e:wq}(h:ldV H l v=some e)(hr:∀k∈e.rd,H'[k]? =H[k]?):ldV H' l v=some e:=by
 unfold ldV at h ⊢
 grind [ard]
theorem aJd{e:wq}(h:ldV H l v=some e):l∈e.rd/\e.up=[]/\∀k∈e.rd,k=l\/k<H.length:=by
 unfold ldV at h
 grind [aEw]
theorem aBU {o:Op} {e:wq} (h:lK P J o=some e) (hev: ∀x∈o.operands,J'.ev x=J.ev x) (hrd: ∀l∈e.rd,J'.heap[l]? =J.heap[l]?) (hnw:e.nw≠[]->J'.heap.length=J.heap.length):
 lK P J' o=some e:=by
 cases o with
 |move x=>simp only[lK]at h ⊢;grind [bS]
 |assign x=>simp only[lK]at h ⊢;grind [bS]
 |pick c x y=>simp only[lK]at h ⊢;grind [bS]
 |alloc t=>
  simp only[lK]at h ⊢;cases hz:mI P t with
  |none=>rw[hz]at h;cases h
  |some z=>
   rw[hz]at h;cases h;rw[hnw ayD]
 |box t x=>
  simp only[lK]at h ⊢;have hx:J'.ev x=J.ev x:=by grind [bS]
  rw[hx];cases hc:cellsOf (J.ev x)with
  |none=>rw[hc]at h;cases h
  |some cs=>
   rw[hc]at h;cases h;rw[hnw ayD]
 |build t parts=>
  simp only[lK]at h ⊢
  grind [cJ,bS]
 |buildSlice t len parts=>
  simp only[lK]at h ⊢
  have:(parts.toList.map fun p=>(p.1,J'.ev p.2))=(parts.toList.map fun p=>(p.1,J.ev p.2)):=by
   grind [cJ,bS]
  rw[this];cases aLt:aLg t (ayB (parts.toList.map (·.2)))with
  |false=>rw[aLt]at h;exact h
  |true=>
   rw[aLt]at h;have hn:J'.heap.length=J.heap.length:=hnw (by grind);rw[hn];exact h
 |load t x=>
  simp only[lK]at h ⊢;rw[hev x (by simp [bS])];split at h
  ·grind [aJd,aHz]
  all_goals grind
 |store t x y=>
  simp only[lK]at h ⊢;rw[hev x (by simp [bS]),hev y (by simp [bS])];split at h
  all_goals grind
 |nilCheck x=>simp only[lK]at h ⊢;grind [bS]
 |binOp op t x y ty=>simp only[lK]at h ⊢;grind [bS]
 |unOp op t x=>simp only[lK]at h ⊢;grind [bS]
 |convert s d x=>simp only[lK]at h ⊢;grind [bS]
 |makeInterface t x=>simp only[lK]at h ⊢;grind [bS]
 |makeFunc fn f c=>
  simp only[lK]at h ⊢
  grind [cJ,bS]
 |makeSlice t x y=>
  simp only[lK]at h ⊢;rw[hev x (by simp [bS]),hev y (by simp [bS])];split at h
  all_goals grind
 |slice t x lo hi mx=>
  simp only[lK]at h ⊢;have hx:=hev x (by simp [bS]);have h1:∀d,Ck J' d lo=Ck J d lo:=fun d=>aiB fun y hy=>hev y (by simp [bS,hy])
  have h2:∀d,Ck J' d hi=Ck J d hi:=fun d=>aiB fun y hy=>hev y (by simp [bS,hy])
  have h3:∀d,Ck J' d mx=Ck J d mx:=fun d=>aiB fun y hy=>hev y (by simp [bS,hy])
  rw[hx];simp only[aoR,h1,h2,h3]at h ⊢;split at h
  ·split at h
   ·cases h
   ·rename_i hmx;rw[if_neg hmx];split at h
    all_goals grind
  ·exact h
 |fieldAddr t x i=>simp only[lK]at h ⊢;grind [bS]
 |field t x i=>simp only[lK]at h ⊢;grind [bS]
 |indexAddr t x i=>
  simp only[lK]at h ⊢;rw[hev x (by simp [bS]),hev i (by simp [bS])];split at h
  ·split at h
   all_goals grind
  ·exact h
 |index t x i=>simp only[lK]at h ⊢;grind [bS]
 |extract x i=>simp only[lK]at h ⊢;grind [bS]
 |call c=>
  obtain⟨cl,args,ts⟩:=c;cases cl with
  |builtin b=>
   simp only[lK]at h ⊢;have e1:args.toList.map J'.ev=args.toList.map J.ev:=cJ fun x hx=>hev x (ao1 (by simpa using hx))
   rw[e1];revert h;generalize args.toList.map J.ev=xs;generalize ts.toList=tl;intro h;unfold Qo at h ⊢;split at h
   ·rename_i t x;unfold ayA at h ⊢
    grind
   ·rename_i t u x y;split at h
    ·rename_i et sz by' ht hu;split at h
     ·split at h
      ·rename_i hc;rw[if_pos hc];by_cases hy:∃u,y=.str u
       ·obtain⟨u,rfl⟩:=hy;simp only[WA]at h ⊢;split at h
        ·unfold alr at h ⊢
         grind
        ·cases h
       rw[asn hy]at h ⊢;unfold Wz at h ⊢;split at h
       ·cases h
       ·rename_i rd ys axd
        have ao2:∀l∈rd,l∈e.rd:=by
         grind
        have aPA:aeO J' sz y=some (rd,ys):=by
         unfold aeO at axd ⊢;split at axd
         all_goals grind
        rw[aPA];simp only;split at h
        all_goals grind
      ·cases h
     ·cases h
    ·cases h
   all_goals grind
  |value f=>cases h
  |invoke r m=>cases h
 |makeMap t r=>
  cases r with
  |some r=>cases h
  |none=>cases h;simp only[lK];rw[hnw (by simp)]
 |typeAssert x u t ok=>
  cases ok with
  |false=>cases h
  |true=>simp only[lK]at h ⊢;grind [bS]
 |lookup t x k ok=>
  cases ok with
  |true=>
   simp only[lK]at h ⊢;rw[hev x (by simp [bS]),hev k (by simp [bS])];split at h
   ·rename_i z l s ht Ea YG;unfold aq5 at h ⊢;split at h
    ·rename_i es hl;split at h
     ·rename_i hs;cases h;rw[hrd l (by cases zy s es<;>simp [ayC]),hl];simp [hs]
     ·cases h
    ·cases h
   ·cases h
  |false=>
   simp only[lK]at h ⊢;rw[hev x (by simp [bS]),hev k (by simp [bS])];split at h
   ·rename_i z l s ht Ea YG;unfold als at h ⊢
    grind
   ·cases h
 |range t x=>
  simp only[lK]at h ⊢
  grind [bS]
 |next x st=>
  cases st with
  |false=>cases h
  |true=>
   simp only[lK]at h ⊢;rw[hev x (by simp [bS])];split at h
   ·rename_i l hv;unfold alt at h ⊢
    grind
   ·cases h
 |mapUpdate t x k y=>
  simp only[lK]at h ⊢;rw[hev x (by simp [bS]),hev k (by simp [bS]),hev y (by simp [bS])];split at h
  ·rename_i z l s ht Ea YG;unfold CS at h ⊢
   grind
  ·cases h
 |insert t x k y=>
  simp only[lK]at h ⊢;rw[hev x (by simp [bS]),hev k (by simp [bS]),hev y (by simp [bS])];split at h
  ·rename_i z l s ht Ea YG;unfold CS at h ⊢
   grind
  ·cases h
 |_=>cases h
end loc
def Bk(o:aTv):List Nat:=(o.after.toList.filter (Region.binds .any)).map (·.on)
def azJ:List aTv->List Nat->List Nat
 |[],lV=>lV
 |o::os,lV=>azJ os (lV++[(Bk o).foldl (fun s d=>s|||2 ^ d|||lV.getD d 0) 0])
def qb(kH:Array aTv)(i j:Nat):Bool:=((azJ kH.toList []).getD j 0).testBit i
def CV:Op->Bool
 |.call {callee:=.builtin _,..}=>false
 |.call _=>true
 |_=>false
def Ll (kH:Array aTv):Bool:=
 Region.noSelect kH&&
 (let r:=azJ kH.toList []
  (ck kH.size).all fun j=>match kH[j]? with
   |none=>true
   |some oj=>(Bk oj).all (· <j)&&(ck j).all fun i=>match kH[i]? with
    |none=>true
    |some oi=>(r.getD j 0).testBit i||(oi.apart kH oj&& !(CV oi.op&&CV oj.op)))
structure Tr where
 j:Nat
 n:Nat
 e:wq
variable {tr:List Tr}
def LK(a b:List Nat):Bool:=a.all fun x=> !b.contains x
def CW(t:Tr)(e:wq):Bool:=
 LK (t.e.up.map (·.1)) (e.rd++e.up.map (·.1))&&LK (e.up.map (·.1)) t.e.rd&&
 (t.e.nw.isEmpty||(e.nw.isEmpty&&(e.rd++e.up.map (·.1)).all fun l=>decide (l<t.n)))&&
 ((!t.e.whole||(e.up.isEmpty&&e.nw.isEmpty))&&(!e.whole||(t.e.up.isEmpty&&t.e.nw.isEmpty)))
def ao3:Op->Bool
 |.move _|.assign _|.pick _ _ _|.load _ _|.store _ _ _|.binOp _ _ _ _ _|.unOp _ _ _|.fieldAddr _ _ _|.field _ _ _|.indexAddr _ _ _|.index _ _ _|.extract _ _=>true
 |_=>false
def aeS(o:aTv):Bool:=(match o.op with|.alloc t=> !aoO t|_=>false)&&o.guard.isNone
def aiC (kH:Array aTv) (i j:Nat):Bool:=
 match kH[i]?,kH[j]? with
 |some oi,some oj=>aeS oi&&aeS oj&&(Bk oi).isEmpty&&(Bk oj).isEmpty&&decide (i<j)&&
  (ck kH.size).all fun k=>k==i||k==j||(match kH[k]? with
    |none=>true
    |some o=>ao3 o.op&&(qb kH i k==qb kH j k))
 |_,_=>false
def as7(kH:Array aTv)(i j:Nat):Bool:=qb kH i j||aiC kH i j
def Eo(kH:Array aTv)(tr:List Tr)(j:Nat)(e:wq):Bool:=tr.all fun t=>CW t e||as7 kH t.j j
def Jj(P:aTz)(f:aTy)(args:List AV)(J:jT)(e:wq):Prop:=
 ((∀l∈e.rd,l<J.heap.length)/\∀l∈e.up.map (·.1),l∈e.rd)/\
 ∀J':jT,(∀l∈e.rd,J'.heap[l]? =J.heap[l]?)->(e.nw≠[]->J'.heap.length=J.heap.length)->(e.whole=true->J'.heap=J.heap)->Bt P f args J' (fun o H'=>o=.ret e.val/\H'=nu J'.heap e.up++e.nw)
def Jj.move{e:wq}(h:Jj P f args J e)(h1:∀l∈e.rd,J'.heap[l]? =J.heap[l]?)(h2:e.nw≠[]->J'.heap.length=J.heap.length)(h3:e.whole=true->J'.heap=J.heap):Jj P f args J' e:=by
 refine⟨⟨fun l hl=>?_,h.1.2⟩,fun J2 k1 k2 k3=>h.2 J2 (fun l hl=>(k1 l hl).trans (h1 l hl)) (fun hn=>(k2 hn).trans (h2 hn)) (fun hw=>(k3 hw).trans (h3 hw))⟩;have rQ:=h.1.1 l hl
 grind
def yB(P:aTz)(kH:Array aTv)(o:aTv)(J:jT)(S:wq->Prop):Prop:=
 (qG kH o J=some false/\∀e,S e↔e={val:=.sX undef})\/
 (qG kH o J=some true/\nV J o.op=none/\∃e,lK P J o.op=some e/\e.pre/\∀e',S e'↔e'=e)\/
 (qG kH o J=some true/\∃f args V,nV J o.op=some (f,args)/\JE P f args V/\(∃r,V r)/\∀e,S e↔ ∃r,V r/\e={val:=r})\/
 (qG kH o J=some true/\∃f args e,nV J o.op=some (f,args)/\Jj P f args J e/\∀e',S e'↔e'=e)
def alV(P:aTz)(kH:Array aTv)(K:jT->Prop):List Nat->List Tr->jT->Prop
 |[],_,J=>K J
 |j::rest,tr,J=>∃o S,kH[j]? =some o/\yB P kH o J S/\∀e,S e->Eo kH tr j e=true/\alV P kH K rest (tr++[⟨j,J.heap.length,e⟩]) (J.app o.dst e)
section
variable {K:jT->Prop}
theorem aBV:∀{R:List Nat}{tr tr':List Tr}{J:jT},(∀t∈tr',t∈tr)->alV P kH K R tr J->alV P kH K R tr' J
 |[],_,_,_,_,h=>h
 |j::rest,tr,tr',J,hs,⟨o,S,ho,hst,h⟩=>by
  refine⟨o,S,ho,hst,fun e he=>?_⟩;obtain⟨hc,hr⟩:=h e he;refine⟨?_,aBV ?_ hr⟩
  all_goals grind [Eo]
def yB.aJe(h:yB P kH o J S):∃e,S e:=by
 rcases h with⟨_,h⟩|⟨_,_,e,_,_,h⟩|⟨_,f,args,V,_,_,⟨r,hr⟩,h⟩|⟨_,f,args,e,_,_,h⟩
 ·exact⟨_,(h _).2 rfl⟩
 ·exact⟨e,(h e).2 rfl⟩
 ·exact⟨_,(h _).2 ⟨r,hr,rfl⟩⟩
 ·exact⟨e,(h e).2 rfl⟩
def yB.det(h:yB P kH o J S)(hc:CV o.op=false):∃e,∀e',S e'↔e'=e:=by
 rcases h with⟨_,h⟩|⟨_,_,e,_,_,h⟩|⟨_,f,args,V,h1,_,_,h⟩|⟨_,f,args,e,_,_,h⟩
 ·exact⟨_,h⟩
 ·exact⟨e,h⟩
 rotate_left
 ·exact⟨e,h⟩
 ·exfalso;unfold nV at h1
  grind [CV]
def yB.eq {S':wq->Prop}(h:yB P kH o J S)(h':yB P kH o J S')(hc:CV o.op=false):∀e,S e↔S' e:=by
 have nc:∀{f args},nV J o.op≠some (f,args):=by
  intro f args h1;unfold nV at h1
  grind [CV]
 rcases h with⟨hw,h⟩|⟨hw,_,e,he,_,h⟩|⟨_,f,args,V,h1,_⟩|⟨_,f,args,_,h1,_⟩
 ·rcases h' with⟨_,h'⟩|⟨hw',_⟩|⟨_,f,args,V,h1,_⟩|⟨_,f,args,_,h1,_⟩
  all_goals grind
 ·rcases h' with⟨hw',_⟩|⟨_,_,e2,he2,_,h'⟩|⟨_,f,args,V,h1,_⟩|⟨_,f,args,_,h1,_⟩
  all_goals grind
 all_goals grind
def Q2(h:∀j b d,o.guard=some (j,b)->(kH[j]?).bind (·.dst)=some d->J'.kf[d]? =J.kf[d]?):qG kH o J'=qG kH o J:=by
 grind [qG]
theorem MS{o:Op}(h:∀x∈o.operands,J'.ev x=J.ev x):nV J' o=nV J o:=by
 unfold nV;split
 all_goals grind [bS,Call.operands,cJ]
def yB.local(h:yB P kH o J S)(hev:∀x∈o.op.operands,J'.ev x=J.ev x)(hw:qG kH o J'=qG kH o J)
 (hh:∀e,S e->((∀l∈e.rd,J'.heap[l]? =J.heap[l]?)/\(e.nw≠[]->J'.heap.length=J.heap.length))/\(e.whole=true->J'.heap=J.heap)):yB P kH o J' S:=by
 rcases h with⟨h1,h⟩|⟨h1,h2,e,he,hp,h⟩|⟨h1,f,args,V,h2,h3,h4,h⟩|⟨h1,f,args,e,h2,h3,h⟩
 ·exact .inl ⟨by rw[hw];exact h1,h⟩
 ·refine .inr (.inl ⟨by rw[hw];exact h1,by rw[MS hev];exact h2,e,?_,hp,h⟩)
  grind [aBU]
 ·exact .inr (.inr (.inl ⟨by rw[hw];exact h1,f,args,V,by rw[MS hev];exact h2,h3,h4,h⟩))
 ·obtain⟨⟨a,b⟩,c⟩:=hh e ((h e).2 rfl);exact .inr (.inr (.inr ⟨by rw[hw];exact h1,f,args,e,by rw[MS hev];exact h2,h3.move a b c,h⟩))
theorem vg:∀(ups:List (Nat×j6))(H:List j6),(nu H ups).length=H.length
 |[],_=>rfl
 |(l,x)::r,H=>by simp [nu,vg r]
theorem ao4:∀(ups:List (Nat×j6))(H:List j6)(l:Nat),l ∉ ups.map (·.1)->(nu H ups)[l]? =H[l]?
 |[],_,_,_=>rfl
 |(k,x)::r,H,l,h=>by
  simp only[dJ,cx,not_or]at h;rw[nu,ao4 r _ l h.2,dj (fun e=>h.1 e.symm)]
theorem ao5{e:wq}(h1:l ∉ e.up.map (·.1))(h2:l<J.heap.length):(J.app dst e).heap[l]? =J.heap[l]? :=by
 have:(J.app dst e).heap=nu J.heap e.up++e.nw:=rfl
 grind [vg,ao4]
theorem aEx{e:wq}{x:aTB}(h:∀d,dst=some d->x≠ .tmp d):(J.app dst e).ev x=J.ev x:=by
 cases x with
 |tmp t=>
  cases dst with
  |none=>rfl
  |some d=>
   grind [jT.ev,jT.app,jT.put]
 |const v=>rfl
 |global g=>rfl
 |func f=>rfl
theorem are{e:wq}{t:Nat}(h:∀d,dst=some d->t≠d):(J.app dst e).kf[t]? =J.kf[t]? :=by
 cases dst with
 |none=>rfl
 |some d=>
  grind [jT.app,jT.put]
def aJf {o:Op} {e:wq} (h:lK P J o=some e):(∀l∈e.rd,l<J.heap.length)/\ ∀l∈e.up.map (·.1),l<J.heap.length:=by
 have lt:∀{l:Nat}{x:j6},J.heap[l]? =some x->l<J.heap.length:=fun h=>(bV.1 h).1
 cases o with
 |load t x=>
  simp only[lK]at h;split at h
  ·split at h
   ·rename_i hl;split at h
    ·obtain⟨_,h2,h3⟩:=aJd h
     grind
    ·cases h
   ·cases h
  ·grind
  ·grind
  ·unfold auJ at h
   grind [cj]
  ·cases h
 |store t x y=>
  simp only[lK]at h
  grind
 |indexAddr t x i=>
  simp only[lK]at h;split at h
  ·grind
  grind [cj]
 |slice t x lo hi mx=>
  simp only[lK]at h;split at h
  ·split at h
   ·cases h
   ·unfold aoR at h
    grind
  grind
 |call c=>
  obtain⟨cl,args,ts⟩:=c;cases cl with
  |builtin b=>
   simp only[lK]at h;unfold Qo at h;split at h
   ·unfold ayA at h
    grind
   ·split at h
    ·split at h
     ·split at h
      ·unfold WA at h;split at h
       ·split at h
        ·unfold alr at h
         grind
        ·cases h
       unfold Wz at h;split at h
       ·cases h
       ·rename_i rd ys axd
        have hrd:∀l∈rd,l<J.heap.length:=by
         unfold aeO at axd
         grind
        grind
      ·cases h
     ·cases h
    ·cases h
   all_goals grind
  |value f=>cases h
  |invoke r m=>cases h
 |move x=>cases h;simp
 |assign x=>cases h;simp
 |makeFunc fn f c=>cases h;simp
 |pick c x y=>simp only[lK]at h;split at h<;>cases h;simp
 |alloc t=>simp only[lK]at h;split at h<;>cases h;simp [aBG]
 |box t x=>simp only[lK]at h;split at h<;>cases h;simp [aBG]
 |build t parts=>
  simp only[lK]at h
  grind
 |buildSlice t len parts=>
  simp only[lK]at h
  grind
 |nilCheck x=>simp only[lK]at h;split at h<;>cases h<;>simp
 |binOp op t x y ty=>
  simp only[lK]at h;split at h
  ·cases h;simp
  ·unfold ayz anL at h;split at h
   ·grind
   unfold aq4 at h
   grind
 |unOp op t x=>simp only[lK]at h;split at h<;>cases h<;>simp
 |convert s d x=>
  simp only[lK]at h
  grind
 |makeInterface t x=>simp only[lK]at h;split at h<;>cases h;simp
 |makeSlice t x y=>
  simp only[lK]at h
  grind
 |fieldAddr t x i=>simp only[lK]at h;split at h<;>cases h<;>simp
 |field t x i=>
  simp only[lK]at h
  grind
 |index t x i=>
  simp only[lK]at h
  grind
 |extract x i=>
  simp only[lK]at h
  grind
 |makeMap t r=>
  cases r with
  |some r=>cases h
  |none=>cases h;simp
 |typeAssert x u t ok=>
  cases ok with
  |false=>cases h
  |true=>
   simp only[lK]at h;unfold azC at h
   grind
 |lookup t x k ok=>
  cases ok with
  |true=>
   simp only[lK]at h;split at h
   ·unfold aq5 at h;split at h
    ·rename_i hl;split at h
     ·cases h;have:=lt hl;unfold ayC;split<;>simp [this]
     ·cases h
    ·cases h
   ·cases h
  |false=>
   simp only[lK]at h;split at h
   ·unfold als at h
    grind
   ·cases h
 |range t x=>simp only[lK]at h;split at h<;>cases h;simp
 |next x st=>
  cases st with
  |false=>cases h
  |true=>
   simp only[lK]at h;split at h
   ·unfold alt at h
    grind
   ·cases h
 |mapUpdate t x k y=>
  simp only[lK]at h;split at h
  ·unfold CS at h
   grind
  ·cases h
 |insert t x k y=>
  simp only[lK]at h;split at h
  ·unfold CS at h
   grind
  ·cases h
 |_=>cases h
end
section
variable {K:jT->Prop}
theorem agC:∀(ups:List (Nat×j6))(H N:List j6),(∀l∈ups.map (·.1),l<H.length)->nu (H++N) ups=nu H ups++N
 |[],_,_,_=>rfl
 |(l,x)::r,H,N,h=>by
  simp only[nu];rw[List.set_append_left _ _ (h l (by simp))];exact agC r _ N (fun k hk=>by grind)
theorem ao6:∀(ups:List (Nat×j6))(H:List j6)(l:Nat)(x:j6),l ∉ ups.map (·.1)->nu (H.set l x) ups=(nu H ups).set l x
 |[],_,_,_,_=>rfl
 |(k,y)::r,H,l,x,h=>by
  simp only[dJ,cx,not_or]at h;simp only[nu];rw[cZ _ _ h.1,ao6 r _ l x h.2]
theorem amI:∀(u v:List (Nat×j6))(H:List j6),(∀l∈u.map (·.1),l ∉ v.map (·.1))->nu (nu H u) v=nu (nu H v) u
 |[],_,_,_=>rfl
 |(l,x)::r,v,H,h=>by
  simp only[nu];rw[amI r v _ (fun k hk=>h k (by simp at hk ⊢;exact .inr hk)),ao6 v H l x (h l (by simp))]
theorem WD{a b:List Nat}(h:LK a b=true):∀l∈a,l ∉ b:=by
 grind [LK]
def aBW {d':Option Tmp}{e e':wq}(hd: ∀x,d=some x->d'≠some x)(hi:CW ⟨j,J.heap.length,e⟩ e'=true)
 (h1:∀l∈e.up.map (·.1),l<J.heap.length) (h2:∀l∈e'.up.map (·.1),l<(J.app d e).heap.length):(J.app d e).app d' e'=(J.app d' e').app d e:=by
 unfold CW at hi;simp only[cg,Bool.or_eq_true]at hi;obtain⟨⟨⟨i1,i2⟩,i3⟩,_⟩:=hi;have dis:∀l∈e.up.map (·.1),l ∉ e'.up.map (·.1):=fun l hl hl'=>WD i1 l hl (cw.2 (.inr hl'))
 have h2':∀l∈e'.up.map (·.1),l<J.heap.length:=by
  grind [jT.app,vg]
 have aNV:((J.app d e).app d' e').kf=((J.app d' e').app d e).kf:=by
  cases d with
  |none=>cases d'<;>rfl
  |some x=>cases d' with
   |none=>rfl
   |some y=>
    grind [jT.app,jT.put,cZ]
 have asP:((J.app d e).app d' e').heap=((J.app d' e').app d e).heap:=by
  grind [jT.app,agC,vg,amI]
 have ext:∀(s t:jT),s.kf=t.kf->s.heap=t.heap->s.low=t.low->s.df=t.df->s=t:=by
  intro s t h h' h'' h3;cases s;cases t;simp_all
 refine ext _ _ aNV asP ?_ ?_<;>cases d<;>cases d'<;>rfl
def yB.lt(h:yB P kH o J S){e:wq}(he:S e):(∀l∈e.rd,l<J.heap.length)/\∀l∈e.up.map (·.1),l<J.heap.length:=by
 rcases h with⟨_,h⟩|⟨_,_,e',he',_,h⟩|⟨_,f,args,V,_,_,_,h⟩|⟨_,f,args,e',_,hl,h⟩
 ·rw[(h e).1 he];simp
 ·rw[(h e).1 he];exact aJf he'
 ·grind
 ·rw[(h e).1 he];exact⟨hl.1.1,fun l hm=>hl.1.1 l (hl.1.2 l hm)⟩
theorem Q3{d:Tmp}(h:d ∉ o.looksAt kH):∀x∈o.op.operands,x≠ .tmp d:=by
 intro x hx e;subst e;apply h;unfold Oper.looksAt;refine cw.2 (.inl ?_);simp only[List.mem_filterMap];exact⟨.tmp d,by simpa using hx,rfl⟩
theorem Zf{d:Tmp}(h:d ∉ o.looksAt kH){k:Tmp}(hg:o.guard=some (j,b))(hk:(kH[j]?).bind (·.dst)=some k):k≠d:=by
 grind [Oper.looksAt]
def yB.auT{er:wq}(h:yB P kH oi (J.app or'.dst er) S)(hap:∀d,or'.dst=some d->d ∉ oi.looksAt kH)
 (hi:∀e,S e->CW ⟨j,J.heap.length,er⟩ e=true):yB P kH oi J S:=by
 refine h.local (fun x hx=>?_) (Q2 fun k b d hg hd=>?_) (fun e he=>?_)
 ·grind [aEx,Q3]
 ·grind [are,Zf]
 ·have rQ:=h.lt he
  grind [CW,jT.app,nu,vg,ao5,WD]
def yB.fwd{ei:wq}(h:yB P kH or' J S)(hap:∀d,oi.dst=some d->d ∉ or'.looksAt kH)
 (hi:∀e,S e->CW ⟨j,J.heap.length,e⟩ ei=true):yB P kH or' (J.app oi.dst ei) S:=by
 refine h.local (fun x hx=>?_) (Q2 fun k b d hg hd=>?_) (fun e he=>?_)
 ·grind [aEx,Q3]
 ·grind [are,Zf]
 ·have rQ:=h.lt he
  grind [CW,jT.app,nu,ao5,WD,vg]
def Hf(h:Ll kH=true):Region.noSelect kH=true/\∀(j:Nat)(oj:aTv),kH[j]? =some oj->(∀d∈Bk oj,d<j)/\
 ∀(i:Nat)(oi:aTv),i<j->kH[i]? =some oi->qb kH i j=false->oi.apart kH oj=true/\ ¬ (CV oi.op=true/\CV oj.op=true):=by
 grind [Ll,qb]
theorem aHA {n':Nat}{e e':wq}(h:n<=n')(hi:CW ⟨j,n,e⟩ e'=true):CW ⟨j,n',e⟩ e'=true:=by
 grind [CW]
def auU:∀{R:List Nat}{tr tr':List Tr}{J:jT},(∀t'∈tr',∃t∈tr,t.j=t'.j/\t.e=t'.e/\t.n<=t'.n)->alV P kH K R tr J->alV P kH K R tr' J
 |[],_,_,_,_,h=>h
 |j::rest,tr,tr',J,hs,⟨o,S,ho,hst,h⟩=>by
  refine⟨o,S,ho,hst,fun e he=>?_⟩;obtain⟨hc,hr⟩:=h e he;refine⟨?_,auU ?_ hr⟩
  ·unfold Eo at*;rw[List.all_eq_true]at*;intro t' ht';obtain⟨t,ht,h1,h2,h3⟩:=hs t' ht';have:=hc t ht;simp only[Bool.or_eq_true]at*;rw[<-h1];refine this.imp (fun hi=>?_) id;obtain⟨a,b,c⟩:=t;obtain⟨a',b',c'⟩:=t'
   grind [aHA]
  grind
def aHB(h:as7 kH i j=false):qb kH i j=false:=by
 grind [as7]
def aBX(aSI:Ll kH=true){i:Nat}: ∀{R:List Nat}{tr:List Tr}{J:jT},alV P kH K R tr J->i∈R->R.Pairwise (· < ·)->(∀r∈R,r<i->as7 kH r i=false)->
 ∃o S,kH[i]? =some o/\yB P kH o J S/\∀e,S e->Eo kH tr i e=true/\alV P kH K (R.erase i) tr (J.app o.dst e)
 |[],_,_,_,hi,_,_=>by simp at hi
 |r::R,tr,J,⟨or',Sr,hor,hst,h⟩,hi,hpw,aBY=>by
  by_cases e:r=i
  ·grind [aBV]
  ·have hiR:i∈R:=by
    grind
   rw[cK]at hpw;have hri:r<i:=hpw.1 i hiR;have aPB:as7 kH r i=false:=aBY r (by simp) hri;have ih:∀er,Sr er->_:=fun er her=>aBX aSI (h er her).2 hiR hpw.2 (fun q hq rQ=>aBY q (by simp [hq]) rQ)
   obtain⟨er0,aRt⟩:=hst.aJe;obtain⟨oi,S0,WE,aRu,h0⟩:=ih er0 aRt;obtain⟨_,acj⟩:=Hf aSI;obtain⟨auV,aRv⟩:=(acj i oi WE).2 r or' hri hor (aHB aPB);obtain⟨a1,a2,a3⟩:=cU auV
   have aJg:∀{er:wq}{S:wq->Prop},(∀e,S e->Eo kH (tr++[⟨r,J.heap.length,er⟩]) i e=true/\alV P kH K (R.erase i) (tr++[⟨r,J.heap.length,er⟩]) ((J.app or'.dst er).app oi.dst e))->
    ∀e,S e->CW ⟨r,J.heap.length,er⟩ e=true:=by
    grind [Eo]
   have aiD:yB P kH oi J S0:=aRu.auT (j:=r) a1 (aJg h0);refine⟨oi,S0,WE,aiD,fun ei hei=>?_⟩
   have same:∀er,Sr er->Eo kH (tr++[⟨r,J.heap.length,er⟩]) i ei=true/\alV P kH K (R.erase i) (tr++[⟨r,J.heap.length,er⟩]) ((J.app or'.dst er).app oi.dst ei):=by
    intro er her;obtain⟨oi',S',aPC,aRw,h'⟩:=ih er her;rw[WE]at aPC;cases aPC;by_cases hc:CV oi.op=true
    ·
     have hcr:CV or'.op=false:=by
      grind
     obtain⟨ex,hex⟩:=hst.det hcr
     grind
    ·have hc':CV oi.op=false:=by simpa using hc
     have sC:yB P kH oi J S':=aRw.auT (j:=r) a1 (aJg h');exact h' ei ((aiD.eq sC hc' ei).1 hei)
   have aRx:yB P kH or' (J.app oi.dst ei) Sr:=by
    refine hst.fwd (j:=r) a3 (fun er her=>?_)
    grind [Eo]
   refine⟨?_,?_⟩
   ·grind [Eo]
   ·have sB:(r::R).erase i=r::R.erase i:=dG (by simpa using e);rw[sB];refine⟨or',Sr,hor,aRx,fun er her=>⟨(h er her).1,?_⟩⟩;have hs:=same er her
    have hi':CW ⟨r,J.heap.length,er⟩ ei=true:=by
     grind [Eo]
    have aJh:=aBW (d:=or'.dst) (d':=oi.dst) a2 hi' (hst.lt her).2 (by
     intro l hl;have:=(aiD.lt hei).2 l hl
     grind [jT.app,vg])
    rw[<-aJh];refine auU ?_ hs.2;intro t' ht';rcases cw.1 ht' with ht'|ht'
    ·grind
    simp_all [jT.app,vg]
def ack{f:Nat->Nat}{r:Nat}:∀(ds:List Nat)(s:Nat),(ds.foldl (fun s d=>s|||2 ^ d|||f d) s).testBit r=true->s.testBit r=true\/∃d∈ds,d=r\/(f d).testBit r=true
 |[],s,h=>.inl h
 |d::ds,s,h=>by
  simp only[List.foldl_cons]at h;rcases ack ds _ h with h|⟨d',hd',h⟩
  all_goals grind
def asu{L:Nat->Prop}{all:List aTv}(aGD: ∀j o,all[j]? =some o->L j-> ∀d∈Bk o,L d): ∀(os:List aTv)(lV:List Nat),all.drop lV.length=os->
 (∀k o,all[k]? =some o->k<lV.length->(∀d∈Bk o,L d)->∀r,(lV.getD k 0).testBit r=true->L r)->(∀k o,all[k]? =some o->∀d∈Bk o,d<k)->
 ∀k o,all[k]? =some o->(∀d∈Bk o,L d)->∀r,((azJ os lV).getD k 0).testBit r=true->L r
 |[],lV,hd,h,_=>by
  intro k o hk Fh r hr;refine h k o hk ?_ Fh r hr;have h1:all.length<=lV.length:=by simpa using hd
  grind
 |o::os,lV,hd,h,rQ=>by
  refine asu aGD os _ ?_ ?_ rQ
  ·grind [dm]
  ·intro k o' hk hkl Fh r hr
   have ho:all[lV.length]? =some o:=by
    have:=congrArg (fun l:List aTv=>l[0]?) hd;simpa using this
   by_cases e:k<lV.length
   ·rw[cR,cn e,<-cR]at hr;exact h k o' hk e Fh r hr
   ·have e2:k=lV.length:=by simp at hkl;omega
    subst e2;rw[ho]at hk;cases hk;rw[cR,cz (bZ _)]at hr;simp only[Nat.sub_self,List.getElem?_cons_zero,db]at hr;rcases ack (f:=fun d=>lV.getD d 0) _ _ hr with h0|⟨d,hd',rfl|h1⟩
    ·simp at h0
    ·exact Fh d hd'
    ·have hdl:d<lV.length:=rQ _ _ ho d hd';have aPD:d<all.length:=by grind
     exact h d all[d] (bT aPD) hdl (aGD d _ (bT aPD) (Fh d hd')) r h1
end
theorem o9(m j:Nat):(b9 m false).getD j false=false:=by
 by_cases h:j<m<;>simp [Array.getD,h]
section region
variable {C:qC}
def Qr(S:nK C U J a w){E:wq->Prop}(ho:kH[i]? =some o)(h:yB C.P kH o J E){K:Act->aTA->Prop}{Q':Exit->Act->aTA->Prop}
 (hK:∀e U' v w',E e->nK C U' (J.app o.dst e) (a.put o.dst v) w'->K (a.put o.dst v) w'):wpOpIn (He ro) 0 C.P kH Q' i K a w:=by
 unfold wpOpIn;simp only[ho];rcases h with⟨hw,h⟩|⟨hw,_,e,he,hp,h⟩|⟨hw,f,args,V,hc,hf,_,h⟩|⟨hw,f,args,e,hc,hf,h⟩
 ·rw[Ag S hw];simp only[cV,if_false];refine⟨fun _ _=>trivial,hK _ U undef w ((h _).2 rfl) ?_⟩;rw[MQ];exact S.put o.dst rfl
 ·rw[Ag S hw];simp only[jN];obtain⟨n,v,w',U',hr,hn,S'⟩:=Ze S he hp;refine⟨fun _ _=>trivial,?_⟩
  grind [da,aBR,Oper.uponIn_value,Oper.uponIn_skip]
 ·rw[Ag S hw];simp only[jN];have xR:Bt C.P f args J (fun o' H'=>∃r,V r/\o'=.ret r/\H'=J.heap):=ao0 hf (fun r hr=>⟨r,hr,rfl,rfl⟩);obtain⟨vs,vI,hr⟩:=MR S hc xR.1;refine⟨fun _ _=>trivial,?_⟩;rw[da _ _ _ (Rp hc),vI,cW];refine⟨fun h=>by simp [He,cf]at h,LJ.2 ?_⟩;refine(xR.2 C U a w rfl S vs hr).mono fun en w' ⟨o',U',H',⟨r,hV,ho',hH⟩,S',uu⟩=>?_
  subst ho' hH;cases en with
  |returned v=>
   refine hK {val:=r} U' v w' ((h _).2 ⟨r,hV,rfl⟩) ?_;rw[MQ];exact S'.put o.dst uu
  |panicked chain=>exact uu.elim
  |outgrown=>exact uu.elim
 ·rw[Ag S hw];simp only[jN];have xR:=hf.2 J (fun _ _=>rfl) (fun _=>rfl) (fun _=>rfl);obtain⟨vs,vI,hr⟩:=MR S hc xR.1;refine⟨fun _ _=>trivial,?_⟩;rw[da _ _ _ (Rp hc),vI,cW];refine⟨fun h=>by simp [He,cf]at h,LJ.2 ?_⟩;refine(xR.2 C U a w rfl S vs hr).mono fun en w' ⟨o',U',H',⟨ho',hH⟩,S',uu⟩=>?_
  subst ho' hH;cases en with
  |returned v=>
   refine hK e U' v w' ((h _).2 rfl) ?_;have:=S'.put o.dst uu
   have e1:({J with heap:=nu J.heap e.up++e.nw}:jT).put o.dst e.val=J.app o.dst e:=by
    cases hd:o.dst<;>rfl
   rw[e1]at this;exact this
  |panicked chain=>exact uu.elim
  |outgrown=>exact uu.elim
end region
def KZ{E:D4}{b:Nat}{c:Array aTw}{t:TypeId}{fr:Nat×Nat}(hcb:E.w.heap[b]? =some (.cells c t fr)): ∀(cs:List AV)(off:Nat),(∀o,off<=o->o<off+cs.length-> ¬ E.mu b o)->
 kQ E cs ((c.toList.drop off).take cs.length)->(∀u∈(c.toList.drop off).take cs.length,u.oneCell'=true)->oU E b off cs
 |[],_,_,_,_=>trivial
 |x::cs,off,hm,r,h1=>by
  obtain⟨u,us,hu,r1,r2⟩:=r
  have hcu:c[off]? =some u:=by
   have:(c.toList.drop off)[0]? =some u:=by
    have:=congrArg (fun l:List aTw=>l[0]?) hu;simpa using this
   simpa using this
  have htl:us=(c.toList.drop (off+1)).take cs.length:=by
   have h1:=congrArg List.tail hu;simp only[List.tail_cons]at h1;rw[<-h1];cases hd:c.toList.drop off with
   |nil=>rw[hd]at hu;simp at hu
   |cons y ys=>
    grind [dm]
  refine⟨⟨hm off (bZ _) (by simp),u,by grind [World.cell?],h1 u (by rw[hu];simp),r1⟩,KZ hcb cs (off+1) (fun o h2 h3=>hm o (by omega) (by simp;omega)) (by rw[<-htl];exact r2) (fun v hv=>h1 v (by rw[hu,htl];simp [hv]))⟩
def acl{E:D4}{b sz:Nat}{c:Array aTw}{t:TypeId}{fr:Nat×Nat}(hcb:E.w.heap[b]? =some (.cells c t fr)):∀(rs:List (List AV))(off:Nat),(∀r∈rs,r.length=sz)->
 (∀o,off<=o->o<off+rs.length*sz-> ¬ E.mu b o)->kQ E rs.flatten ((c.toList.drop off).take (rs.length*sz))->(∀u∈(c.toList.drop off).take (rs.length*sz),u.oneCell'=true)->oo E sz b off rs
 |[],_,_,_,_,_=>trivial
 |r::rs,off,hl,hm,h,h1=>by
  have hr:r.length=sz:=hl r (by simp);simp only[cP]at h;have h3:=kQ.take r.length h;have h2:=kQ.drop r.length h;simp only[cM,cN,List.take_take,List.drop_take,List.drop_drop]at h3 h2
  have e1:min r.length ((r::rs).length*sz)=r.length:=by
   grind [Nat.add_mul]
  have e2:(r::rs).length*sz-r.length=rs.length*sz:=by grind [Nat.add_mul]
  have e3:(r::rs).length*sz=rs.length*sz+sz:=by grind
  rw[e1]at h3;rw[e2,hr]at h2;refine⟨hr,KZ hcb r off (fun o h4 h5=>hm o h4 (by omega)) h3 (fun u hu=>h1 u ?_),acl hcb rs (off+sz) (fun q hq=>hl q (by simp [hq])) (fun o h4 h5=>hm o (by omega) (by omega)) h2 (fun u hu=>h1 u ?_)⟩
  all_goals grind [List.drop_drop]
def rX(n:Nat):j6->Prop
 |.cells cs=>ua n cs
 |.lV _ _ rows=>alP n rows
 |.map es=>∀p∈es,p.1.nb n/\p.2.nb n
 |.loop _ kf _ _=>ua n kf
 |.iter _ _=>True
 |.alT _=>True
 |.vz=>True
def Pg(x y:AV):Prop:=∀(E:D4)(v:aTw),pz E x v->pz E y v
def qn(xs ys:List AV):Prop:=∀(E:D4)(vs:List aTw),kQ E xs vs->kQ E ys vs
def Uf(xs ys:List (List AV)):Prop:=xs.length=ys.length/\∀(E:D4)(sz b off:Nat),oo E sz b off xs->oo E sz b off ys
def arf(xs ys:List AV):Prop:=xs.length=ys.length/\∀(E:D4)(b off:Nat),oU E b off xs->oU E b off ys
theorem Pg.refl(x:AV):Pg x x:=fun _ _ h=>h
def Pg.any(x:AV):Pg x .any:=fun _ _ _=>trivial
theorem qn.refl(xs:List AV):qn xs xs:=fun _ _ h=>h
theorem qn.nil:qn [] []:=fun _ _ h=>h
theorem qn.cons(h:Pg x y)(hs:qn xs ys):qn (x::xs) (y::ys):=fun E _ ⟨u,us,hv,r1,r2⟩=>⟨u,us,hv,h E u r1,hs E us r2⟩
theorem arf.refl(xs:List AV):arf xs xs:=⟨rfl,fun _ _ _ h=>h⟩
theorem arf.nil:arf [] []:=arf.refl []
theorem arf.cons(h:Pg x y)(hs:arf xs ys):arf (x::xs) (y::ys):=
 ⟨by simp [hs.1],fun E b off ⟨⟨hm,u,hu,h1,r⟩,r2⟩=>⟨⟨hm,u,hu,h1,h E u r⟩,hs.2 E b _ r2⟩⟩
theorem Uf.refl(xs:List (List AV)):Uf xs xs:=⟨rfl,fun _ _ _ _ h=>h⟩
theorem Uf.nil:Uf [] []:=Uf.refl []
theorem Uf.cons{x y:List AV}{xs ys:List (List AV)}(h:arf x y)(hs:Uf xs ys):Uf (x::xs) (y::ys):=
 ⟨by simp [hs.1],fun E sz b off ⟨h1,r,r2⟩=>⟨by rw[<-h.1];exact h1,h.2 E b off r,hs.2 E sz b _ r2⟩⟩
def Pg.agg(h:qn xs ys):Pg (.agg xs) (.agg ys):=fun E _ ⟨vs,hv,r⟩=>⟨vs,hv,h E _ r⟩
def Pg.asN(h:qn xs ys):Pg (.asN xs) (.asN ys):=fun E _ ⟨vs,hv,r⟩=>⟨vs,hv,h E _ r⟩
def Pg.pp(h:arf xs ys):Pg (.pp xs) (.pp ys):=fun E _ ⟨b,off,hv,r⟩=>⟨b,off,hv,h.2 E b off r⟩
def Pg.func{fn:Fn}{f f' c c':List AV}(h:qn f f')(h':qn c c'):Pg (.func fn f c) (.func fn f' c'):=fun E _ ⟨a,b,hv,r1,r2⟩=>⟨a,b,hv,h E _ r1,h' E _ r2⟩
def Pg.kJ{t:Bool}{sz:Nat}{xs ys:List (List AV)}(h:Uf xs ys):Pg (.kJ t sz xs) (.kJ false sz ys):=fun E v ⟨base,cap,h1,h2,h3,h4,h5,h6⟩=>
 ⟨base,cap,by rw[<-h.1];exact h1,by rw[<-h.1];exact h2,(by intro h;cases h),h4,fun a ha sB=>h5 a ha (fun e=>sB (by have:=h.1;grind)),fun a ha=>h.2 E sz _ _ (h6 a ha)⟩
def Pg.empty(t:Bool)(sz aSH:Nat):Pg (.kJ t sz []) (.kJ false aSH []):=fun _ _ ⟨base,cap,h1,h2,_,h4,_,_⟩=>
 ⟨base,cap,h1,h2,(by intro h;cases h),h4,(by intro a _ h;exact absurd rfl h),fun _ _=>trivial⟩
def Co1(H:List j6)(n:Nat)(x y:AV):Prop:=
 (Pg x y/\y.nb n)\/∃l m sz rows,x=.lV l m/\H[l]? =some (.lV true sz rows)/\rows.length=m/\Pg (.kJ false sz rows) y/\y.nb n
def lQ(H:List j6)(n:Nat):List AV->List AV->Prop
 |[],ys=>ys=[]
 |x::xs,ys=>∃y zs,ys=y::zs/\Co1 H n x y/\lQ H n xs zs
def Co(H:List j6)(n:Nat)(x y:AV):Prop:=Co1 H n x y\/∃cs ds,x=.agg cs/\y=.agg ds/\lQ H n cs ds
def At(H:List j6)(n:Nat):List AV->List AV->Prop
 |[],ys=>ys=[]
 |x::xs,ys=>∃y zs,ys=y::zs/\Co H n x y/\At H n xs zs
def pE{n:Nat}:∀{p q:List AV},ua n p->ua n q->ua n (p++q)
 |[],_,_,hq=>hq
 |_::_,_,hp,hq=>⟨hp.1,pE hp.2 hq⟩
def LL{n:Nat}:∀{rows:List (List AV)},alP n rows->ua n rows.flatten
 |[],_=>trivial
 |_::_,h=>by simp only[cP];exact pE h.1 (LL h.2)
def K1:List (List AV)->List (List AV)->Prop
 |[],ys=>ys=[]
 |x::xs,ys=>∃y zs,ys=y::zs/\(x.length=y.length/\qn x y)/\K1 xs zs
theorem K1.length:∀{xs ys:List (List AV)},K1 xs ys->ys.length=xs.length
 |[],_,rfl=>rfl
 |_::_,_,⟨_,_,rfl,_,h⟩=>by simp [K1.length h]
theorem K1.sz{sz:Nat}:∀{xs ys:List (List AV)},K1 xs ys->(∀r∈xs,r.length=sz)->∀r∈ys,r.length=sz
 |[],_,rfl,_=>by simp
 |x::_,_,⟨y,_,rfl,h1,h⟩,hl=>by
  intro r hr;simp only[cx]at hr;rcases hr with rfl|hr
  ·rw[<-h1.1];exact hl x (by simp)
  ·exact K1.sz h (fun q hq=>hl q (by simp [hq])) r hr
theorem K1.flat:∀{xs ys:List (List AV)}{vs:List aTw},K1 xs ys->kQ E xs.flatten vs->kQ E ys.flatten vs
 |[],_,_,rfl,r=>r
 |x::xs,_,vs,⟨y,zs,rfl,h1,h⟩,r=>by
  simp only[cP]at r ⊢;have h3:=kQ.take x.length r;have h2:=kQ.drop x.length r;simp only[cM,cN]at h3 h2;have:=kQ.append (h1.2 _ _ h3) (K1.flat h h2)
  rwa [List.take_append_drop]at this
def WF(H:List j6)(n:Nat)(x y:j6):Prop:=
 y=.vz\/(y=x/\rX n x)\/(∃cs ds,x=.cells cs/\y=.cells ds/\At H n cs ds)\/(∃tZ sz rows xQ,x=.lV tZ sz rows/\y=.lV tZ sz xQ/\K1 rows xQ/\alP n xQ)\/
  ∃k s s' st uD,x=.loop k s st uD/\y=.loop k s' st uD/\At H n s s'
def CoH(H:List j6)(n:Nat):List j6->List j6->Prop
 |_,[]=>True
 |[],_::_=>False
 |x::xs,y::ys=>WF H n x y/\CoH H n xs ys
def aEy(n:Nat)(df:List (aTy×List AV)):Prop:=∀p∈df,ua n p.2
def aiE:aEy n []:=fun _ h=>by cases h
def auW(J J':jT):Prop:=((J'.low=J.low/\J.low<=J'.heap.length)/\J'.df=J.df/\aEy J'.heap.length J.df)/\At J.heap J'.heap.length J.kf J'.kf/\CoH J.heap J'.heap.length J.heap J'.heap
def CoH.get:∀{xs ys:List j6}{l:Nat}{y:j6},CoH H n xs ys->ys[l]? =some y->∃x,xs[l]? =some x/\WF H n x y
 |_,[],_,_,_,h=>by simp at h
 |[],_::_,_,_,h,_=>h.elim
 |x::_,_::_,0,_,⟨h,_⟩,hy=>by simp at hy;subst hy;exact⟨x,by simp,h⟩
 |_::_,_::_,l+1,_,⟨_,h⟩,hy=>by
  simp at hy;obtain⟨x,hx,hc⟩:=CoH.get h hy;exact⟨x,by simpa using hx,hc⟩
section weak
variable {C:qC}
def At.rep(zz:∀x y v,Co H n x y->pz E x v->pz E' y v):∀{xs ys:List AV}{vs:List aTw},At H n xs ys->kQ E xs vs->kQ E' ys vs
 |[],_,_,rfl,r=>r
 |_::_,_,_,⟨y,zs,rfl,hc,hr⟩,⟨u,us,rfl,r1,r2⟩=>⟨u,us,rfl,zz _ y u hc r1,At.rep zz hr r2⟩
def lQ.rep(zz:∀x y v,Co1 H n x y->pz E x v->pz E' y v):∀{xs ys:List AV}{vs:List aTw},lQ H n xs ys->kQ E xs vs->kQ E' ys vs
 |[],_,_,rfl,r=>r
 |_::_,_,_,⟨y,zs,rfl,hc,hr⟩,⟨u,us,rfl,r1,r2⟩=>⟨u,us,rfl,zz _ y u hc r1,lQ.rep zz hr r2⟩
def Co.of1(zz:∀x y v,Co1 H n x y->pz E x v->pz E' y v)(x y:AV)(v:aTw)(h:Co H n x y)(r:pz E x v):pz E' y v:=by
 rcases h with h|⟨cs,ds,rfl,rfl,h⟩
 ·exact zz x y v h r
 ·obtain⟨vs,hv,rl⟩:=r;exact⟨vs,hv,lQ.rep zz h rl⟩
def Co.rep(S:nK C U J a w){v:aTw}(h:Co J.heap n x y)(r:pz (C.env U J.heap w) x v):pz (C.env U J.heap w) y v:=by
 refine Co.of1 ?_ x y v h r;intro x y v hc r;rcases hc with⟨ao2,hn⟩|⟨l,m,sz,rows,rfl,hl,hm,ao2,hn⟩
 ·exact ao2 _ _ r
 ·have hv:=Q1 S hl hm r;subst hv;exact ao2 _ _ (aix S hl)
def At.aRy(S:nK C U J a w){vs:List aTw}(h:At J.heap n xs ys)(r:kQ (C.env U J.heap w) xs vs):kQ (C.env U J.heap w) ys vs:=
 At.rep (fun _ _ _ h r=>Co.rep S h r) h r
def auW.sim(h:auW J J')(S:nK C U J a w):nK C U J' a w:=by
 obtain⟨⟨aSF,hdf,hdn⟩,hs,hh⟩:=h;have Ue:∀(l:Nat)(y:j6),J'.heap[l]? =some y->∃x,J.heap[l]? =some x/\WF J.heap J'.heap.length x y:=fun l y hy=>hh.get hy
 have ass:∀{x y:j6}{h:aTw}{b o:Nat},WF J.heap J'.heap.length x y->y.Bf h b o->x.Bf h b o:=by
  intro x y h b o hc hm;rcases hc with rfl|⟨rfl,_⟩|⟨cs,ds,rfl,rfl,_⟩|⟨tZ,sz,rows,xQ,rfl,rfl,_,_⟩|⟨lk,s1,s2,st,uD,rfl,rfl,_⟩
  ·simp [j6.Bf]at hm
  ·exact hm
  ·cases h with
   |pointer p=>cases p<;>exact hm
   |_=>exact hm
  ·cases h with
   |slice p _ _=>cases p<;>exact hm
   |_=>exact hm
  ·cases h with
   |func q _ _=>cases q<;>exact hm
   |_=>exact hm
 have FW:∀{x y:j6}{h:aTw}{b:Nat},WF J.heap J'.heap.length x y->y.block h b->x.block h b:=by
  intro x y h b hc hm;rcases hc with rfl|⟨rfl,_⟩|⟨cs,ds,rfl,rfl,_⟩|⟨tZ,sz,rows,xQ,rfl,rfl,_,_⟩|⟨lk,s1,s2,st,uD,rfl,rfl,_⟩
  ·simp [j6.block]at hm
  ·exact hm
  ·cases h with
   |pointer p=>cases p<;>exact hm
   |_=>exact hm
  ·cases h with
   |slice p _ _=>cases p<;>exact hm
   |_=>exact hm
  ·cases h with
   |func q _ _=>cases q<;>exact hm
   |_=>exact hm
 have Ph:∀b o,G9 U J'.heap b o->G9 U J.heap b o:=by
  rintro b o ⟨l,y,hy,hm⟩;obtain⟨x,hx,hc⟩:=Ue l y hy;exact⟨l,x,hx,ass hc hm⟩
 have le:(C.env U J.heap w).Le J'.heap.length (C.env U J'.heap w):=by
  refine⟨bZ _,fun l hl=>.inl ⟨rfl,?_⟩,fun b o u hm hc=>⟨fun h=>hm (h.imp (Ph b o) id),hc⟩,CQ _⟩;obtain⟨x,hx,hc⟩:=Ue l J'.heap[l] (bT hl);simp only[qC.env];rw[bT hl,hx];rcases hc with h|⟨h,_⟩|⟨cs,ds,rfl,h,_⟩|⟨tZ,sz,rows,xQ,rfl,h,hr,_⟩|⟨lk,s1,s2,st,uD,rfl,h,_⟩
  ·right;rw[h];rfl
  ·left;rw[h]
  ·left;rw[h];rfl
  ·left;rw[h];simp only[mT,hr.length]
  ·left;rw[h];rfl
 have zz:∀x y v,Co J.heap J'.heap.length x y->pz (C.env U J.heap w) x v->pz (C.env U J'.heap w) y v:=by
  refine Co.of1 ?_;intro x y v hc r;rcases hc with⟨ao2,hn⟩|⟨l,m,sz,rows,rfl,hl,hm,ao2,hn⟩
  ·exact pz.mono le _ _ hn (ao2 _ _ r)
  ·have hv:=Q1 S hl hm r;subst hv;exact pz.mono le _ _ hn (ao2 _ _ (aix S hl))
 have BY:tf C U J'.heap w J'.df a.defers:=by
  rw[hdf]
  exact S.defers.aBD (fun xs vs ⟨f,hf⟩ r=>kQ.mono le _ _ (hdn _ hf) r) (fun _ _ _=>rfl) (fun l x b hx hb=>by
   grind)
 refine {kf:=At.rep zz hs S.kf,defers:=BY,oB:=?_,apart:=?_,uf:=?_,size:=S.size,old:=S.old,n9:=S.n9,Cl:=?_,xf:=S.xf,rest:=S.rest,low:=⟨by rw[aSF.1];exact S.low.1,by rw[aSF.1];exact aSF.2⟩,mF:=?_}
 ·intro l y hy;obtain⟨x,hx,hc⟩:=Ue l y hy;have r:=S.oB l x hx;rcases hc with rfl|⟨rfl,hn⟩|⟨cs,ds,rfl,rfl,hcl⟩|⟨tZ,sz,rows,xQ,rfl,rfl,hr,hn⟩|⟨lk,s1,s2,st,uD,rfl,rfl,hcl⟩
  ·exact trivial
  ·cases y with
   |cells cs=>
    obtain⟨b,c,t,h1,h2,rl,h3⟩:=r;exact⟨b,c,t,h1,h2,kQ.mono le _ _ hn rl,h3⟩
   |lV tZ sz rows=>
    obtain⟨base,cap,h1,h2,h3,h4,h5⟩:=r;refine⟨base,cap,h1,h2,h3,h4,fun a0 ha hc=>?_⟩;obtain⟨h6,c,t,h7,h8,rl,h9⟩:=h5 a0 ha hc
    exact⟨h6,c,t,h7,h8,kQ.mono le _ _ (by
     clear rl h9 h8 h7 h6 hc ha h5 h4 h3 h2 h1;revert hn;simp only[rX];clear hy hx;induction rows with
     |nil=>intro _;trivial
     |cons r rs ih=>
      intro hn;simp only[cP]
      have:∀(p q:List AV),ua J'.heap.length p->ua J'.heap.length q->ua J'.heap.length (p++q):=by
       intro p q hp hq;induction p with
       |nil=>exact hq
       |cons z p ihp=>exact⟨hp.1,ihp hp.2⟩
      exact this r _ hn.1 (ih hn.2)) rl,h9⟩
   |map es=>
    obtain⟨r',en,cl,h1,h2,rp⟩:=r;exact⟨r',en,cl,h1,h2,td.mono le hn rp⟩
   |loop lk s1 st uD=>
    obtain⟨D,rec,h1,h2,h3,h4,rl⟩:=r;exact⟨D,rec,h1,h2,h3,h4,kQ.mono le _ _ hn rl⟩
   |iter s p=>exact r
   |alT s=>exact r
   |vz=>trivial
  ·obtain⟨b,c,t,h1,h2,rl,h3⟩:=r;exact⟨b,c,t,h1,h2,At.rep zz hcl rl,h3⟩
  ·obtain⟨base,cap,h1,h2,h3,h4,h5⟩:=r;have hlen:=hr.length;refine⟨base,cap,by rw[hlen];exact h1,by rw[hlen];exact h2,h3,hr.sz h4,fun a0 ha hc=>?_⟩;obtain⟨h6,c,t,h7,h8,rl,h9⟩:=h5 a0 ha hc;rw[hlen];exact⟨h6,c,t,h7,h8,kQ.mono le _ _ (LL hn) (hr.flat rl),h9⟩
  ·obtain⟨D,rec,h1,h2,h3,h4,rl⟩:=r;exact⟨D,rec,h1,h2,h3,h4,At.rep zz hcl rl⟩
 ·intro l l' x x' b hx Ea hb sC;obtain⟨y,hy,hc⟩:=Ue l x hx;obtain⟨y',hy',hc'⟩:=Ue l' x' Ea;exact S.apart l l' y y' b hy hy' (FW hc hb) (FW hc' sC)
 ·intro l x b o hx hb;obtain⟨y,hy,hc⟩:=Ue l x hx;exact S.uf l y b o hy (FW hc hb)
 ·intro l x b o hx hm hb;obtain⟨y,hy,hc⟩:=Ue l x hx;exact S.Cl l y b o hy (ass hc hm) hb
 ·intro l hl;have rQ:l<J'.heap.length:=by have:=S.low;omega
  obtain⟨x,hx,hc⟩:=Ue l J'.heap[l] (bT rQ);have hn:=S.mF l hl;rw[hx]at hn;rw[bT rQ]
  have aGE:mT (some J'.heap[l])=mT (some x)\/mT (some J'.heap[l])=none:=by
   rcases hc with h|⟨h,_⟩|⟨cs,ds,rfl,h,_⟩|⟨tZ,sz,rows,xQ,rfl,h,hr,_⟩|⟨lk,s1,s2,st,uD,rfl,h,_⟩
   ·right;rw[h];rfl
   ·left;rw[h]
   ·left;rw[h];rfl
   ·left;rw[h];simp only[mT,hr.length]
   ·left;rw[h];rfl
  grind
def auW.imp(h:auW J J'):LI J J':=fun _ U _ _ S=>⟨U,h.sim S⟩
def aBZ {s sz:Nat}{tZ:Bool}(h:J.kf[i]? =some (.kJ true s [])):LI J {J with kf:=J.kf.set i (.lV J.heap.length 0),heap:=J.heap++[.lV tZ sz []]}:=by
 intro C U a w S;obtain⟨v,hv,base,cap,rfl,_,hc,_⟩:=S.kf.get h;have Cm:cap=0:=hc rfl;subst Cm
 have S':=S.aeR (tZ:=tZ) (sz:=sz) (rows:=[]) (w':=w) (h':=.slice base 0 0) (bZ _) (fun _ _=>rfl) (fun _=>rfl) ⟨rfl,rfl⟩ (by
  intro b hb;cases base<;>simp [j6.block]at hb) (fun E' _ _=>⟨base,0,rfl,bZ _,fun _=>rfl,by simp,fun b _ h0=>absurd rfl h0⟩)
 refine⟨(fun k=>if k=J.heap.length then .slice base 0 0 else U k),?_⟩
 have:=S'.put (some i) (x:=.lV J.heap.length 0) (v:=.slice base 0 0) ⟨by simp [qC.env],⟨_,_,_,rfl⟩,fun k hk=>by
  grind [qC.env]⟩
 refine {this with kf:=?_,defers:=this.defers};have hs:=this.kf
 have ha:(a.put (some i) (.slice base 0 0)).tmps.toList=a.tmps.toList:=by
  simp only[Act.put,Array.toList_setIfInBounds];apply List.ext_getElem?
  grind
 rw[ha]at hs;exact hs
end weak
mutual
def frz(low:Nat)(H:List j6):AV->AV
 | .lV l n=>if l<low then .lV l n else match H[l]? with
   |some (.lV _ sz rows)=>if rows.length=n then .kJ false sz rows else .any
   |_=>.any
 |.own l i n o sz=>if l<low then .own l i n o sz else .any
 |.agg cs=>.agg (as8 low H cs)
 |.asN cs=>.asN (as8 low H cs)
 |.any=>.any
 |.bool b=>.bool b
 |.int k n=>.int k n
 |.str s=>.str s
 |.sX v=>.sX v
 |.kJ t sz rows=>.kJ t sz rows
 |.ptr l off=>.ptr l off
 |.map l=>.map l
 |.pp cs=>.pp cs
 |.func fn f c=>.func fn f c
 |.iface t x=>.iface t x
 |.sn t l=>.sn t l
def as8(low:Nat)(H:List j6):List AV->List AV
 |[]=>[]
 |x::xs=>frz low H x::as8 low H xs
end
section res
variable {C:qC}
def aB0(_S:nK C U J a w):(C.env U J.heap w).Le 0 (C.env U [] w):=by
 refine⟨dn _,fun l hl=>absurd hl (cc _),fun b o u hm hc=>⟨?_,hc⟩,CQ _⟩;simp only[qC.env]at hm ⊢;rintro(⟨l,x,hx,_⟩|h)
 all_goals grind
structure aJi(C:qC)(U:Nat->aTw)(J:jT)(w:aTA)(E':D4):Prop where
 le:(C.env U J.heap w).Le J.low E'
 w:E'.w=w
 free:∀(l:Nat)(x:j6)(b o:Nat),J.low<=l->J.heap[l]? =some x->x.block (U l) b-> ¬ E'.mu b o
def nK.aNw(S:nK C U J a w)(h0:J.low=0):aJi C U J w (C.env U [] w):=by
 refine⟨by rw[h0];exact aB0 S,rfl,fun l x b o _ hx hb=>?_⟩;simp only[qC.env];rintro(⟨l',y,hy,_⟩|hA)
 ·simp at hy
 ·exact S.uf l x b o hx hb hA
mutual
def arh(S:nK C U J a w){E':D4}(D:aJi C U J w E'):
 ∀(x:AV)(v:aTw),(frz J.low J.heap x).nb J.low->pz (C.env U J.heap w) x v->pz E' (frz J.low J.heap x) v
 | .lV l n,v,hn,r=>by
   simp only[frz]at hn ⊢;by_cases aSF:l<J.low
   ·rw[if_pos aSF];exact pz.mono D.le (.lV l n) v aSF r
   ·rw[if_neg aSF] at hn ⊢;split
    ·rename_i tZ sz rows hl;simp only[hl]at hn;split
     ·rename_i hlen;rw[if_pos hlen]at hn;have hv:=Q1 S hl hlen r;subst hv;obtain⟨base,cap,hh,h2,h3,h4,h5⟩:=S.oB l _ hl;refine⟨base,cap,hh,h2,(by intro h;cases h),h3,?_,?_⟩
      ·intro b hb sB;exact(h5 b hb (fun h0=>sB (cv (by omega)))).1
      ·intro b hb;by_cases hc:cap=0
       ·have:rows=[]:=cv (by omega);subst this;trivial
       ·obtain⟨hsp,c,t,hcb,hsz,rl,h1⟩:=h5 b hb hc;subst hb;refine acl (E:=E') (c:=c) (t:=t) (fr:=(0,0)) (by rw[D.w];exact hcb) rows b.off h4 ?_ (kQ.mono D.le _ _ (LL hn) rl) h1;intro o _ _;exact D.free l _ b.block o (by omega) hl (by rw[hh];exact⟨rfl,hc⟩)
     ·exact trivial
    ·exact trivial
 | .own l i n o sz,v,hn,r=>by
   simp only[frz]at hn ⊢;by_cases aSF:l<J.low
   ·rw[if_pos aSF];exact pz.mono D.le (.own l i n o sz) v aSF r
   ·rw[if_neg aSF];exact trivial
 |.agg cs,v,hn,⟨vs,hv,rl⟩=>⟨vs,hv,anN S D cs _ hn rl⟩
 |.asN cs,v,hn,⟨vs,hv,rl⟩=>⟨vs,hv,anN S D cs _ hn rl⟩
 |.any,_,_,_=>trivial
 |.bool _,_,_,r=>r
 |.int _ _,_,_,r=>r
 |.str _,_,_,r=>r
 |.sX _,_,_,r=>r
 |.kJ t sz rows,_,hn,r=>pz.mono D.le (.kJ t sz rows) _ hn r
 |.ptr l off,_,hn,r=>pz.mono D.le (.ptr l off) _ hn r
 |.map l,_,hn,r=>pz.mono D.le (.map l) _ hn r
 |.pp cs,_,hn,r=>pz.mono D.le (.pp cs) _ hn r
 |.func fn f c,_,hn,r=>pz.mono D.le (.func fn f c) _ hn r
 |.iface t x,_,hn,r=>pz.mono D.le (.iface t x) _ hn r
 |.sn t l,_,hn,r=>pz.mono D.le (.sn t l) _ hn r
def anN(S:nK C U J a w){E':D4}(D:aJi C U J w E'):
 ∀(xs:List AV)(vs:List aTw),ua J.low (as8 J.low J.heap xs)->kQ (C.env U J.heap w) xs vs->kQ E' (as8 J.low J.heap xs) vs
 |[],_,_,r=>r
 |x::xs,_,hn,⟨u,us,hv,r1,r2⟩=>⟨u,us,hv,arh S D x u hn.1 r1,anN S D xs us hn.2 r2⟩
end
mutual
theorem aHC(low:Nat)(H:List j6):∀x:AV,x.nb 0->frz low H x=x
 |.lV _ _,h=>absurd h (cc _)
 |.own _ _ _ _ _,h=>absurd h (cc _)
 |.agg cs,h=>by rw[frz,Lm low H cs h]
 |.asN cs,h=>by rw[frz,Lm low H cs h]
 |.any,_|.bool _,_|.int _ _,_|.str _,_|.sX _,_|.kJ _ _ _,_|.ptr _ _,_|.map _,_|.pp _,_|.func _ _ _,_|.iface _ _,_|.sn _ _,_=>by rw[frz]
theorem Lm(low:Nat)(H:List j6):∀xs:List AV,ua 0 xs->as8 low H xs=xs
 |[],_=>rfl
 |x::xs,h=>by rw[as8,aHC low H x h.1,Lm low H xs h.2]
end
end res
mutual
def AV.qo(Y:Nat->Nat):AV->AV
 |.agg cs=>.agg (sO Y cs)
 |.asN cs=>.asN (sO Y cs)
 |.pp cs=>.pp (sO Y cs)
 |.kJ t sz rows=>.kJ t sz (FX Y rows)
 |.lV l n=>.lV (Y l) n
 |.own l off len cap sz=>.own (Y l) off len cap sz
 |.ptr l off=>.ptr (Y l) off
 |.map l=>.map (Y l)
 |.sn t l=>.sn t (Y l)
 |.func fn f c=>.func fn (sO Y f) (sO Y c)
 |.iface t x=>.iface t (x.qo Y)
 |.any=>.any
 |.bool b=>.bool b
 |.int k n=>.int k n
 |.str s=>.str s
 |.sX v=>.sX v
def sO(Y:Nat->Nat):List AV->List AV
 |[]=>[]
 |c::cs=>c.qo Y::sO Y cs
def FX(Y:Nat->Nat):List (List AV)->List (List AV)
 |[]=>[]
 |r::rs=>sO Y r::FX Y rs
end
theorem Rq(Y:Nat->Nat):∀cs:List AV,(sO Y cs).length=cs.length
 |[]=>rfl
 |_::cs=>by simp [sO,Rq Y cs]
theorem vJ(Y:Nat->Nat):∀cs:List (List AV),(FX Y cs).length=cs.length
 |[]=>rfl
 |_::cs=>by simp [FX,vJ Y cs]
theorem aiF(Y:Nat->Nat):∀a b:List AV,sO Y (a++b)=sO Y a++sO Y b
 |[],_=>rfl
 |_::a,b=>by simp [sO,aiF Y a b]
theorem aeT(Y:Nat->Nat):∀rs:List (List AV),(FX Y rs).flatten=sO Y rs.flatten
 |[]=>rfl
 |r::rs=>by simp [FX,aiF,aeT Y rs]
mutual
theorem Qs(Y:Nat->Nat):∀x:AV,x.nb 0->x.qo Y=x
 |.lV _ _,h=>absurd h (cc _)
 |.own _ _ _ _ _,h=>absurd h (cc _)
 |.ptr _ _,h=>absurd h (cc _)
 |.map _,h=>absurd h (cc _)
 |.sn _ _,h=>absurd h (cc _)
 |.agg cs,h=>by rw[AV.qo,qI Y cs h]
 |.asN cs,h=>by rw[AV.qo,qI Y cs h]
 |.pp cs,h=>by rw[AV.qo,qI Y cs h]
 |.kJ _ _ rows,h=>by rw[AV.qo,uE Y rows h]
 |.func _ f c,h=>by rw[AV.qo,qI Y f h.1,qI Y c h.2]
 |.iface _ x,h=>by rw[AV.qo,Qs Y x h]
 |.any,_|.bool _,_|.int _ _,_|.str _,_|.sX _,_=>by rw[AV.qo]
theorem qI(Y:Nat->Nat):∀xs:List AV,ua 0 xs->sO Y xs=xs
 |[],_=>rfl
 |x::xs,h=>by rw[sO,Qs Y x h.1,qI Y xs h.2]
theorem uE(Y:Nat->Nat):∀xs:List (List AV),alP 0 xs->FX Y xs=xs
 |[],_=>rfl
 |x::xs,h=>by rw[FX,qI Y x h.1,uE Y xs h.2]
end
def j6.qo(Y:Nat->Nat):j6->j6
 |.cells cs=>.cells (sO Y cs)
 |.lV tZ sz rows=>.lV tZ sz (FX Y rows)
 |.map es=>.map (es.map fun p=>(p.1.qo Y,p.2.qo Y))
 |.loop k kf st uD=>.loop k (sO Y kf) st uD
 |.iter s p=>.iter s p
 |.alT s=>.alT s
 |.vz=>.vz
def vB.qo(Y:Nat->Nat):vB->vB
 |.ret r=>.ret (r.qo Y)
 |.panic x=>.panic (x.qo Y)
structure ao7(N:Nat)(Y:Nat->Nat)(E E':D4):Prop where
 n:∀l,l<N->Y l<E'.n
 mF:∀l,l<N->E'.U (Y l)=E.U l/\(E'.ln (Y l)=E.ln l\/E'.ln (Y l)=none)
 mem:∀b o u,¬ E.mu b o->E.w.cell? ⟨b,o,none⟩=some u-> ¬ E'.mu b o/\E'.w.cell? ⟨b,o,none⟩=some u
 ty:tyk E.w E'.w
section

mutual
theorem pz.qo(h:ao7 N Y E E'):∀(x:AV)(v:aTw),x.nb N->pz E x v->pz E' (x.qo Y) v
 |.any,_,_,_=>trivial
 |.bool _,_,_,r=>r
 |.int _ _,_,_,r=>r
 |.str _,_,_,r=>r
 |.sX _,_,_,r=>r
 |.agg cs,_,hb,⟨vs,hv,hr⟩=>⟨vs,hv,kQ.qo h cs _ hb hr⟩
 |.asN cs,_,hb,⟨vs,hv,hr⟩=>⟨vs,hv,kQ.qo h cs _ hb hr⟩
 | .kJ t sz rows,_,hb,⟨base,cap,h1,h2,h3,h4,h5,h6⟩=>
   ⟨base,cap,by rw[vJ];exact h1,by rw[vJ];exact h2,fun e=>by rw[vJ];exact h3 e,h4,fun a ha sB=>h5 a ha (fun e=>sB (by rw[e];rfl)),fun a ha=>oo.qo h rows _ hb (h6 a ha)⟩
 |.lV l n,v,hb,⟨_,hsl,r⟩=>⟨h.n l hb,hsl,fun k hk=>by
     rcases (h.mF l hb).2 with e|e
     ·rw[e]at hk;rw[(h.mF l hb).1];exact r k hk
     ·rw[e]at hk;cases hk⟩
 |.own l i n o sz,v,hb,⟨_,hsl,r⟩=>⟨h.n l hb,hsl,fun k hk=>by
     rcases (h.mF l hb).2 with e|e
     ·rw[e]at hk;rw[(h.mF l hb).1];exact r k hk
     ·rw[e]at hk;cases hk⟩
 |.ptr l off,v,hb,⟨_,b,hφ,hv⟩=>⟨h.n l hb,b,by rw[(h.mF l hb).1];exact hφ,hv⟩
 |.map l,v,hb,⟨_,hv,r,hφ⟩=>⟨h.n l hb,by rw[(h.mF l hb).1];exact hv,r,by rw[(h.mF l hb).1];exact hφ⟩
 |.pp cs,_,hb,⟨b,off,hv,r⟩=>⟨b,off,hv,oU.qo h cs _ hb r⟩
 |.func _ f c,_,hb,⟨f',c',hv,r1,r2⟩=>⟨f',c',hv,kQ.qo h f _ hb.1 r1,kQ.qo h c _ hb.2 r2⟩
 |.iface _ x,_,hb,⟨u,hv,r⟩=>⟨u,hv,pz.qo h x _ hb r⟩
 |.sn t l,v,hb,⟨_,b,hφ,hv,c,fz,hc⟩=>⟨h.n l hb,b,by rw[(h.mF l hb).1];exact hφ,hv,h.ty b c t fz hc⟩
theorem kQ.qo(h:ao7 N Y E E'):∀(cs:List AV)(vs:List aTw),ua N cs->kQ E cs vs->kQ E' (sO Y cs) vs
 |[],_,_,r=>r
 |c::cs,_,hb,⟨u,us,hv,r1,r2⟩=>⟨u,us,hv,pz.qo h c _ hb.1 r1,kQ.qo h cs _ hb.2 r2⟩
theorem oU.qo(h:ao7 N Y E E'){b:Nat}:∀(cs:List AV)(off:Nat),ua N cs->oU E b off cs->oU E' b off (sO Y cs)
 |[],_,_,_=>trivial
 |c::cs,off,hb,⟨⟨hm,u,hu,h1,r1⟩,r2⟩=>
  let ⟨m,c'⟩:=h.mem b off u hm hu
  ⟨⟨m,u,c',h1,pz.qo h c _ hb.1 r1⟩,oU.qo h cs _ hb.2 r2⟩
theorem oo.qo(h:ao7 N Y E E'){sz b:Nat}:∀(rs:List (List AV))(off:Nat),alP N rs->oo E sz b off rs->oo E' sz b off (FX Y rs)
 |[],_,_,_=>trivial
 |r::rs,off,hb,⟨hl,r1,r2⟩=>⟨by rw[Rq];exact hl,oU.qo h r _ hb.1 r1,oo.qo h rs _ hb.2 r2⟩
end
structure aB1(N:Nat)(Y:Nat->Nat)(E' E:D4):Prop where
 n:N<=E.n
 mF:∀l,l<N->E.U l=E'.U (Y l)/\E.ln l=E'.ln (Y l)
 mem:∀b o u,¬ E'.mu b o->E'.w.cell? ⟨b,o,none⟩=some u-> ¬ E.mu b o/\E.w.cell? ⟨b,o,none⟩=some u
 ty:tyk E'.w E.w
mutual
def pz.Eb(h:aB1 N Y E' E):∀(x:AV)(v:aTw),x.nb N->pz E' (x.qo Y) v->pz E x v
 |.any,_,_,_=>trivial
 |.bool _,_,_,r=>r
 |.int _ _,_,_,r=>r
 |.str _,_,_,r=>r
 |.sX _,_,_,r=>r
 |.agg cs,_,hb,⟨vs,hv,hr⟩=>⟨vs,hv,kQ.Eb h cs _ hb hr⟩
 |.asN cs,_,hb,⟨vs,hv,hr⟩=>⟨vs,hv,kQ.Eb h cs _ hb hr⟩
 | .kJ t sz rows,_,hb,⟨base,cap,h1,h2,h3,h4,h5,h6⟩=>by
   rw[vJ]at h1 h2 h3;refine⟨base,cap,h1,h2,h3,h4,fun a ha sB=>h5 a ha (fun e=>sB ?_),fun a ha=>oo.Eb h rows _ hb (h6 a ha)⟩;have:=congrArg List.length e;rw[vJ]at this;exact cv this
 |.lV l n,v,hb,⟨_,hsl,r⟩=>⟨bW hb h.n,hsl,fun k hk=>by rw[(h.mF l hb).2]at hk;rw[(h.mF l hb).1];exact r k hk⟩
 |.own l i n o sz,v,hb,⟨_,hsl,r⟩=>⟨bW hb h.n,hsl,fun k hk=>by rw[(h.mF l hb).2]at hk;rw[(h.mF l hb).1];exact r k hk⟩
 |.ptr l off,v,hb,⟨_,b,hφ,hv⟩=>⟨bW hb h.n,b,by rw[(h.mF l hb).1];exact hφ,hv⟩
 |.map l,v,hb,⟨_,hv,r,hφ⟩=>⟨bW hb h.n,by rw[(h.mF l hb).1];exact hv,r,by rw[(h.mF l hb).1];exact hφ⟩
 |.pp cs,_,hb,⟨b,off,hv,r⟩=>⟨b,off,hv,oU.Eb h cs _ hb r⟩
 |.func _ f c,_,hb,⟨f',c',hv,r1,r2⟩=>⟨f',c',hv,kQ.Eb h f _ hb.1 r1,kQ.Eb h c _ hb.2 r2⟩
 |.iface _ x,_,hb,⟨u,hv,r⟩=>⟨u,hv,pz.Eb h x _ hb r⟩
 |.sn t l,v,hb,⟨_,b,hφ,hv,c,fz,hc⟩=>⟨bW hb h.n,b,by rw[(h.mF l hb).1];exact hφ,hv,h.ty b c t fz hc⟩
def kQ.Eb(h:aB1 N Y E' E):∀(cs:List AV)(vs:List aTw),ua N cs->kQ E' (sO Y cs) vs->kQ E cs vs
 |[],_,_,r=>r
 |c::cs,_,hb,⟨u,us,hv,r1,r2⟩=>⟨u,us,hv,pz.Eb h c _ hb.1 r1,kQ.Eb h cs _ hb.2 r2⟩
def oU.Eb(h:aB1 N Y E' E){b:Nat}:∀(cs:List AV)(off:Nat),ua N cs->oU E' b off (sO Y cs)->oU E b off cs
 |[],_,_,_=>trivial
 |c::cs,off,hb,⟨⟨hm,u,hu,h1,r1⟩,r2⟩=>
  let ⟨m,c'⟩:=h.mem b off u hm hu
  ⟨⟨m,u,c',h1,pz.Eb h c _ hb.1 r1⟩,oU.Eb h cs _ hb.2 r2⟩
def oo.Eb(h:aB1 N Y E' E){sz b:Nat}:∀(rs:List (List AV))(off:Nat),alP N rs->oo E' sz b off (FX Y rs)->oo E sz b off rs
 |[],_,_,_=>trivial
 |r::rs,off,hb,⟨hl,r1,r2⟩=>⟨by rw[Rq]at hl;exact hl,oU.Eb h r _ hb.1 r1,oo.Eb h rs _ hb.2 r2⟩
end
end
def aB2{E E':D4}{N:Nat}{Y:Nat->Nat}(h:ao7 N Y E E'):∀{es:List (AV×AV)}{xs:List MapEntry},(∀p∈es,p.1.nb N/\p.2.nb N)->td E es xs->td E' (es.map fun p=>(p.1.qo Y,p.2.qo Y)) xs
 |[],_,_,r=>r
 |(k,v)::_,_,hb,⟨e,s,he,r1,r2,r3⟩=>
  ⟨e,s,he,pz.qo h k _ (hb (k,v) (by simp)).1 r1,pz.qo h v _ (hb (k,v) (by simp)).2 r2,aB2 h (fun p hp=>hb p (by simp [hp])) r3⟩
def auX{E E':D4}{N:Nat}{Y:Nat->Nat}(h:aB1 N Y E' E):∀{es:List (AV×AV)}{xs:List MapEntry},(∀p∈es,p.1.nb N/\p.2.nb N)->td E' (es.map fun p=>(p.1.qo Y,p.2.qo Y)) xs->td E es xs
 |[],_,_,r=>r
 |(k,v)::_,_,hb,⟨e,s,he,r1,r2,r3⟩=>
  ⟨e,s,he,pz.Eb h k _ (hb (k,v) (by simp)).1 r1,pz.Eb h v _ (hb (k,v) (by simp)).2 r2,auX h (fun p hp=>hb p (by simp [hp])) r3⟩
theorem oP.qo(h:ao7 N Y E E'){x:j6}(hb:rX N x)(hw:∀b,x.block hd b->E'.w.heap[b]? =E.w.heap[b]?)(r:oP E x hd):oP E' (x.qo Y) hd:=by
 cases x with
 |cells cs=>
  obtain⟨b,c,t,rfl,h2,rl,h3⟩:=r;exact⟨b,c,t,rfl,by rw[hw b rfl];exact h2,kQ.qo h _ _ hb rl,h3⟩
 |lV tZ sz rows=>
  obtain⟨base,cap,rfl,h2,h3,h4,h5⟩:=r;refine⟨base,cap,by rw[vJ],by rw[vJ];exact h2,h3,?_,fun a0 ha hc=>?_⟩
  ·have key:∀rs:List (List AV),(∀r∈rs,r.length=sz)->∀r∈FX Y rs,r.length=sz:=by
    intro rs;induction rs with
    |nil=>intro _ r hr;simp [FX]at hr
    |cons q rs ih=>
     grind [FX,Rq]
   exact key rows h4
  ·obtain⟨h6,c,t,h7,h8,rl,h9⟩:=h5 a0 ha hc;subst ha;rw[vJ,aeT];exact⟨h6,c,t,by rw[hw _ ⟨rfl,hc⟩];exact h7,h8,kQ.qo h _ _ (LL hb) rl,h9⟩
 |map es=>
  obtain⟨r',en,cl,rfl,h2,rp⟩:=r;exact⟨r',en,cl,rfl,by rw[hw r' rfl];exact h2,aB2 h hb rp⟩
 |loop k kf st uD=>
  obtain⟨D,rec,rfl,h1,h2,h3,rl⟩:=r;exact⟨D,rec,rfl,by rw[hw (D+1) (.inl rfl)];exact h1,by rw[hw D (.inr rfl)];exact h2,h3,kQ.qo h _ _ hb rl⟩
 |iter s p=>
  obtain⟨b,rfl,h2⟩:=r;exact⟨b,rfl,by rw[hw b rfl];exact h2⟩
 |alT s=>exact aeL r hw
 |vz=>trivial
def oP.Eb(h:aB1 N Y E' E){x:j6}(hb:rX N x)(hw: ∀b,(x.qo Y).block hd b->E.w.heap[b]? =E'.w.heap[b]?)(r:oP E' (x.qo Y) hd):oP E x hd:=by
 cases x with
 |cells cs=>
  obtain⟨b,c,t,rfl,h2,rl,h3⟩:=r;exact⟨b,c,t,rfl,by rw[hw b rfl];exact h2,kQ.Eb h _ _ hb rl,h3⟩
 |lV tZ sz rows=>
  obtain⟨base,cap,rfl,h2,h3,h4,h5⟩:=r;rw[vJ]at h2 hw;refine⟨base,cap,by rw[vJ],h2,h3,?_,fun a0 ha hc=>?_⟩
  ·have key:∀rs:List (List AV),(∀r∈FX Y rs,r.length=sz)->∀r∈rs,r.length=sz:=by
    intro rs;induction rs with
    |nil=>intro _ r hr;simp at hr
    |cons q rs ih=>
     grind [FX,Rq]
   exact key rows h4
  ·obtain⟨h6,c,t,h7,h8,rl,h9⟩:=h5 a0 ha hc;subst ha;rw[vJ]at rl h9;rw[aeT]at rl;exact⟨h6,c,t,by rw[hw _ ⟨rfl,hc⟩];exact h7,h8,kQ.Eb h _ _ (LL hb) rl,h9⟩
 |map es=>
  obtain⟨r',en,cl,rfl,h2,rp⟩:=r;exact⟨r',en,cl,rfl,by rw[hw r' rfl];exact h2,auX h hb rp⟩
 |loop k kf st uD=>
  obtain⟨D,rec,rfl,h1,h2,h3,rl⟩:=r;exact⟨D,rec,rfl,by rw[hw (D+1) (.inl rfl)];exact h1,by rw[hw D (.inr rfl)];exact h2,h3,kQ.Eb h _ _ hb rl⟩
 |iter s p=>
  obtain⟨b,rfl,h2⟩:=r;exact⟨b,rfl,by rw[hw b rfl];exact h2⟩
 |alT s=>exact aeL r hw
 |vz=>trivial
def acm{x:j6}{b o:Nat}:(x.qo Y).Bf h b o↔x.Bf h b o:=by
 cases x with
 |cells cs=>cases h with
  |pointer p=>cases p<;>exact bY
  |_=>exact bY
 |lV tZ sz rows=>cases h with
  |slice p n c=>cases p<;>exact bY
  |_=>exact bY
 |map es=>cases h with
  |map p=>cases p<;>exact bY
  |_=>exact bY
 |loop k kf st uD=>cases h with
  |func q _ _=>cases q<;>exact bY
  |_=>exact bY
 |iter s p=>cases h with
  |pointer p=>cases p<;>exact bY
  |_=>exact bY
 |alT s=>exact bY
 |vz=>exact bY
def CX{x:j6}{b:Nat}:(x.qo Y).block h b↔x.block h b:=by
 cases x with
 |cells cs=>cases h with
  |pointer p=>cases p<;>exact bY
  |_=>exact bY
 |lV tZ sz rows=>cases h with
  |slice p n c=>cases p<;>exact bY
  |_=>exact bY
 |map es=>cases h with
  |map p=>cases p<;>exact bY
  |_=>exact bY
 |loop k kf st uD=>cases h with
  |func q _ _=>cases q<;>exact bY
  |_=>exact bY
 |iter s p=>cases h with
  |pointer p=>cases p<;>exact bY
  |_=>exact bY
 |alT s=>exact bY
 |vz=>exact bY
theorem Hg{x:j6}:mT (some (x.qo Y))=mT (some x):=by
 cases x<;>simp [mT,j6.qo,vJ]
def aaC{x:j6}{b:Nat}(hb:x.block h b):∃o,x.Bf h b o:=by
 cases x with
 |cells cs=>
  cases h with
  |pointer p=>cases p with
   |none=>exact absurd hb id
   |some a=>exact⟨0,hb⟩
  |_=>exact absurd hb id
 |lV tZ sz rows=>
  cases h with
  |slice base n cap=>cases base with
   |none=>exact absurd hb id
   |some a=>exact⟨a.off+n*sz,hb,fun _=>bZ _⟩
  |_=>exact absurd hb id
 |map es=>
  cases h with
  |map r=>cases r with
   |none=>exact absurd hb id
   |some a=>exact⟨0,hb⟩
  |_=>exact absurd hb id
 |loop k kf st uD=>
  cases h with
  |func q _ _=>cases q with
   |yield r=>exact⟨0,hb⟩
   |_=>exact absurd hb id
  |_=>exact absurd hb id
 |iter s p=>
  cases h with
  |pointer p=>cases p with
   |none=>exact absurd hb id
   |some a=>exact⟨0,hb⟩
  |_=>exact absurd hb id
 |alT s=>exact⟨0,hb⟩
 |vz=>exact absurd hb id
def aJj{e:wq}(hq:ao3 op=true)(h:lK P J op=some e):e.nw=[]:=by
 cases op with
 |move x=>cases h;rfl
 |assign x=>cases h;rfl
 |pick c x y=>simp only[lK]at h;split at h<;>cases h;rfl
 |unOp op t x=>simp only[lK]at h;split at h<;>cases h<;>rfl
 |fieldAddr t x i=>simp only[lK]at h;split at h<;>cases h<;>rfl
 |extract x i=>
  simp only[lK]at h
  grind
 |binOp op t x y u=>
  simp only[lK]at h;split at h
  ·cases h;rfl
  ·unfold ayz anL at h;split at h
   ·grind
   unfold aq4 at h
   grind
 |load t x=>
  simp only[lK]at h;split at h
  ·split at h
   ·split at h
    ·unfold ldV at h
     grind
    ·cases h
   ·cases h
  ·split at h<;>cases h;rfl
  ·grind
  ·unfold auJ at h
   grind [cj]
  ·cases h
 |store t x y=>
  simp only[lK]at h
  grind
 |field t x i=>
  simp only[lK]at h
  grind
 |index t x i=>
  simp only[lK]at h
  grind
 |indexAddr t x i=>
  simp only[lK]at h
  grind [cj]
 |_=>simp [ao3]at hq
def aJk{e:wq}(hq:ao3 op=true)(h:lK P J op=some e):e.whole=false:=by
 cases op with
 |move x=>cases h;rfl
 |assign x=>cases h;rfl
 |pick c x y=>simp only[lK]at h;split at h<;>cases h;rfl
 |unOp op t x=>simp only[lK]at h;split at h<;>cases h<;>rfl
 |fieldAddr t x i=>simp only[lK]at h;split at h<;>cases h<;>rfl
 |extract x i=>
  simp only[lK]at h
  grind
 |binOp op t x y u=>
  simp only[lK]at h;split at h
  ·cases h;rfl
  ·unfold ayz anL at h;split at h
   ·grind
   unfold aq4 at h
   grind
 |load t x=>
  simp only[lK]at h;split at h
  ·split at h
   ·split at h
    ·unfold ldV at h
     grind
    ·cases h
   ·cases h
  ·split at h<;>cases h;rfl
  ·grind
  ·unfold auJ at h
   grind [cj]
  ·cases h
 |store t x y=>
  simp only[lK]at h
  grind
 |field t x i=>
  simp only[lK]at h
  grind
 |index t x i=>
  simp only[lK]at h
  grind
 |indexAddr t x i=>
  simp only[lK]at h
  grind [cj]
 |_=>simp [ao3]at hq
mutual
theorem auu{Y:Nat->Nat}{n:Nat}(hf:∀l,l<n->Y l=l):∀x:AV,x.nb n->x.qo Y=x
 |.lV l _,h=>by rw[AV.qo,hf l h]
 |.own l _ _ _ _,h=>by rw[AV.qo,hf l h]
 |.ptr l _,h=>by rw[AV.qo,hf l h]
 |.map l,h=>by rw[AV.qo,hf l h]
 |.sn _ l,h=>by rw[AV.qo,hf l h]
 |.agg cs,h=>by rw[AV.qo,Hh hf cs h]
 |.asN cs,h=>by rw[AV.qo,Hh hf cs h]
 |.pp cs,h=>by rw[AV.qo,Hh hf cs h]
 |.kJ _ _ rows,h=>by rw[AV.qo,auY hf rows h]
 |.func _ f c,h=>by rw[AV.qo,Hh hf f h.1,Hh hf c h.2]
 |.iface _ x,h=>by rw[AV.qo,auu hf x h]
 |.any,_|.bool _,_|.int _ _,_|.str _,_|.sX _,_=>by rw[AV.qo]
theorem Hh{Y:Nat->Nat}{n:Nat}(hf:∀l,l<n->Y l=l):∀xs:List AV,ua n xs->sO Y xs=xs
 |[],_=>rfl
 |x::xs,h=>by rw[sO,auu hf x h.1,Hh hf xs h.2]
theorem auY{Y:Nat->Nat}{n:Nat}(hf:∀l,l<n->Y l=l):∀xs:List (List AV),alP n xs->FX Y xs=xs
 |[],_=>rfl
 |x::xs,h=>by rw[FX,Hh hf x h.1,auY hf xs h.2]
end
theorem aLu(hf:∀l,l<n->Y l=l)(x:j6)(h:rX n x):x.qo Y=x:=by
 cases x with
 |cells cs=>simp only[j6.qo,Hh hf cs h]
 |lV tZ sz rows=>simp only[j6.qo,auY hf rows h]
 |map es=>
  simp only[j6.qo,j6.map.injEq];have h:∀p∈es,p.1.nb n/\p.2.nb n:=h;induction es with
  |nil=>rfl
  |cons p es ih=>
   have hp:=h p (by simp);rw[dJ,ih (fun q hq=>h q (by simp [hq])) (fun q hq=>h q (by simp [hq])),auu hf _ hp.1,auu hf _ hp.2]
 |loop k kf st uD=>simp only[j6.qo,Hh hf kf h]
 |iter s p=>rfl
 |alT s=>rfl
 |vz=>rfl
def auZ {m:Nat}(h:n<=m)(x:j6)(hx:rX n x):rX m x:=by
 cases x with
 |cells cs=>exact so h _ hx
 |lV tZ sz rows=>exact azA h _ hx
 |map es=>exact fun p hp=>⟨AV.asj h _ (hx p hp).1,AV.asj h _ (hx p hp).2⟩
 |loop k kf st uD=>exact so h _ hx
 |iter s p=>trivial
 |alT s=>trivial
 |vz=>trivial
def tau(n l:Nat):Nat:=if l=n then n+1 else if l=n+1 then n else l
theorem azK(n l:Nat):tau n (tau n l)=l:=by grind [tau]
theorem ao8(h:l<n):tau n l=l:=by grind [tau]
theorem aNW(h:l<n+2):tau n l<n+2:=by grind [tau]
def aGF{W:Type}{H:List W}{x y z:W}(h:(H++[x]++[y])[l]? =some z):(H++[y]++[x])[tau H.length l]? =some z:=by
 have hl:l<H.length+2:=by grind
 rw[List.append_assoc]at h ⊢;by_cases h1:l<H.length
 ·grind [ao8]
 ·rw[cz (by omega)]at h;by_cases h2:l=H.length
  ·simp_all [tau]
  ·have h3:l=H.length+1:=by omega
   simp_all [tau]
def nK.swap{C:qC}{s:List AV}{x y:j6}(hdf:aEy H.length df)(aSF:low<=H.length)(hH:∀z∈H,rX H.length z)(hx:rX 0 x)(hy:rX 0 y)
 (S:nK C U ⟨s,H++[x]++[y],low,df⟩ a w):nK C (fun l=>U (tau H.length l)) ⟨sO (tau H.length) s,H++[y]++[x],low,df⟩ a w:=by
 have Ue:∀z∈H++[x]++[y],rX H.length z:=by
  intro z hz;simp only[cw,List.mem_singleton]at hz;rcases hz with(hz|rfl)|rfl
  ·exact hH z hz
  ·exact auZ (dn _) _ hx
  ·exact auZ (dn _) _ hy
 have auT:∀(l:Nat)(z:j6),(H++[y]++[x])[l]? =some z->(H++[x]++[y])[tau H.length l]? =some z:=fun l z h=>aGF h
 have fwd:∀(l:Nat)(z:j6),(H++[x]++[y])[l]? =some z->(H++[y]++[x])[tau H.length l]? =some z:=fun l z h=>aGF h
 have Ph:∀b o,G9 (fun l=>U (tau H.length l)) (H++[y]++[x]) b o↔G9 U (H++[x]++[y]) b o:=by
  intro b o;constructor
  ·rintro⟨l,z,hz,hm⟩;exact⟨_,z,auT l z hz,hm⟩
  ·rintro⟨l,z,hz,hm⟩;refine⟨_,z,fwd l z hz,?_⟩;simp only[azK];exact hm
 have qo:ao7 (H.length+2) (tau H.length) (C.env U (H++[x]++[y]) w) (C.env (fun l=>U (tau H.length l)) (H++[y]++[x]) w):=by
  refine⟨fun l hl=>?_,fun l hl=>?_,fun b o u hm hc=>⟨?_,hc⟩,CQ _⟩
  all_goals grind [qC.env,aNW,azK]
 have BY:tf C (fun l=>U (tau H.length l)) (H++[y]++[x]) w df a.defers:=S.defers.aBD (fun xs vs ⟨f,hf⟩ r=>by
  have:=kQ.qo qo xs vs (so (by omega) _ (hdf _ hf)) r
  rwa [Hh (fun l hl=>ao8 hl) xs (hdf _ hf)]at this) (fun _ _ _=>rfl) (fun l z b hz hb=>.inl ⟨_,z,auT l z hz,hb⟩)
 refine {kf:=?_,defers:=BY,oB:=?_,apart:=?_,uf:=?_,size:=S.size,old:=S.old,n9:=S.n9,Cl:=?_,xf:=S.xf,rest:=S.rest,low:=⟨S.low.1,by grind⟩,mF:=?_}
 ·refine kQ.qo qo _ _ ?_ S.kf;have:=kQ.nb _ _ S.kf;simpa [qC.env] using this
 ·intro l z hz;have h1:=auT l z hz;have hm:=Ue z (cQ h1);have:=oP.qo qo (auZ (by omega) _ hm) (fun _ _=>rfl) (S.oB _ z h1);rw[aLu (fun l hl=>ao8 hl) z hm]at this;exact this
 ·intro l l' z z' b hz hz' hb sC;have:=S.apart _ _ z z' b (auT l z hz) (auT l' z' hz') hb sC
  grind [azK]
 ·intro l z b o hz hb;exact S.uf _ z b o (auT l z hz) hb
 ·intro l z b o hz hm;exact S.Cl _ z b o (auT l z hz) hm
 ·intro l hl;have hN:C.N0=low:=S.low.1;have rQ:l<H.length:=by omega
  have:=S.mF l hl
  grind [ao8]
def azL{x:j6}(r:oP E x h)(hx: ∀tZ sz rows,x= .lV tZ sz rows->(∃base n cap,h= .slice base n cap/\cap≠0/\base≠none)\/rows=[]):rX E.n x:=by
 cases x with
 |cells cs=>obtain⟨_,_,_,_,_,rl,_⟩:=r;exact kQ.nb _ _ rl
 |lV tZ sz rows=>
  rcases hx tZ sz rows rfl with⟨base,n,cap,rfl,hc,hb⟩|rfl
  ·obtain⟨aPE,aPF,h1,h2,h3,h4,h5⟩:=r;simp only[Value.slice.injEq]at h1;obtain⟨rfl,rfl,rfl⟩:=h1;cases base with
   |none=>exact absurd rfl hb
   |some a0=>
    obtain⟨_,c,t,_,_,rl,_⟩:=h5 a0 rfl hc;have hn:=kQ.nb _ _ rl
    have key:∀rows:List (List AV),ua E.n rows.flatten->alP E.n rows:=by
     intro rows;induction rows with
     |nil=>intro _;trivial
     |cons q rs ih=>
      intro this;simp only[cP]at this
      have split:∀(p q:List AV),ua E.n (p++q)->ua E.n p/\ua E.n q:=by
       intro p;induction p with
       |nil=>intro q h;exact⟨trivial,h⟩
       |cons z p ihp=>intro q h;exact⟨⟨h.1,(ihp q h.2).1⟩,(ihp q h.2).2⟩
      exact⟨(split _ _ this).1,ih (split _ _ this).2⟩
    exact key rows hn
  ·trivial
 |map es=>obtain⟨_,_,_,_,_,rp⟩:=r;exact td.nb rp
 |loop k kf st uD=>obtain⟨_,_,_,_,_,_,rl⟩:=r;exact kQ.nb _ _ rl
 |iter s p=>trivial
 |alT s=>trivial
 |vz=>trivial
def acn{x:j6}(r:oP E x h):rX E.n x:=by
 refine azL r ?_;rintro tZ sz rows rfl;obtain⟨base,cap,rfl,h2,h3,_⟩:=r;cases base with
 |none=>
  simp_all
 |some a0=>
  by_cases hc:cap=0
  ·simp_all
  grind
def aB3(w:aTA)(h:mI P t=some z):ua 0 z:=by
 obtain⟨v,_,hr,_⟩:=aq6 (w:=w) h;exact kQ.nb _ _ (hr {w,mu:=fun _ _=>False,U:=fun _=>.tuple #[],ln:=fun _=>none,n:=0})
section

theorem agD(h:aeS o=true):∃t,o.op=.alloc t/\o.guard=none/\aoO t=false:=by
 grind [aeS,Option.isNone_iff_eq_none]
def uV(n:Nat)(z:List AV):wq:={val:=.ptr n 0,nw:=[.cells z]}
def asv(ho:o.op=.alloc t)(hg:o.guard=none/\aoO t=false)(hz:mI P t=some z):yB P kH o J (fun e=>e=uV J.heap.length z):=by
 refine .inr (.inl ⟨?_,?_,uV J.heap.length z,?_,?_,fun _=>bY⟩)
 ·unfold qG;rw[hg.1]
 ·rw[ho];rfl
 ·rw[ho];simp only[lK,hz,MO,zB,hg.2];rfl
 ·exact trivial
def K2(ho:o.op=.alloc t)(hg:o.guard=none/\aoO t=false)(h:yB P kH o J S):∃z,mI P t=some z/\∀e,S e↔e=uV J.heap.length z:=by
 rcases h with⟨hw,_⟩|⟨_,_,e,he,_,h⟩|⟨_,f,args,V,hc,_⟩|⟨_,f,args,e,hc,_⟩
 ·grind [qG]
 ·rw[ho]at he;simp only[lK]at he;split at he
  ·rename_i z hz;simp only[MO,zB,hg.2,jG,bU]at he;subst he;exact⟨z,hz,h⟩
  ·cases he
 ·rw[ho]at hc;cases hc
 ·rw[ho]at hc;cases hc
theorem Hi{p q:Nat}(h:aiC kH p q=true):p<q/\(∃op oq tp tq,kH[p]? =some op/\kH[q]? =some oq/\op.op=.alloc tp/\oq.op=.alloc tq/\(op.guard=none/\aoO tp=false)/\(oq.guard=none/\aoO tq=false)/\Bk op=[]/\Bk oq=[])/\
 ∀k o,kH[k]? =some o->k≠p->k≠q->ao3 o.op=true/\qb kH p k=qb kH q k:=by
 unfold aiC at h;split at h
 ·rename_i op oq hp hq;simp only[cg,jL,List.isEmpty_iff]at h;obtain⟨⟨⟨⟨⟨h1,h2⟩,h3⟩,h4⟩,h5⟩,h6⟩:=h;obtain⟨tp,a1,a2⟩:=agD h1
  grind [agD]
 ·cases h
theorem Ln(h1:qb kH i j=false)(h2:aiC kH i j=false):as7 kH i j=false:=by
 unfold as7;rw[h1,h2];rfl
theorem Fi(h:ao3 op=true):op≠ .alloc t:=by
 rintro rfl;cases h
theorem Av(h:ao3 op=true):CV op=false:=by
 cases op<;>first|rfl|(simp [ao3]at h)
end
section region
variable {C:qC}
def ayN(o:aTv)(listed:Array Bool):(o.after.all fun e=> !Region.binds .any e||listed.getD e.on false)=true↔ ∀d∈Bk o,listed.getD d false=true:=by
 grind [Array.all_eq_true_iff_forall_mem,Bk]
theorem MT(listed:Array Bool)(i:Nat)(hsz:listed.size=kH.size):i∈Region.ready .any kH listed↔i<kH.size/\listed.getD i false=false/\∃o,kH[i]? =some o/\∀d∈Bk o,listed.getD d false=true:=by
 unfold Region.ready;simp only[List.mem_filter,List.mem_range];constructor
 ·rintro⟨h1,h2⟩;rw[cg]at h2;have ho:kH[i]? =some kH[i]:=cD h1;refine⟨h1,?_,kH[i],ho,?_⟩
  ·grind
  ·have h3:=h2.2;rw[ho]at h3;simp only[Option.map_some,db]at h3;exact(ayN _ _).1 h3
 ·rintro⟨h1,h2,o,ho,h3⟩;refine⟨h1,?_⟩;rw[cg];constructor
  ·grind
  ·rw[ho];simp only[Option.map_some,db];exact(ayN _ _).2 h3
def xV(aSI:Ll kH=true)(hcl:∀j o,kH[j]? =some o->listed.getD j false=true->∀d∈Bk o,listed.getD d false=true){r:Nat}(WE:kH[i]? =some oi)
 (Fh:∀d∈Bk oi,listed.getD d false=true) (hq:qb kH r i=true):listed.getD r false=true:=by
 obtain⟨_,acj⟩:=Hf aSI;exact asu (L:=fun d=>listed.getD d false=true) (all:=kH.toList) (fun j o hj hL=>hcl j o (by simpa using hj) hL) kH.toList [] (by simp) (by simp) (fun k o hk=>(acj k o (by simpa using hk)).1) i oi (by simpa using WE) Fh r hq
def Zg(WE:kH[i]? =some oi)(Fh:∀d∈Bk oi,listed.getD d false=true)(hcl:∀j o,kH[j]? =some o->listed.getD j false=true->∀d∈Bk o,listed.getD d false=true):
 ∀j o,kH[j]? =some o->(listed.setIfInBounds i true).getD j false=true->∀d∈Bk o,(listed.setIfInBounds i true).getD d false=true:=by
 intro j o' hj hL d hd;by_cases e:j=i
 ·grind [getD_set_true]
 ·rw[getD_set_ne false (fun e'=>e e'.symm)]at hL
  grind [getD_set_true]
theorem alw(h:i<listed.size):(listed.setIfInBounds i true).getD i false=true:=by
 simp [Array.getD,h]
structure ao9(kH:Array aTv)(R:List Nat)(listed:Array Bool):Prop where
 pw:R.Pairwise (· < ·)
 sz:listed.size=kH.size
 mem:∀i,i∈R↔i<kH.size/\listed.getD i false=false
 cl:∀j o,kH[j]? =some o->listed.getD j false=true->∀d∈Bk o,listed.getD d false=true
def ao9.next{R:List Nat}(F:ao9 kH R listed)(WE:kH[i]? =some oi)(Fh:∀d∈Bk oi,listed.getD d false=true):ao9 kH (R.erase i) (listed.setIfInBounds i true):=by
 refine⟨F.pw.erase i,by simpa using F.sz,fun k=>?_,Zg WE Fh F.cl⟩;have hnd:R.Nodup:=F.pw.imp (fun h=>dl h);have hi:i<listed.size:=by have:=(dr.1 WE).1;rw[F.sz];exact this
 rw[hnd.mem_erase_iff,F.mem k];constructor
 ·rintro⟨sB,h1,h2⟩;refine⟨h1,?_⟩;rw[getD_set_ne false (fun e=>sB e.symm)];exact h2
 ·rintro⟨h1,h2⟩
  have sB:k≠i:=by
   grind [alw]
  refine⟨sB,h1,?_⟩;rw[getD_set_ne false (fun e=>sB e.symm)]at h2;exact h2
def aHD (aSI:Ll kH=true) {p q:Nat} (htw:aiC kH p q=true) (fuel:Nat)
 (auT:∀(f:Nat)(R:List Nat)(listed:Array Bool)(U:Nat->aTw)(J:jT)(a:Act)(w:aTA),f<=fuel->R.length=f->ao9 kH R listed->(p ∉ R)->nK C U J a w->alV C.P kH (Q .normal) R [] J->wpAnyIn (He ro) 0 C.P .any kH (QC C Q) f listed a w)
 {oq:aTv} {tq:TypeId} {zq:List AV} (hoq:kH[q]? =some oq) (htq:oq.op=.alloc tq) (hgq:oq.guard=none/\aoO tq=false) (hzq:mI C.P tq=some zq):
 ∀(f:Nat)(R:List Nat)(listed:Array Bool)(U U0:Nat->aTw)(J:jT)(a a0:Act)(w w0:aTA),f<=fuel->R.length=f+1->R.Pairwise (· < ·)->listed.size=kH.size->p∈R->q∈R->listed.getD q false=true->
 (∀i,i∈R↔i<kH.size/\(listed.getD i false=false\/i=q))->(∀j o,kH[j]? =some o->listed.getD j false=true->∀d∈Bk o,listed.getD d false=true)->
 nK C U (J.app oq.dst (uV J.heap.length zq)) a w->nK C U0 J a0 w0->alV C.P kH (Q .normal) R [] J->wpAnyIn (He ro) 0 C.P .any kH (QC C Q) f listed a w:=by
 obtain⟨hpq,⟨op,oq',tp,tq',hop,aPG,htp,aSv,hgp,aSw,hdp,hdq⟩,aEz⟩:=Hi htw;rw[hoq]at aPG;cases aPG;obtain⟨_,acj⟩:=Hf aSI;intro f;induction f with
 |zero=>
  intro R listed U U0 J a a0 w w0 hf hlen hpw hsz hpR hqR hlq hR hcl S S0 h;exfalso
  match R,hlen with
  |[x],_=>
   grind
 |succ f ih=>
  intro R listed U U0 J a a0 w w0 hf hlen hpw hsz hpR hqR hlq hR hcl S S0 h;have hnd:R.Nodup:=hpw.imp (fun h=>dl h)
  have hpl:listed.getD p false=false:=by
   grind
  have hps:p<kH.size:=((hR p).1 hpR).1;refine⟨?_,?_⟩
  ·grind [MT]
  ·intro i hi;rw[MT listed i hsz]at hi;obtain⟨hi1,hi2,oi,WE,Fh⟩:=hi;have hiq:i≠q:=by grind
   have hiR:i∈R:=(hR i).2 ⟨hi1,.inl hi2⟩
   have au0:∀r∈R,qb kH r i=false:=by
    intro r hr;cases hq':qb kH r i with
    |false=>rfl
    |true=>
     exfalso;have hl:=xV aSI hcl WE Fh hq';rcases ((hR r).1 hr).2 with h|h
     ·rw[hl]at h;cases h
     ·subst h;by_cases e:i=p
      ·subst e;rw[hop]at WE;cases WE;have:=xV aSI (listed:=b9 kH.size false) (by grind [o9]) hop (by rw[hdp];intro d hd;cases hd) hq'
       simp_all
      ·have:=(aEz i oi WE e hiq).2;rw[hq']at this;have hl:=xV aSI hcl WE Fh this;rw[hpl]at hl;cases hl
   by_cases eip:i=p
   ·
    subst eip;rw[hop]at WE;cases WE
    have hno:∀r∈R,r<i->as7 kH r i=false:=by
     grind [Ln,Hi,Fi]
    obtain⟨o1,E1,ho1,azM,hE1⟩:=aBX aSI h hiR hpw hno;rw[hop]at ho1;cases ho1;obtain⟨zp,hzp,hd1⟩:=K2 htp hgp azM;obtain⟨_,h1⟩:=hE1 _ ((hd1 _).2 rfl);have aNX:q∈R.erase i:=(hnd.mem_erase_iff).2 ⟨by omega,hqR⟩
    obtain⟨o2,E2,ho2,aNY,hE2⟩:=aBX aSI h1 aNX (hpw.erase i) (by
     intro r hr rQ;have hr':=di hr;have hri:r≠i:=fun e=>by grind
     refine Ln ?_ ?_
     ·cases ho':qb kH r q with
      |false=>rfl
      |true=>
       exfalso;have:=xV aSI (listed:=b9 kH.size false) (by grind [o9]) hoq (by rw[hdq];intro d hd;cases hd) ho'
       simp_all
     grind [Hi,Fi])
    rw[hoq]at ho2;cases ho2;obtain⟨zq',aPH,hd2⟩:=K2 htq hgq aNY;rw[hzq]at aPH;cases aPH;obtain⟨_,h2⟩:=hE2 _ ((hd2 _).2 rfl);refine Qr S hop (asv htp hgp hzp) ?_;rintro e U' v w' rfl S'
    have hoQ:qb kH i q=false:=by
     cases ho':qb kH i q with
     |false=>rfl
     |true=>
      exfalso;have:=xV aSI (listed:=b9 kH.size false) (by grind [o9]) hoq (by rw[hdq];intro d hd;cases hd) ho'
      simp_all
    obtain⟨auV,_⟩:=(acj q oq hoq).2 i op hpq hop hoQ;obtain⟨_,ap2,_⟩:=cU auV;have hsl:ua J.heap.length J.kf:=kQ.nb _ _ S0.kf
    have hob:∀z∈J.heap,rX J.heap.length z:=by
     intro z hz;obtain⟨l,hl⟩:=dH hz;exact acn (S0.oB l z hl)
    have S2:=nK.swap (s:=((J.app oq.dst (uV J.heap.length zq)).app op.dst (uV (J.app oq.dst (uV J.heap.length zq)).heap.length zp)).kf) (H:=J.heap) (x:=.cells zq) (y:=.cells zp) (low:=J.low) (df:=J.df) (Rm.nb S0.defers.2.2) S0.low.2 hob (aB3 w0 hzq) (aB3 w0 hzp) (by
     have e:(J.app oq.dst (uV J.heap.length zq)).app op.dst (uV (J.app oq.dst (uV J.heap.length zq)).heap.length zp)=⟨((J.app oq.dst (uV J.heap.length zq)).app op.dst (uV (J.app oq.dst (uV J.heap.length zq)).heap.length zp)).kf,J.heap++[.cells zq]++[.cells zp],J.low,J.df⟩:=by
      cases oq.dst<;>cases op.dst<;>simp [jT.app,jT.put,uV,nu]
     rw[<-e];exact S')
    have e2:(⟨sO (tau J.heap.length) ((J.app oq.dst (uV J.heap.length zq)).app op.dst (uV (J.app oq.dst (uV J.heap.length zq)).heap.length zp)).kf,J.heap++[.cells zp]++[.cells zq],J.low,J.df⟩:jT)
     =(J.app op.dst (uV J.heap.length zp)).app oq.dst (uV (J.app op.dst (uV J.heap.length zp)).heap.length zq):=by
     have aNZ:=Hh (Y:=tau J.heap.length) (fun l hl=>ao8 hl) J.kf hsl
     have aEA:∀(d:Nat)(c:AV)(cs:List AV),sO (tau J.heap.length) (cs.set d c)=(sO (tau J.heap.length) cs).set d (c.qo (tau J.heap.length)):=by
      intro d c cs;induction cs generalizing d with
      |nil=>simp [sO]
      |cons x cs ih=>cases d with
       |zero=>simp [sO]
       |succ d=>simp [sO,ih]
     have aPI:(J.app oq.dst (uV J.heap.length zq)).heap.length=J.heap.length+1:=by simp [jT.app,uV,nu]
     have aPJ:(J.app op.dst (uV J.heap.length zp)).heap.length=J.heap.length+1:=by simp [jT.app,uV,nu]
     have t0:tau J.heap.length J.heap.length=J.heap.length+1:=by simp [tau]
     have t1:tau J.heap.length (J.heap.length+1)=J.heap.length:=by simp [tau]
     rw[aPI,aPJ];cases h1:oq.dst with
     |none=>cases h2:op.dst with
      |none=>simp [jT.app,jT.put,uV,nu,aNZ]
      |some dp=>grind [jT.app,jT.put,uV,nu,AV.qo]
     |some dq=>cases h2:op.dst with
      |none=>grind [jT.app,jT.put,uV,nu,AV.qo]
      |some dp=>
       grind [jT.app,jT.put,uV,nu,AV.qo,cZ]
    rw[e2]at S2
    have hF:ao9 kH ((R.erase i).erase q) (listed.setIfInBounds i true):=by
     refine⟨(hpw.erase i).erase q,by simpa using hsz,fun k=>?_,Zg hop Fh hcl⟩;have aRz:(R.erase i).Nodup:=hnd.erase i;rw[aRz.mem_erase_iff,hnd.mem_erase_iff,hR k];constructor
     ·rintro⟨sB,aRA,h1,h2⟩;refine⟨h1,?_⟩;rw[getD_set_ne false (fun e=>aRA e.symm)]
      grind
     ·rintro⟨h1,h2⟩
      have sB:k≠i:=by
       grind [alw]
      rw[getD_set_ne false (fun e=>sB e.symm)]at h2
      grind
    grind
   ·
    obtain⟨hqi,_⟩:=aEz i oi WE eip hiq
    have hno:∀r∈R,r<i->as7 kH r i=false:=by
     intro r hr rQ;refine Ln (au0 r hr) ?_;cases ht:aiC kH r i with
     |false=>rfl
     |true=>
      exfalso;obtain⟨_,⟨_,o1,_,t1,_,ho1,_,ht1,_⟩,_⟩:=Hi ht;rw[WE]at ho1;cases ho1;exact Fi hqi ht1
    obtain⟨o1,E1,ho1,azM,hE1⟩:=aBX aSI h hiR hpw hno;rw[WE]at ho1;cases ho1
    have hnw:∀e,E1 e->e.nw=[]:=by
     intro e he;rcases azM with⟨_,h⟩|⟨_,_,e',he',_,h⟩|⟨_,f',args,V,hc,_,_,_⟩|⟨_,f',args,_,hc,_,_⟩
     ·rw[(h e).1 he]
     ·rw[(h e).1 he];exact aJj hqi he'
     ·exfalso;have:=Av hqi;unfold nV at hc;split at hc
      ·rename_i ho';rw[ho']at this;simp [CV]at this
      ·cases hc
     ·exfalso;have:=Av hqi;unfold nV at hc;split at hc
      ·rename_i ho';rw[ho']at this;simp [CV]at this
      ·cases hc
    have hwh:∀e,E1 e->e.whole=false:=by
     intro e he;rcases azM with⟨_,h⟩|⟨_,_,e',he',_,h⟩|⟨_,f',args,V,hc,_,_,_⟩|⟨_,f',args,_,hc,_,_⟩
     ·rw[(h e).1 he]
     ·rw[(h e).1 he];exact aJk hqi he'
     ·exfalso;have:=Av hqi;unfold nV at hc;split at hc
      ·rename_i ho';rw[ho']at this;simp [CV]at this
      ·cases hc
     ·exfalso;have:=Av hqi;unfold nV at hc;split at hc
      ·rename_i ho';rw[ho']at this;simp [CV]at this
      ·cases hc
    have hap:(∀d,oq.dst=some d->d ∉ oi.looksAt kH)/\(∀d,oi.dst=some d->oq.dst≠some d):=by
     rcases Nat.lt_or_gt_of_ne hiq with rQ|hgt
     ·have ho':qb kH i q=false:=by
       cases ho':qb kH i q with
       |false=>rfl
       |true=>
        exfalso;have:=xV aSI (listed:=b9 kH.size false) (by intro j o _ hj;rw[o9]at hj;cases hj) hoq (by rw[hdq];intro d hd;cases hd) ho';rw[o9]at this;cases this
      obtain⟨hap,_⟩:=(acj q oq hoq).2 i oi rQ WE ho';obtain⟨x1,x2,x3⟩:=cU hap;exact⟨x3,x2⟩
     ·obtain⟨hap,_⟩:=(acj i oi WE).2 q oq hgt hoq (au0 q hqR);obtain⟨x1,x2,x3⟩:=cU hap;exact⟨x1,fun d hd hd'=>x2 d hd' hd⟩
    have aJg:∀e,E1 e->CW ⟨i,J.heap.length,e⟩ (uV J.heap.length zq)=true:=by
     intro e he;simp [CW,uV,LK,hnw e he,hwh e he]
    have hfw:yB C.P kH oi (J.app oq.dst (uV J.heap.length zq)) E1:=azM.fwd (j:=i) hap.1 aJg;refine Qr S WE hfw ?_;intro e U' v w' he S';obtain⟨_,yn⟩:=hE1 e he;have aJh:=aBW (d:=oi.dst) (d':=oq.dst) (j:=i) hap.2 (aJg e he) (azM.lt he).2 (by simp [uV]);have hle:(J.app oi.dst e).heap.length=J.heap.length:=by simp [jT.app,hnw e he,vg]
    rw[<-aJh]at S'
    have hg:∃U1 a1 w1,nK C U1 (J.app oi.dst e) a1 w1:=by
     rcases azM with⟨_,h⟩|⟨_,_,e',he',hp,h⟩|⟨_,f',args,V,hc,_,_,_⟩|⟨_,f',args,_,hc,_,_⟩
     ·rw[(h e).1 he,MQ];exact⟨U0,_,w0,S0.put oi.dst (v:=undef) rfl⟩
     ·rw[(h e).1 he];obtain⟨_,v1,w1,U1,_,_,S1⟩:=Ze S0 he' hp;exact⟨U1,_,w1,S1⟩
     ·exfalso;have:=Av hqi;unfold nV at hc;split at hc
      ·rename_i ho';rw[ho']at this;simp [CV]at this
      ·cases hc
     ·exfalso;have:=Av hqi;unfold nV at hc;split at hc
      ·rename_i ho';rw[ho']at this;simp [CV]at this
      ·cases hc
    obtain⟨U1,a1,w1,S1⟩:=hg;rw[<-hle]at S';refine ih (R.erase i) _ U' U1 (J.app oi.dst e) _ a1 w' w1 (by omega) ?_ (hpw.erase i) (by simpa using hsz) ((hnd.mem_erase_iff).2 ⟨fun e'=>eip e'.symm,hpR⟩) ((hnd.mem_erase_iff).2 ⟨fun e'=>hiq e'.symm,hqR⟩) ?_ ?_ (Zg WE Fh hcl) S' S1 yn
    ·rw[dw hiR];omega
    ·exact getD_set_true hlq
    ·intro k;rw[hnd.mem_erase_iff,hR k];constructor
     ·rintro⟨sB,h1,h2⟩;refine⟨h1,?_⟩;rw[getD_set_ne false (fun e=>sB e.symm)];exact h2
     ·rintro⟨h1,h2⟩
      have sB:k≠i:=by
       intro e';subst e';rcases h2 with h2|h2
       ·rw[alw (by rw[hsz];exact hi1)]at h2;cases h2
       ·exact hiq h2
      refine⟨sB,h1,?_⟩;rw[getD_set_ne false (fun e=>sB e.symm)]at h2;exact h2
def aJl (aSI:Ll kH=true): ∀ (fuel:Nat) (R:List Nat) (listed:Array Bool) (U:Nat->aTw) (J:jT) (a:Act) (w:aTA),R.length=fuel->ao9 kH R listed->
 nK C U J a w->alV C.P kH (Q .normal) R [] J->wpAnyIn (He ro) 0 C.P .any kH (QC C Q) fuel listed a w:=by
 obtain⟨_,acj⟩:=Hf aSI;intro fuel;induction fuel using Nat.strongRecOn with
 |ind fuel ih=>
  intro R listed U J a w hl F S h;have hpw:=F.pw;have hsz:=F.sz;have hR:=F.mem;have hnd:R.Nodup:=hpw.imp (fun h=>dl h);cases fuel with
  |zero=>
   have hR0:R=[]:=cv hl;subst hR0;refine⟨?_,U,J,S,h⟩;rw[List.eq_nil_iff_forall_not_mem];intro i hi;rw[MT listed i hsz]at hi;have:=(hR i).2 ⟨hi.1,hi.2.1⟩;simp at this
  |succ fuel=>
   refine⟨?_,?_⟩
   ·intro aEB;exfalso;cases R with
    |nil=>simp at hl
    |cons r R=>
     have hr:=(hR r).1 (by simp);have ho:kH[r]? =some kH[r]:=cD hr.1
     have:r∈Region.ready .any kH listed:=by
      rw[MT listed r hsz];refine⟨hr.1,hr.2,_,ho,fun d hd=>?_⟩;have hdr:=(acj r _ ho).1 d hd;cases hld:listed.getD d false with
      |true=>rfl
      |false=>
       have hdR:=(hR d).2 ⟨by omega,hld⟩;rw[cK]at hpw;simp only[cx]at hdR;rcases hdR with rfl|hdR
       ·omega
       ·have:=hpw.1 d hdR;omega
     rw[aEB]at this;simp at this
   ·intro i hi;rw[MT listed i hsz]at hi;obtain⟨hi1,hi2,oi,WE,Fh⟩:=hi;have hiR:=(hR i).2 ⟨hi1,hi2⟩
    have au0:∀r∈R,qb kH r i=false:=by
     intro r hr;cases hq:qb kH r i with
     |false=>rfl
     |true=>
      exfalso;have:=xV aSI F.cl WE Fh hq;have hr':=((hR r).1 hr).2;rw[hr']at this;cases this
    by_cases htw:∃p∈R,aiC kH p i=true
    ·obtain⟨p,hpR,htw⟩:=htw;obtain⟨hpi,⟨op,oq,tp,tq,hop,hoq,htp,htq,hgp,hgq,hdp,hdq⟩,aEz⟩:=Hi htw;rw[WE]at hoq;cases hoq;have hpl:=((hR p).1 hpR).2
     obtain⟨o1,E1,ho1,azM,hE1⟩:=aBX aSI h hpR hpw (by
      intro r hr rQ;refine Ln ?_ ?_
      ·cases ho':qb kH r p with
       |false=>rfl
       |true=>
        exfalso;have:=xV aSI (listed:=b9 kH.size false) (by intro j o _ hj;rw[o9]at hj;cases hj) hop (by rw[hdp];intro d hd;cases hd) ho';rw[o9]at this;cases this
      ·cases ht:aiC kH r p with
       |false=>rfl
       |true=>
        exfalso;obtain⟨_,⟨o1,_,t1,_,ho1,_,ht1,_⟩,_⟩:=Hi ht;exact Fi (aEz r o1 ho1 (by omega) (by omega)).1 ht1)
     rw[hop]at ho1;cases ho1;obtain⟨zp,hzp,hd1⟩:=K2 htp hgp azM;obtain⟨_,h1⟩:=hE1 _ ((hd1 _).2 rfl);have aNX:i∈R.erase p:=(hnd.mem_erase_iff).2 ⟨by omega,hiR⟩
     obtain⟨o2,E2,ho2,aNY,hE2⟩:=aBX aSI h1 aNX (hpw.erase p) (by
      intro r hr rQ;have hr':=di hr;have hrp:r≠p:=fun e=>by subst e;exact(hnd.not_mem_erase) hr
      refine Ln (au0 r hr') ?_;cases ht:aiC kH r i with
      |false=>rfl
      |true=>
       exfalso;obtain⟨_,⟨o1,_,t1,_,ho1,_,ht1,_⟩,_⟩:=Hi ht;exact Fi (aEz r o1 ho1 hrp (by omega)).1 ht1)
     rw[WE]at ho2;cases ho2;obtain⟨zq,hzq,_⟩:=K2 htq hgq aNY;refine Qr S WE (asv htq hgq hzq) ?_;rintro e U' v w' rfl S';refine aHD aSI htw fuel (fun f R' aLv U' J' a' w' hf hl' F' _ S' h'=>ih f (by omega) R' aLv U' J' a' w' hl' F' S' h') WE htq hgq hzq fuel R _ U' U J _ a w' w (bZ _) hl hpw (by simpa using hsz) hpR hiR (alw (by rw[hsz];exact hi1)) ?_ (Zg WE Fh F.cl) S' S h;intro k;rw[hR k];by_cases hk:k=i
     ·subst hk;constructor
      ·rintro⟨h1,_⟩;exact⟨h1,.inr rfl⟩
      ·rintro⟨h1,_⟩;exact⟨h1,hi2⟩
     ·rw[getD_set_ne false (fun e=>hk e.symm)];constructor
      ·rintro⟨h1,h2⟩;exact⟨h1,.inl h2⟩
      ·rintro⟨h1,h2|h2⟩
       ·exact⟨h1,h2⟩
       ·exact absurd h2 hk
    ·have hno:∀r∈R,r<i->as7 kH r i=false:=by
      intro r hr _;refine Ln (au0 r hr) ?_;cases ht:aiC kH r i with
      |false=>rfl
      |true=>exact absurd ⟨r,hr,ht⟩ htw
     obtain⟨o,E,ho,hst,hE⟩:=aBX aSI h hiR hpw hno;refine Qr S ho hst ?_;intro e U' v w' he S';obtain⟨_,yn⟩:=hE e he;refine ih fuel (by omega) (R.erase i) _ U' _ _ w' ?_ (F.next WE Fh) S' yn;rw[dw hiR];omega
def aEC{id:Nat}(hm:C.P.follows .mixedOrders=true)(aSI:Ll kH=true)(h:alV C.P kH (Q .normal) (ck kH.size) [] J)(S:nK C U J a w):
 (Code.region id kH true).wpIn (He ro) 0 C.P (QC C Q) a w:=by
 refine wpIn_region_any hm ?_;refine aJl aSI kH.size (ck kH.size) _ U J a _ (by simp) ⟨cX,by simp,?_,?_⟩ (S.drew _) h
 ·intro i;simp only[List.mem_range];constructor
  ·intro hi;exact⟨hi,o9 _ _⟩
  ·exact fun h=>h.1
 ·intro j o hj hL;rw[o9]at hL;cases hL
end region
section
variable {c:Nat}
def au1(P:aTz)(f:aTy)(args:List AV)(H:List j6)(x:AV)(H':List j6):Prop:=∀J':jT,J'.heap=H->Bt P f args J' (fun o H2=>o=.panic x/\H2=H')
def aB4(P:aTz)(kH:Array aTv)(c:Nat)(H:List j6)(x:AV)(H':List j6)(j:Nat)(o:aTv)(J:jT)(v:AV):Prop:=
 J.heap=H/\((j=c/\qG kH o J=some true/\∃f args,nV J o.op=some (f,args)/\au1 P f args H x H')\/
   qb kH c j=true\/
   (j≠c/\∃e:wq,e.up=[]/\e.nw=[]/\e.val=v/\yB P kH o J (fun e'=>e'=e)))
def aED(P:aTz)(kH:Array aTv)(c:Nat)(H:List j6)(x:AV)(H':List j6):List Nat->jT->Prop
 |[],_=>True
 |j::rest,J=>∃o v,kH[j]? =some o/\aB4 P kH c H x H' j o J v/\aED P kH c H x H' rest (J.put o.dst v)
theorem WG(J:jT)(d:Option Tmp)(v:AV):(J.put d v).heap=J.heap:=by cases d<;>rfl
theorem aJm{y:aTB}(h:∀t,d=some t->y≠ .tmp t):(J.put d v).ev y=J.ev y:=by
 have:=aEx (J:=J) (dst:=d) (e:={val:=v}) h
 rwa [MQ]at this
theorem ayO{t:Nat}(h:∀t',d=some t'->t≠t'):(J.put d v).kf[t]? =J.kf[t]? :=by
 have:=are (J:=J) (dst:=d) (e:={val:=v}) h
 rwa [MQ]at this
theorem aJn {d':Option Tmp}{v':AV}(h:∀t,d=some t->d'≠some t):(J.put d v).put d' v'=(J.put d' v').put d v:=by
 cases d with
 |none=>cases d'<;>rfl
 |some t=>cases d' with
  |none=>rfl
  |some t'=>
   grind [jT.put,cZ]
def aB4.move(h:aB4 P kH c H x H' j o J v)(hh:J'.heap=J.heap)(hev:∀y∈o.op.operands,J'.ev y=J.ev y)(hw:qG kH o J'=qG kH o J):aB4 P kH c H x H' j o J' v:=by
 obtain⟨h0,h⟩:=h;refine⟨hh.trans h0,?_⟩;rcases h with⟨h1,h2,f,args,h3,h4⟩|h1|⟨h1,e,h2,h3,h4,h5⟩
 ·grind [MS]
 ·exact .inr (.inl h1)
 ·exact .inr (.inr ⟨h1,e,h2,h3,h4,h5.local hev hw (fun _ _=>⟨⟨fun _ _=>by rw[hh],fun _=>by rw[hh]⟩,fun _=>hh⟩)⟩)
def aNx(aSI:Ll kH=true){i:Nat}: ∀{R:List Nat}{J:jT},aED P kH c H x H' R J->i∈R->R.Pairwise (· < ·)->(∀r∈R,r<i->qb kH r i=false)->
 ∃o v,kH[i]? =some o/\aB4 P kH c H x H' i o J v/\aED P kH c H x H' (R.erase i) (J.put o.dst v)
 |[],_,_,hi,_,_=>by simp at hi
 |r::R,J,⟨or',vr,hor,hst,h⟩,hi,hpw,aBY=>by
  by_cases e:r=i
  ·grind
  ·have hiR:i∈R:=by
    grind
   rw[cK]at hpw;have hri:r<i:=hpw.1 i hiR;obtain⟨oi,v,WE,aRB,hr⟩:=aNx aSI h hiR hpw.2 (fun q hq rQ=>aBY q (by simp [hq]) rQ);obtain⟨_,acj⟩:=Hf aSI;obtain⟨auV,_⟩:=(acj i oi WE).2 r or' hri hor (aBY r (by simp) hri);obtain⟨a1,a2,a3⟩:=cU auV;refine⟨oi,v,WE,aRB.move (WG _ _ _).symm (fun y hy=>?_) (Q2 fun k b d hg hd=>?_),?_⟩
   ·grind [aJm,Q3]
   ·grind [ayO,Zf]
   ·have sB:(r::R).erase i=r::R.erase i:=dG (by simpa using e);rw[sB];refine⟨or',vr,hor,hst.move (WG _ _ _) (fun y hy=>?_) (Q2 fun k b d hg hd=>?_),?_⟩
    ·grind [aJm,Q3]
    ·grind [ayO,Zf]
    grind [aJn]
def au2:List aTv->List AV->List AV
 |[],s=>s
 |o::os,s=>au2 os (match o.dst with|some d=>s.set d .any|none=>s)
def aB5(kH:Array aTv)(c:Nat):Bool:=(match kH[c]? with|some o=>CV o.op|none=>false)&&
 (ck kH.size).all fun i=>if i<c then qb kH i c else if i=c then true else qb kH c i
def aHE{c:Nat}(h:aB5 kH c=true):(∀i,i<c->i<kH.size->qb kH i c=true)/\(∀i,c<i->i<kH.size->qb kH c i=true)/\∃o,kH[c]? =some o/\CV o.op=true:=by
 grind [aB5]
def aeU(kH:Array aTv)(s:List AV):List AV:=au2 kH.toList s
def ari: ∀(L:List aTv)(s:List AV)(d:Nat)(v:AV),(∃o∈L,o.dst=some d)->au2 L (s.set d v)=au2 L s
 |[],_,_,_,⟨_,h,_⟩=>by simp at h
 |o::L,s,d,v,h=>by
  simp only[au2];cases hd:o.dst with
  |none=>
   simp only;refine ari L s d v ?_
   grind
  |some t=>
   simp only;by_cases e:t=d
   ·subst e;rw[List.set_set]
   ·rw[cZ _ _ (fun h=>e h.symm)];refine ari L _ d v ?_
    grind
theorem aB6(ho:kH[i]? =some o)(v:AV):aeU kH (J.put o.dst v).kf=aeU kH J.kf:=by
 cases hd:o.dst with
 |none=>rfl
 |some d=>
  refine ari _ _ d v ⟨o,?_,hd⟩
  grind
def kQ.aJo:∀{cs:List AV}{vs:List aTw}(d:Nat),kQ E cs vs->kQ E (cs.set d .any) vs
 |[],_,_,h=>h
 |_::_,_,0,⟨v,us,rfl,_,r⟩=>⟨v,us,rfl,trivial,r⟩
 |_::_,_,d+1,⟨v,us,rfl,h1,r⟩=>⟨v,us,rfl,h1,kQ.aJo d r⟩
def arj{E:D4}:∀(L:List aTv){cs:List AV}{vs:List aTw},kQ E cs vs->kQ E (au2 L cs) vs
 |[],_,_,h=>h
 |o::L,cs,vs,h=>by
  simp only[au2];cases o.dst with
  |none=>exact arj L h
  |some d=>exact arj L (kQ.aJo d h)
end
section region
variable {C:qC}
def nK.aeU{U:Nat->aTw}{J:jT}{a:Act}{w:aTA}(S:nK C U J a w)(kH:Array aTv):nK C U {J with kf:=aeU kH J.kf} a w:={S with kf:=arj _ S.kf,defers:=S.defers}
def aJp(aSI:Ll kH=true){c:Nat}{s0:List AV}(hQ:Q (.panic x) {kf:=aeU kH s0,heap:=H',low,df}):
 ∀(fuel:Nat)(R:List Nat)(listed:Array Bool)(U:Nat->aTw)(J:jT)(a:Act)(w:aTA),R.length=fuel->ao9 kH R listed->c∈R->
 nK C U J a w->aeU kH J.kf=aeU kH s0->J.low=low->J.df=df->aED C.P kH c H x H' R J->wpAnyIn (He ro) 0 C.P .any kH (QC C Q) fuel listed a w:=by
 obtain⟨_,acj⟩:=Hf aSI;intro fuel;induction fuel with
 |zero=>
  grind
 |succ fuel ih=>
  intro R listed U J a w hl F hc S hs aSF hdf h;have hpw:=F.pw;have hsz:=F.sz;have hR:=F.mem;have hnd:R.Nodup:=hpw.imp (fun h=>dl h);refine⟨?_,?_⟩
  ·intro aEB;exfalso;cases R with
   |nil=>simp at hl
   |cons r R=>
    have hr:=(hR r).1 (by simp);have ho:kH[r]? =some kH[r]:=cD hr.1
    have:r∈Region.ready .any kH listed:=by
     rw[MT listed r hsz]
     grind [cK]
    grind
  ·intro i hi;rw[MT listed i hsz]at hi;obtain⟨hi1,hi2,oi,WE,Fh⟩:=hi;have hiR:=(hR i).2 ⟨hi1,hi2⟩
   have au0:∀r∈R,qb kH r i=false:=by
    intro r hr;cases hq:qb kH r i with
    |false=>rfl
    |true=>
     exfalso;have:=xV aSI F.cl WE Fh hq
     grind
   obtain⟨o,v,ho,⟨hH,hst⟩,yn⟩:=aNx aSI h hiR hpw (fun r hr _=>au0 r hr);rw[WE]at ho;cases ho;rcases hst with⟨rfl,hw,f,args,aJq,aN0⟩|aBY|⟨sB,e,hup,hnw,hval,hS⟩
   ·unfold wpOpIn;simp only[WE];rw[Ag S hw];simp only[jN];have xR:=aN0 J hH;obtain⟨vs,vI,hr⟩:=MR S aJq xR.1;refine⟨fun _ _=>trivial,?_⟩;rw[da _ _ _ (Rp aJq),vI,cW];refine⟨fun h=>by simp [He,cf]at h,LJ.2 ?_⟩;refine(xR.2 C U a w rfl S vs hr).mono fun en w' ⟨o',U',H2,⟨ho',hH2⟩,S',uu⟩=>?_
    subst ho' hH2;cases en with
    |returned v=>exact uu.elim
    |panicked chain=>
     obtain⟨u,hu,hr⟩:=uu;refine⟨U',{kf:=aeU kH s0,heap:=H2,low,df},x,u,?_,hQ,hu,hr⟩;have:=S'.aeU kH
     grind
    |outgrown=>exact uu.elim
   ·rw[au0 c hc]at aBY;cases aBY
   ·refine Qr S WE hS ?_;rintro e' U' v' w' rfl S'
    have aRC:J.app oi.dst e'=J.put oi.dst v:=by
     rw[show J.app oi.dst e'=J.app oi.dst {val:=v} by simp [jT.app,hup,hnw,hval],MQ]
    rw[aRC]at S';refine ih (R.erase i) _ U' _ _ w' ?_ (F.next WE Fh) ((hnd.mem_erase_iff).2 ⟨fun e=>sB e.symm,hc⟩) S' ?_ ?_ ?_ yn
    ·grind
    ·rw[aB6 WE];exact hs
    ·rw[<-aSF];cases oi.dst<;>rfl
    ·rw[<-hdf];cases oi.dst<;>rfl
def aEE{id c:Nat}(hm:C.P.follows .mixedOrders=true)(aSI:Ll kH=true)(hc:c<kH.size)(h:aED C.P kH c J.heap x H' (ck kH.size) J)
 (hQ:Q (.panic x) {J with kf:=aeU kH J.kf,heap:=H'}) (S:nK C U J a w):(Code.region id kH true).wpIn (He ro) 0 C.P (QC C Q) a w:=by
 refine wpIn_region_any hm ?_;refine aJp aSI hQ kH.size (ck kH.size) _ U J a _ (by simp) ⟨cX,by simp,?_,?_⟩ (by simpa using hc) (S.drew _) rfl rfl rfl h
 all_goals grind [o9]
def ayP(P:aTz)(kH:Array aTv)(c:Nat)(Q:ot->jT->Prop)(J:jT):Prop:=
 ∃o f args x H',kH[c]? =some o/\qG kH o J=some true/\nV J o.op=some (f,args)/\au1 P f args J.heap x H'/\Q (.panic x) {J with kf:=aeU kH J.kf,heap:=H'}
def aHF(aSI:Ll kH=true){c k:Nat}(aB7:aB5 kH c=true)(hk:kH.size=c+(k+1)):
 ∀(f:Nat)(R:List Nat)(listed:Array Bool)(U:Nat->aTw)(J:jT)(a:Act)(w:aTA),R.length+k=f->(∀r∈R,r<c)->ao9 kH (R++cE c (k+1)) listed->nK C U J a w->alV C.P kH (ayP C.P kH c Q) R [] J->wpAnyIn (He ro) 0 C.P .any kH (QC C Q) (f+1) listed a w:=by
 obtain⟨_,acj⟩:=Hf aSI;obtain⟨hb,ha,xR⟩:=aHE aB7;intro f;induction f using Nat.strongRecOn with
 |ind f ih=>
  intro R listed U J a w hl hRc F S h;have hpw:=F.pw;have hsz:=F.sz;have hR:=F.mem;have aPK:R.Pairwise (· < ·):=(List.pairwise_append.1 hpw).1;have hnd:R.Nodup:=aPK.imp (fun h=>dl h);have aNy:c∈R++cE c (k+1):=cw.2 (.inr (by rw[List.mem_range'_1];omega));refine⟨?_,?_⟩
  ·intro aEB;exfalso;generalize R++cE c (k+1)=L at hpw hR aNy;cases L with
   |nil=>simp at aNy
   |cons r L=>
    have hr:=(hR r).1 (by simp);have ho:kH[r]? =some kH[r]:=cD hr.1
    have:r∈Region.ready .any kH listed:=by
     rw[MT listed r hsz];refine⟨hr.1,hr.2,_,ho,fun d hd=>?_⟩
     grind [cK]
    grind
  ·intro i hi;rw[MT listed i hsz]at hi;obtain⟨hi1,hi2,oi,WE,Fh⟩:=hi;have hiR:=(hR i).2 ⟨hi1,hi2⟩
   have au0:∀r∈R++cE c (k+1),qb kH r i=false:=by
    intro r hr;cases hq:qb kH r i with
    |false=>rfl
    |true=>
     exfalso;have:=xV aSI F.cl WE Fh hq
     grind
   rcases cw.1 hiR with aN1|hiC
   ·have hno:∀r∈R,r<i->as7 kH r i=false:=fun r hr _=>Ln (au0 r (cw.2 (.inl hr))) (by
     cases ht:aiC kH r i with
     |false=>rfl
     |true=>
      exfalso;obtain⟨_,_,aEz⟩:=Hi ht;obtain⟨oc,hoc,hcc⟩:=xR;have h1:=hRc r hr;have h2:=hRc i aN1;rw[Av (aEz c oc hoc (by omega) (by omega)).1]at hcc;cases hcc)
    obtain⟨o,E,ho,hst,hE⟩:=aBX aSI h aN1 aPK hno;have azN:=List.length_pos_of_mem aN1;obtain⟨f',rfl⟩:∃f',f=f'+1:=⟨f-1,by omega⟩;refine Qr S ho hst ?_;intro e U' v w' he S';obtain⟨_,yn⟩:=hE e he;refine ih f' (by omega) (R.erase i) _ U' _ _ w' ?_ (fun r hr=>hRc r (di hr)) ?_ S' yn
    ·grind
    ·have:=F.next WE Fh
     grind
   ·rw[List.mem_range'_1] at hiC;rcases Nat.eq_or_lt_of_le hiC.1 with e|rQ
    ·subst e
     have hR0:R=[]:=by
      cases R with
      |nil=>rfl
      |cons r R=>
       exfalso;have h1:=au0 r (by simp)
       grind
     subst hR0;obtain⟨o,fn,args,x,H',ho,hw,aJq,aN0,hQ⟩:ayP C.P kH c Q J:=h;rw[WE]at ho;cases ho;unfold wpOpIn;simp only[WE];rw[Ag S hw];simp only[jN];have xR:=aN0 J rfl;obtain⟨vs,vI,hr⟩:=MR S aJq xR.1;refine⟨fun _ _=>trivial,?_⟩;rw[da _ _ _ (Rp aJq),vI,cW];refine⟨fun h=>by simp [He,cf]at h,LJ.2 ?_⟩;refine(xR.2 C U a w rfl S vs hr).mono fun en w' ⟨o',U',H2,⟨ho',hH2⟩,S',uu⟩=>?_
     subst ho' hH2;cases en with
     |returned v=>exact uu.elim
     |panicked chain=>
      obtain⟨u,hu,hr⟩:=uu;exact⟨U',{J with kf:=aeU kH J.kf,heap:=H2},x,u,S'.aeU kH,hQ,hu,hr⟩
     |outgrown=>exact uu.elim
    grind
def aEF{id c:Nat}(hm:C.P.follows .mixedOrders=true)(aSI:Ll kH=true)(hc:c<kH.size)(aB7:aB5 kH c=true)(h:alV C.P kH (ayP C.P kH c Q) (ck c) [] J)
 (S:nK C U J a w):(Code.region id kH true).wpIn (He ro) 0 C.P (QC C Q) a w:=by
 refine wpIn_region_any hm ?_;obtain⟨k,hk⟩:∃k,kH.size=c+(k+1):=⟨kH.size-c-1,by omega⟩
 have aLw:ck c++cE c (k+1)=ck kH.size:=by
  rw[ct,ct,hk]
  grind
 have hF:ao9 kH (ck c++cE c (k+1)) (b9 kH.size false):=by
  rw[aLw];refine⟨cX,by simp,?_,?_⟩
  all_goals grind [o9]
 have key:∀w',nK C U J a w'->wpAnyIn (He ro) 0 C.P .any kH (QC C Q) kH.size (b9 kH.size false) a w':=by
  intro w' S';have:=aHF (ro:=ro) (Q:=Q) aSI aB7 hk (c+k) (ck c) (b9 kH.size false) U J a w' (by simp) (by simp) hF S' h
  grind
 exact key _ (S.drew _)
def WH(tr:List Tr):Bool:=tr.all fun t=>t.e.up.isEmpty&&t.e.nw.isEmpty
def aco (P:aTz) (kH:Array aTv) (c:Nat):List aTv->Nat->jT->Prop
 |[],_,_=>True
 |o::rest,j,J=>match qb kH c j with
  |true=>aco P kH c rest (j+1) (J.put o.dst (.sX undef))
  |false=>match qG kH o J with
   |none=>False
   |some false=>aco P kH c rest (j+1) (J.put o.dst (.sX undef))
   |some true=>nV J o.op=none/\match lK P J o.op with
    |some e=>(e.pre/\e.up=[]/\e.nw=[])/\aco P kH c rest (j+1) (J.put o.dst e.val)
    |none=>False
theorem Q4{P:aTz}{c:Nat}{H H':List j6}{x:AV}:∀(rest:List aTv)(j:Nat)(J:jT),kH.toList.drop j=rest->c<j->J.heap=H->aco P kH c rest j J->aED P kH c H x H' (cE j rest.length) J
 |[],_,_,_,_,_,_=>trivial
 |o::rest,j,J,hd,hcj,hH,h=>by
  have ho:kH[j]? =some o:=by
   have:=congrArg (fun l:List aTv=>l[0]?) hd;simpa using this
  have yn:kH.toList.drop (j+1)=rest:=by
   grind [dm]
  simp only[dx,dc];simp only[aco]at h;split at h
  ·rename_i hor;exact⟨o,.sX undef,ho,⟨hH,.inr (.inl hor)⟩,Q4 rest (j+1) _ yn (by omega) (by rw[WG];exact hH) h⟩
  ·split at h
   ·exact h.elim
   ·rename_i hw;exact⟨o,.sX undef,ho,⟨hH,.inr (.inr ⟨by omega,{val:=.sX undef},rfl,rfl,rfl,.inl ⟨hw,fun _=>bY⟩⟩)⟩,Q4 rest (j+1) _ yn (by omega) (by rw[WG];exact hH) h⟩
   ·rename_i hw;obtain⟨hc,h⟩:=h;split at h
    ·rename_i e he;obtain⟨⟨hp,hu,hn⟩,h⟩:=h;exact⟨o,e.val,ho,⟨hH,.inr (.inr ⟨by omega,e,hu,hn,rfl,.inr (.inl ⟨hw,hc,e,he,hp,fun _=>bY⟩)⟩)⟩,Q4 rest (j+1) _ yn (by omega) (by rw[WG];exact hH) h⟩
    ·exact h.elim
end region
def ot.then(next:jT->Prop)(Q:ot->jT->Prop):ot->jT->Prop
 |.normal,J=>next J
 |e,J=>Q e J
def ot.inBlock(id:Nat)(Q:ot->jT->Prop):ot->jT->Prop
 |.exit id',J=>if id'=id then Q .normal J else Q (.exit id') J
 |e,J=>Q e J
def ot.noGoto(Q:ot->jT->Prop):ot->jT->Prop
 |.goto _,_=>False
 |e,J=>Q e J
def wq.idle(e:wq):Bool:=e.rd.isEmpty&&e.up.isEmpty&&e.nw.isEmpty&& !e.whole
def Qt(tr:List Tr)(j n:Nat)(e:wq):List Tr:=bif e.idle then tr else tr++[⟨j,n,e⟩]
def aeV(kH:Array aTv)(tr:List Tr)(j:Nat)(e:wq):Prop:=e.idle=true\/Eo kH tr j e=true
def apa (P:aTz) (kH:Array aTv) (Q:ot->jT->Prop):List aTv->Nat->List Tr->jT->Prop
 |[],_,_,J=>Q .normal J
 |o::rest,j,tr,J=>match qG kH o J with
  |none=>False
  |some b=>(b=true->match nV J o.op with
    |some (f,args)=>(∃r,JE P f args (fun v=>v=r)/\apa P kH Q rest (j+1) tr (J.put o.dst r))\/
      (∃e,Jj P f args J e/\aeV kH tr j e/\apa P kH Q rest (j+1) (Qt tr j J.heap.length e) (J.app o.dst e))\/
      ∃x H',au1 P f args J.heap x H'/\(aB5 kH j=true\/(WH tr=true/\aco P kH j rest (j+1) (J.put o.dst (.sX undef))))/\Q (.panic x) {J with kf:=aeU kH J.kf,heap:=H'}
    |none=>match lK P J o.op with
     |some e=>e.pre/\aeV kH tr j e/\apa P kH Q rest (j+1) (Qt tr j J.heap.length e) (J.app o.dst e)
     |none=>False)/\
   (b=false->apa P kH Q rest (j+1) tr (J.put o.dst (.sX undef)))
def aJr(P:aTz)(g:aTB)(ps:Array Tmp)(aTo body:aTx)(Q:ot->jT->Prop)(J:jT):Prop:=
 ∀(C:qC)(U:Nat->aTw)(a:Act)(w:aTA),C.P=P->nK C U J a w->(Code.rangeFunc g ps aTo body).wpIn (He none) 0 P (QC C Q) a w
def yC:aTx->Bool
 |.region _ kH _=>kH.toList.all fun o=> !aGB o.op
 |.seq x y=>yC x&&yC y
 |.cond _ x y=>yC x&&yC y
 |.block _ x=>yC x
 |.loop x=>yC x
 |.scope x=>yC x
 |.rangeFunc _ _ _ _=>false
 |_=>true
def awp(P:aTz):aTx->(ot->jT->Prop)->jT->Prop
 |.skip,Q,J=>Q .normal J
 |.region _ kH false,Q,J=>aaB P kH kH.toList Q J
 |.region _ kH true,Q,J=>(P.follows .mixedOrders=true/\Ll kH=true)/\apa P kH Q kH.toList 0 [] J
 |.seq x y,Q,J=>awp P x (ot.then (fun J1=>∃J2,LI J1 J2/\awp P y Q J2) Q) J
 | .cond c x y,Q,J=>match J.ev c with
   |.bool b=>(b=true->awp P x Q J)/\(b=false->awp P y Q J)
   |_=>False
 |.block id x,Q,J=>awp P x (ot.inBlock id Q) J
 |.loop x,Q,J=>∃(I:Nat->jT->Prop)(n:Nat)(J':jT),LI J J'/\I n J'/\
     ∀n J,I n J->awp P x (ot.then (fun J1=>∃n' J',n'<n/\LI J1 J'/\I n' J') Q) J
 |.exit id,Q,J=>Q (.exit id) J
 |.scope x,Q,J=>awp P x (ot.noGoto Q) J
 |.label _,Q,J=>Q .normal J
 |.ret,Q,J=>Q .ret J
 |.goto _,_,_=>False
 |.rangeFunc g ps aTo body,Q,J=>aJr P g ps aTo body Q J
 |.refuse _,_,_=>False
theorem apb{t:Tr}{e:wq}(h:e.idle=true):CW t e=true:=by
 grind [wq.idle,CW,LK]
theorem ark{t:Tr}{e:wq}(h:t.e.idle=true):CW t e=true:=by
 grind [wq.idle,CW,LK]
def asw{e:wq}(h:WH (Qt tr j n e)=true):WH tr=true/\e.up=[]/\e.nw=[]:=by
 grind [Qt,wq.idle,WH]
def aLx(P:aTz)(kH:Array aTv)(Q:ot->jT->Prop)(j m:Nat)(tr:List Tr)(J:jT):Prop:=
 WH tr=true/\∃c x H',j<=c/\c<j+m/\aED P kH c J.heap x H' (cE j m) J/\Q (.panic x) {J with kf:=aeU kH J.kf,heap:=H'}
theorem aLx.step {m:Nat}{tr':List Tr}(ho:kH[j]? =some o)(ht:WH tr'=true->WH tr=true/\∃e:wq,e.up=[]/\e.nw=[]/\e.val=v/\yB P kH o J (fun e'=>e'=e))
 (h:aLx P kH Q (j+1) m tr' (J.put o.dst v)):aLx P kH Q j (m+1) tr J:=by
 obtain⟨h1,c,x,H',h2,h3,h4,h5⟩:=h;obtain⟨k1,k2⟩:=ht h1;refine⟨k1,c,x,H',by omega,by omega,?_,?_⟩
 ·rw[dc];rw[WG]at h4;exact⟨o,v,ho,⟨rfl,.inr (.inr ⟨by omega,k2⟩)⟩,h4⟩
 ·rw[aB6 ho]at h5;cases hd:o.dst<;>rw[hd]at h5<;>exact h5
theorem aB8{e:wq}(hu:e.up=[])(hn:e.nw=[]):J.app d e=J.put d e.val:=by
 rw[show J.app d e=J.app d {val:=e.val,rd:=e.rd,pre:=e.pre} by simp [jT.app,hu,hn]];exact MQ _ _ _ _ _
def aiG(P:aTz)(kH:Array aTv)(Q:ot->jT->Prop)(j n:Nat)(tr:List Tr)(J:jT):Prop:=
 ∃m K,alV P kH K (cE j m) tr J/\((m=n/\K=Q .normal)\/(m<n/\aB5 kH (j+m)=true/\K=ayP P kH (j+m) Q))
theorem aiG.step{e:wq}(ho:kH[j]? =some o)(hst:yB P kH o J (fun e'=>e'=e))(hc:Eo kH tr j e=true)
 (h:aiG P kH Q (j+1) n (tr++[⟨j,J.heap.length,e⟩]) (J.app o.dst e)):aiG P kH Q j (n+1) tr J:=by
 obtain⟨m,K,h,hK⟩:=h;refine⟨m+1,K,?_,?_⟩
 ·rw[dc];exact⟨o,_,ho,hst,fun e' he=>by subst he;exact⟨hc,h⟩⟩
 grind
def Ka{P:aTz}{kH:Array aTv}{Q:ot->jT->Prop}: ∀(rest:List aTv)(j:Nat)(tr tr':List Tr)(J:jT),kH.toList.drop j=rest->(∀t∈tr',t∈tr\/t.e.idle=true)->
 apa P kH Q rest j tr J->aiG P kH Q j rest.length tr' J\/aLx P kH Q j rest.length tr J
 |[],_,_,_,_,_,_,h=>.inl ⟨0,Q .normal,h,.inl ⟨rfl,rfl⟩⟩
 |o::rest,j,tr,tr',J,hd,htr,h=>by
  have ho:kH[j]? =some o:=by
   have:=congrArg (fun l:List aTv=>l[0]?) hd;simpa using this
  have yn:kH.toList.drop (j+1)=rest:=by
   grind [dm]
  have aGG:∀e,aeV kH tr j e->Eo kH tr' j e=true:=by
   intro e he;unfold Eo;rw[List.all_eq_true];intro t ht;rcases he with he|he
   all_goals grind [apb,Eo,ark]
  have aNz:∀n e,∀t∈tr'++[⟨j,n,e⟩],t∈Qt tr j n e\/t.e.idle=true:=by
   grind [Qt]
  have aSr:∀x:AV,({val:=x}:wq).idle=true:=fun _=>rfl
  have aJs:∀n x,∀t∈tr'++[⟨j,n,{val:=x}⟩],t∈tr\/t.e.idle=true:=by
   grind
  simp only[apa]at h;simp only[dx];split at h
  ·exact h.elim
  ·rename_i b hb;cases b with
   |false=>
    have hst:yB P kH o J (fun e=>e={val:=.sX undef}):=.inl ⟨hb,fun _=>bY⟩;rcases Ka rest (j+1) tr (tr'++[⟨j,J.heap.length,{val:=.sX undef}⟩]) _ yn (aJs _ _) (h.2 rfl)with hl|hr
    ·exact .inl (aiG.step ho hst (aGG _ (.inl rfl)) (by rw[MQ];exact hl))
    ·exact .inr (hr.step ho fun ht=>⟨ht,_,rfl,rfl,rfl,hst⟩)
   |true=>
    have h:=h.1 rfl;split at h
    ·rename_i f args hc;rcases h with⟨r,hf,hK⟩|⟨e,hf,hcp,hK⟩|⟨x,H',hp,hsp|⟨ht,hri⟩,hQ⟩
     ·have hst:yB P kH o J (fun e=>e={val:=r}):=.inr (.inr (.inl ⟨hb,f,args,_,hc,hf,⟨r,rfl⟩,fun e=>⟨fun he=>⟨r,rfl,he⟩,fun ⟨r',h1,h2⟩=>by rw[h2,h1]⟩⟩));rcases Ka rest (j+1) tr (tr'++[⟨j,J.heap.length,{val:=r}⟩]) _ yn (aJs _ _) hK with hl|hr
      ·exact .inl (aiG.step ho hst (aGG _ (.inl rfl)) (by rw[MQ];exact hl))
      ·exact .inr (hr.step ho fun ht=>⟨ht,_,rfl,rfl,rfl,hst⟩)
     ·have hst:yB P kH o J (fun e'=>e'=e):=.inr (.inr (.inr ⟨hb,f,args,e,hc,hf,fun _=>bY⟩));rcases Ka rest (j+1) _ (tr'++[⟨j,J.heap.length,e⟩]) _ yn (aNz _ _) hK with hl|hr
      ·grind [aiG.step]
      ·right;have ht:=hr.1;obtain⟨t1,t2,t3⟩:=asw ht;rw[aB8 t2 t3]at hr;exact hr.step ho fun _=>⟨t1,e,t2,t3,rfl,hst⟩
     ·exact .inl ⟨0,ayP P kH j Q,(⟨o,f,args,x,H',ho,hb,hc,hp,hQ⟩:ayP P kH j Q J),.inr ⟨by omega,hsp,rfl⟩⟩
     ·right;refine⟨ht,j,x,H',bZ _,by omega,?_,hQ⟩;rw[dc];refine⟨o,.sX undef,ho,⟨rfl,.inl ⟨rfl,hb,f,args,hc,hp⟩⟩,?_⟩
      grind [Q4,WG]
    ·rename_i hc;split at h
     ·rename_i e he;have hst:yB P kH o J (fun e'=>e'=e):=.inr (.inl ⟨hb,hc,e,he,h.1,fun _=>bY⟩);rcases Ka rest (j+1) _ (tr'++[⟨j,J.heap.length,e⟩]) _ yn (aNz _ _) h.2.2 with hl|hr
      ·grind [aiG.step]
      ·right;have ht:=hr.1;obtain⟨t1,t2,t3⟩:=asw ht;rw[aB8 t2 t3]at hr;exact hr.step ho fun _=>⟨t1,e,t2,t3,rfl,hst⟩
     ·exact h.elim
section sound
variable {C:qC}
def aGH{next:jT->Prop}{aNA:Act->aTA->Prop}(h:∀U J a w,nK C U J a w->next J->aNA a w){e:Exit}
 (hq:QC C (ot.then next Q) e a w):Exit.then aNA (QC C Q) e a w:=by
 cases e with
 |normal=>obtain⟨U,J,S,hn⟩:=hq;exact h U J a w S hn
 |exit id=>exact hq
 |goto l=>exact hq
 |ret=>exact hq
 |panic chain=>exact hq
 |outgrown=>exact hq
def aEG{id:Nat}{e:Exit}(hq:QC C (ot.inBlock id Q) e a w):Exit.inBlock id (QC C Q) e a w:=by
 cases e with
 |exit id'=>
  obtain⟨U,J,S,h⟩:=hq;simp only[ot.inBlock]at h;simp only[Exit.inBlock];split at h
  ·rename_i e;rw[if_pos e];exact⟨U,J,S,h⟩
  ·rename_i e;rw[if_neg e];exact⟨U,J,S,h⟩
 |normal=>exact hq
 |goto l=>exact hq
 |ret=>exact hq
 |panic chain=>exact hq
 |outgrown=>exact hq
def aHG{e:Exit}(hq:QC C (ot.noGoto Q) e a w):Exit.noGoto (QC C Q) e a w:=by
 cases e with
 |goto l=>obtain⟨U,J,S,h⟩:=hq;exact h.elim
 |normal=>exact hq
 |exit id=>exact hq
 |ret=>exact hq
 |panic chain=>exact hq
 |outgrown=>exact hq
def azO{Q:Exit->Act->aTA->Prop}(I:Nat->Act->aTA->Prop)(n₀:Nat)(h₀:I n₀ a w)
 (round:∀m a w,I m a w->c.wpIn F n P (Exit.then (fun a' w'=>∃m',m'<m/\I m' a' w') Q) a w):(Code.loop c).wpIn F n P Q a w:=by
 refine wpIn_loop (fun a w=>∃m,I m a w) (fun a w=>leastOf (fun m=>I m a w)) ⟨n₀,h₀⟩ ?_;intro a w hI;refine wpIn_mono (round _ a w (leastOf_spec hI).1) ?_;intro e a' w' hq;cases e with
 |normal=>
  obtain⟨m',rQ,hI'⟩:=hq;exact⟨⟨m',hI'⟩,Nat.lt_of_le_of_lt ((leastOf_spec ⟨m',hI'⟩).2 m' hI') rQ⟩
 |exit id=>exact hq
 |goto l=>exact hq
 |ret=>exact hq
 |panic chain=>exact hq
 |outgrown=>exact hq
def LM{b:Frame}:step P (lone (b.atR a (.code (.scope c)::k)) cs w)=.next (lone (b.atR a (.code c::.inScope c::k)) cs w):=
 step_lone_go (by simp [stepG,stepG.exec,Frame.atR])
def axi{b:Frame}:step P (lone (b.atR a (.inScope c::k)) cs w)=.next (lone (b.atR a k) cs w):=
 step_lone_go (by simp [stepG,stepG.exec,Frame.atR])
def arl{Q:Exit->Act->aTA->Prop}(h:c.wpIn F n P (Exit.noGoto Q) a w):(Code.scope c).wpIn F n P Q a w:=by
 intro b k cs hro hb hr;have h0:(lone (b.atR a (.code (.scope c)::k)) cs w).fenced P F:=fenced_calm (fr:=b.atR a (.code (.scope c)::k)) hb hr rfl;obtain⟨e,a₁,w₁,hq,axj⟩:=h b (.inScope c::k) cs hro hb hr;cases e with
 |normal=>exact⟨.normal,a₁,w₁,hq,.head h0 LM (StepsIn.trans axj (.one (fenced_calm (fr:=b.atR a₁ (.inScope c::k)) hb hr rfl) axi))⟩
 |exit id=>
  have hx:exitTo id (.inScope c::k)=exitTo id k:=by simp [exitTo]
  exact⟨.exit id,a₁,w₁,hq,fun k' hk=>.head h0 LM (axj.1 k' (by rw[hx];exact hk)),
   fun hr' hk=>let ⟨k₁,h1,h2⟩:=axj.2 hr' (by rw[hx];exact hk);⟨k₁,h1,.head h0 LM h2⟩⟩
 |goto l=>exact hq.elim
 |ret=>exact⟨.ret,a₁,w₁,hq,.of_steps (.one h0 LM) axj⟩
 |panic ch=>exact⟨_,a₁,w₁,hq,.of_steps (.one h0 LM) axj⟩
 |outgrown=>exact⟨_,a₁,w₁,hq,.of_steps (.one h0 LM) axj⟩
def yD{ro:Option Nat}: ∀(c:aTx)(Q:ot->jT->Prop)(U:Nat->aTw)(J:jT)(a:Act)(w:aTA),(ro=none\/yC c=true)->awp C.P c Q J->nK C U J a w->c.wpIn (He ro) 0 C.P (QC C Q) a w
 |.skip,Q,U,J,a,w,_,h,S=>wpIn_skip ⟨U,J,S,h⟩
 | .region id kH false,Q,U,J,a,w,hn,h,S=>by
   have:=aoY (ro:=ro) rfl kH.toList 0 hn (by simp) U J a w h S
   grind [wpIn_region,ct]
 | .region id kH true,Q,U,J,a,w,_,h,S=>by
   obtain⟨⟨hm,aSI⟩,h⟩:=h;rcases Ka kH.toList 0 [] [] J (by simp) (by simp) h with⟨m,K,this,⟨hm',rfl⟩|⟨hm',hsp,rfl⟩⟩|⟨_,c,x,H',_,hc,hI,hQ⟩
   ·refine aEC hm aSI ?_ S
    grind [ct]
   ·rw[Nat.zero_add]at this hsp;exact aEF hm aSI (by simpa using hm') hsp (by rw[ct];exact this) S
   ·refine aEE (c:=c) (x:=x) (H':=H') hm aSI (by simpa using hc) ?_ hQ S
    grind [ct]
 | .seq x y,Q,U,J,a,w,hn,h,S=>
   wpIn_seq (wpIn_mono (yD x _ U J a w (hn.imp id fun h=>(cg _ _ ▸ h:yC x=true/\yC y=true).1) h S) fun _ _ _ hq=>aGH (fun U' J' a' w' S' h'=>by
    obtain⟨J2,JF,h2⟩:=h';obtain⟨U2,S2⟩:=JF C U' a' w' S';exact yD y Q U2 J2 a' w' (hn.imp id fun h=>(cg _ _ ▸ h:yC x=true/\yC y=true).2) h2 S2) hq)
 | .cond c x y,Q,U,J,a,w,hn,h,S=>by
   simp only[awp]at h;have hc:=S.ev c;split at h
   ·rename_i b hb;rw[hb]at hc;simp only[pz]at hc;refine wpIn_cond hc ?_;cases b with
    |true=>exact yD x Q U J a w (hn.imp id fun h=>(cg _ _ ▸ h:yC x=true/\yC y=true).1) (h.1 rfl) S
    |false=>exact yD y Q U J a w (hn.imp id fun h=>(cg _ _ ▸ h:yC x=true/\yC y=true).2) (h.2 rfl) S
   ·exact h.elim
 |.block id x,Q,U,J,a,w,hn,h,S=>wpIn_block (wpIn_mono (yD x _ U J a w hn h S) fun _ _ _ hq=>aEG hq)
 | .loop x,Q,U,J,a,w,hn,h,S=>by
   obtain⟨I,n,J',JF,hI,aN2⟩:=h;obtain⟨U',S'⟩:=JF C U a w S;refine azO (fun n a w=>∃U J,I n J/\nK C U J a w) n ⟨U',J',hI,S'⟩ ?_;rintro n a w ⟨U,J,hI,S⟩;refine wpIn_mono (yD x _ U J a w hn (aN2 n J hI) S) fun _ _ _ hq=>aGH ?_ hq
   rintro U1 J1 a1 w1 S1 ⟨n',J2,rQ,JF,hI'⟩;obtain⟨U2,S2⟩:=JF C U1 a1 w1 S1
   grind
 |.exit id,Q,U,J,a,w,_,h,S=>wpIn_exit ⟨U,J,S,h⟩
 |.scope x,Q,U,J,a,w,hn,h,S=>arl (wpIn_mono (yD x _ U J a w hn h S) fun _ _ _ hq=>aHG hq)
 |.label l,Q,U,J,a,w,_,h,S=>wpIn_label ⟨U,J,S,h⟩
 |.ret,Q,U,J,a,w,_,h,S=>wpIn_ret ⟨U,J,S,h⟩
 |.goto l,Q,U,J,a,w,_,h,S=>h.elim
 | .rangeFunc f p x y,Q,U,J,a,w,hn,h,S=>by
   rcases hn with rfl|hn
   ·exact h C U a w rfl S
   ·cases hn
 |.refuse s,Q,U,J,a,w,_,h,S=>h.elim
def nK.apc{ds:List Deferred}(S:nK C U J {tmps,defers:=⟨.collected D,#[]⟩::ds} w):
 w.heap[D]? =some (.deferred (some []))/\nK C U J {tmps,defers:=ds} (w.putObj D (.deferred none)):=by
 obtain⟨hnd,aLw,hrd⟩:=S.defers;have hmk:aoQ (⟨.collected D,#[]⟩:Deferred)=true:=rfl;simp only[dy,hmk,jN,Bool.not_true,cV,if_false]at hnd hrd;obtain⟨D',hD,h1,h2,h3⟩:=aLw _ (cO) rfl;simp only[Deferred.mk.injEq,Target.collected.injEq,and_true]at hD;subst hD;refine⟨h1,?_⟩;have En:∀b,b≠D->(w.putObj D (.deferred none)).heap[b]? =w.heap[b]? :=fun b hb=>World.putObj_heap_other hb
 have ub:∀b o,(w.putObj D (.deferred none)).cell? ⟨b,o,none⟩=w.cell? ⟨b,o,none⟩:=by
  grind [World.cell?,World.putObj_heap_same]
 have hty:tyk w (w.putObj D (.deferred none)):=azz h1 (by intro c t fz h;cases h) En
 have le:(C.env U J.heap w).Le J.heap.length (C.env U J.heap (w.putObj D (.deferred none))):=
  qC.CR (bZ _) (fun _ _=>⟨rfl,rfl⟩) (fun b o u hm hc=>⟨hm,by rw[ub];exact hc⟩)
 have BY:tf C U J.heap (w.putObj D (.deferred none)) J.df ds:=by
  rw[dz]at hnd;refine⟨hnd.2,fun d hd hm=>?_,hrd.mono le⟩
  grind
 refine {kf:=kQ.mono le _ _ (kQ.nb _ _ S.kf) S.kf,defers:=BY,oB:=?_,apart:=S.apart,uf:=S.uf,size:=by grind [World.putObj_size],old:=fun b o hb hm=>by rw[ub];exact S.old b o hb hm,n9:=?_,Cl:=S.Cl,xf:=?_,rest:=S.rest,low:=S.low,mF:=S.mF}
 ·intro l x hx;exact oP.mono (S.oB l x hx) le (fun b hb=>En b (fun e=>by subst e;exact h3 l x hx hb))
 ·intro b hb hm;rw[En b (by omega)];exact S.n9 b hb hm
 ·intro x hx hm0;rw[<-S.xf x hx hm0]
  grind [World.frozen?]
def nK.aGI{fn:Func}{R:aTC->aTA->Prop}{tm:Array aTw}(hu:u≠ .run)(hdf:J.df=[]):∀(ds:List Deferred)(w:aTA),nK C U J {tmps,defers:=ds} w->
 (∀w',nK C U J {tmps,defers:=[]} w'->LeavesIn cf 0 C.P fn tm R [] u w')->LeavesInM cf 0 C.P fn tm R ds u w
 |[],w,S,h=>h w S
 |d::ds,w,S,h=>by
  have hm:aoQ d=true:=by
   have:=S.defers.2.2;rw[hdf]at this;have anO:(d::ds).filter (fun d=> !aoQ d)=[]:=this;rw[List.filter_eq_nil_iff]at anO;simpa using anO d (cO)
  obtain⟨D,hD,_⟩:=S.defers.2.1 d (cO) hm;subst hD;obtain⟨h1,S'⟩:=S.apc;exact⟨hu,.inl ⟨D,_,rfl,run_takeDeferred h1,nK.aGI hu hdf ds _ S' h⟩⟩
end sound
def au3 (P:aTz) (J:jT):ResultVar->Option AV
 |.tmp t=>some (J.kf.getD t .any)
 | .cell d t=>match mS P t,J.kf.getD d .any with
   |some (g,n),.ptr l off=>match J.heap[l]? with
    |some (.cells cs)=>kq g n (cs.drop off)
    |_=>none
   |_,_=>none
def Bu(P:aTz)(J:jT):List ResultVar->Option (List AV)
 |[]=>some []
 |r::rs=>match au3 P J r,Bu P J rs with
  |some x,some xs=>some (x::xs)
  |_,_=>none
def aSJ(P:aTz)(J:jT)(rs:List ResultVar):Option AV:=
 match Bu P J rs with
 |some [x]=>some x
 |some xs=>some (.asN xs)
 |none=>none
section results
variable {C:qC}
def azP(S:nK C U J a w){r:ResultVar}(h:au3 C.P J r=some x):
 ∃v,(match r with|.tmp t=>pure (a.tmps.getD t undef)|.cell d t=>(do loadVar t (<-asAddr (a.tmps.getD d undef))):Sem aTw).run C.P w=.ok v w/\pz (C.env U J.heap w) x v:=by
 cases r with
 |tmp t=>
  simp only[au3,bU]at h;subst h;exact⟨_,rfl,S.ev (.tmp t)⟩
 |cell d t=>
  simp only[au3]at h;have hd:=S.ev (.tmp d);simp only[jT.ev]at hd;split at h
  ·rename_i g n l off ht hp;rw[hp]at hd;split at h
   ·rename_i cs hl;obtain⟨u,hu,ru⟩:=aBO S ht hl h hd;obtain⟨_,b,_,hv⟩:=hd;refine⟨u,?_,ru⟩;have hv':a.tmps.getD d undef=.pointer (some ⟨b,off,none⟩):=hv
    grind [asAddr,Instr.loadAt,Instr.sureAddr]
   ·cases h
  ·cases h
def amJ(S:nK C U J a w):∀{rs:List ResultVar}{xs:List AV},Bu C.P J rs=some xs->
 ∃vs:List aTw,(rs.mapM fun|.tmp t=>pure (a.tmps.getD t undef)|.cell d t=>(do loadVar t (<-asAddr (a.tmps.getD d undef))):Sem (List aTw)).run C.P w=.ok vs w/\kQ (C.env U J.heap w) xs vs
 |[],_,h=>by simp only[Bu,bU]at h;subst h;exact⟨[],rfl,rfl⟩
 |r::rs,xs,h=>by
  simp only[Bu]at h;split at h
  ·rename_i x ys h1 h2;cases h;obtain⟨v,hv,rv⟩:=azP S h1;obtain⟨vs,hvs,rvs⟩:=amJ S h2;refine⟨v::vs,?_,v,vs,rfl,rv,rvs⟩
   simp_all
  ·cases h
def Rr(S:nK C U J a w){fn:Func}(h:aSJ C.P J fn.results.toList=some x):∃v,(results fn a.tmps).run C.P w=.ok v w/\pz (C.env U J.heap w) x v:=by
 unfold aSJ at h
 have key:∀xs,Bu C.P J fn.results.toList=some xs->∃vs:List aTw,(results fn a.tmps).run C.P w=.ok (if hh:vs.toArray.size=1 then vs.toArray[0] else .tuple vs.toArray) w/\kQ (C.env U J.heap w) xs vs:=by
  intro xs hx;obtain⟨vs,hvs,rvs⟩:=amJ S hx;refine⟨vs,?_,rvs⟩;unfold results;rw[Array.mapM_eq_mapM_toList];simp only[Sem.run_bind,Sem.run_map,Sem.run_pure];generalize hq:Sem.run C.P (List.mapM _ fn.results.toList) w=q;have hq':q=.ok vs w:=by rw[<-hq];exact hvs
  subst hq';simp
 split at h
 ·grind [kQ]
 ·rename_i xs sB hx;cases h;obtain⟨vs,hv,rl⟩:=key _ hx;refine⟨_,hv,?_⟩;have hlen:=rl.length
  have hn1: ¬ vs.toArray.size=1:=by
   intro h1;have h2:xs.length=1:=by simp at h1;omega
   match xs,h2 with
   |[y],_=>exact sB y rfl
  rw[dif_neg hn1];exact⟨vs.toArray,rfl,rl⟩
 ·cases h
end results
def apd{V:AV->Prop}(h:JE P f aB9 V)(hs:qn args aB9)(hn:ua 0 args):JE P f args V:=by
 obtain⟨he,_,hc⟩:=h;exact⟨he,hn,fun C U w hP h0 hN hM vs hr=>hc C U w hP h0 hN hM vs (hs _ _ hr)⟩
def aHH(V:AV->Prop)(H:List j6):Option AV->Prop
 |some x=>(frz 0 H x).nb 0/\∃r,Pg (frz 0 H x) r/\V r
 |none=>False
def aLy(P:aTz)(rs:List ResultVar)(V:AV->Prop):ot->jT->Prop
 |.normal,J=>J.df=[]/\aHH V J.heap (aSJ P J rs)
 |.ret,J=>J.df=[]/\aHH V J.heap (aSJ P J rs)
 |_,_=>False
def aCa{fn:Func}{V:AV->Prop}(hf:P.funcs[f]? =some fn)(hb:fn.body=some c)(sB:(fn.name != "runtime.NumGoroutine")=true)(G8:ua 0 args)
 (h:awp P c (aLy P fn.results.toList V) {kf:=args++cm (fn.ntmps-args.length) .any,heap:=[]}):JE P f args V:=by
 refine⟨?_,G8,fun C U w hP h0 hN hM vs hr=>?_⟩
 ·grind [enters]
 ·subst hP;refine(callsIn_wide (n:=0)).1 (callsIn_of_wp_marks hf hb trivial ?_);have hsz:vs.size=args.length:=by have:=hr.length;simpa using this
  have S:nK C U {kf:=args++cm (fn.ntmps-args.length) .any,heap:=[]} {tmps:=vs++b9 (fn.ntmps-vs.size) undef,defers:=[]} w:=by
   refine {kf:=?_,defers:=tf.nil,oB:=by simp,apart:=by simp,uf:=by simp,size:=by rw[h0];exact bZ _,old:=fun b o _ _=>by rw[h0],n9:=fun b _ _=>by rw[h0],Cl:=by simp,xf:=fun x _ _=>by rw[h0],rest:=by rw[h0];exact⟨rfl,rfl⟩,low:=⟨hN,bZ _⟩,mF:=fun l hl=>by grind};simp only[cT,cY];refine hr.append ?_;rw[hsz];have:=kQ.FP (E:=C.env U [] w) (cm (fn.ntmps-args.length) undef);simpa using this
  refine wpIn_mono (yD (ro:=none) c _ U _ _ w (.inl rfl) h S) ?_;intro e a' w' hq
  have zx:∀U' J',nK C U' J' a' w'->J'.df=[]/\aHH V J'.heap (aSJ C.P J' fn.results.toList)->
   LeavesInM cf 0 C.P fn a'.tmps (fun e w'=>∃r v U',V r/\e=.returned v/\pz (C.env U' [] w') r v/\w.heap.size<=w'.heap.size/\(∀b,b<w.heap.size->w'.heap[b]? =w.heap[b]?)/\
    (∀x,x.block<w.heap.size->w'.frozen? x=w.frozen? x)/\w'.output=w.output/\w'.os=w.os) a'.defers .returning w':=by
   intro U' J' S' ⟨hdf,aaD⟩;refine nK.aGI (by simp) hdf _ _ S' (fun w' S'=>?_);cases hx:aSJ C.P J' fn.results.toList with
   |none=>rw[hx]at aaD;exact aaD.elim
   |some x=>
   rw[hx]at aaD;obtain⟨hn,r0,ao2,hV⟩:=aaD;obtain⟨v,hv,rv⟩:=Rr S' hx;refine⟨v,hv,_,v,U',hV,rfl,ao2 _ _ (by have:=arh S' (S'.aNw (by rw[<-S'.low.1];exact hN)) x v;rw[<-S'.low.1,hN]at this;exact this hn rv),?_,?_,?_,?_⟩
   ·rw[<-h0];exact S'.size
   ·intro b hb;rw[<-h0];exact S'.n9 b (by rw[h0];exact hb) (fun o=>hM b o)
   ·intro y hy;rw[<-h0];exact S'.xf y (by rw[h0];exact hy) (fun o=>hM y.block o)
   ·rw[<-h0];exact S'.rest
  cases e with
  |normal=>obtain⟨U',J',S',hq⟩:=hq;exact zx U' J' S' hq
  |ret=>obtain⟨U',J',S',hq⟩:=hq;exact zx U' J' S' hq
  |exit id=>obtain⟨_,_,_,hq⟩:=hq;exact hq.elim
  |goto l=>obtain⟨_,_,_,hq⟩:=hq;exact hq.elim
  |panic chain=>obtain⟨_,_,_,_,_,hq,_⟩:=hq;exact hq.elim
  |outgrown=>exact hq.elim
section co

def Co1.sub(h:Pg x y)(hn:y.nb n):Co1 H n x y:=.inl ⟨h,hn⟩
def Co.any:Co H n x .any:=.inl (.inl ⟨Pg.any _,trivial⟩)
theorem Co.same(h:x.nb n):Co H n x x:=.inl (.inl ⟨Pg.refl _,h⟩)
def Co.sub(h:Pg x y)(hn:y.nb n):Co H n x y:=.inl (.inl ⟨h,hn⟩)
theorem At.nil:At H n [] []:=rfl
theorem At.cons(h:Co H n x y)(hs:At H n xs ys):At H n (x::xs) (y::ys):=⟨y,ys,rfl,h,hs⟩
theorem CoH.nil{xs:List j6}:CoH H n xs []:=by cases xs<;>trivial
theorem At.same(h:ua n xs):At H n xs xs:=by
 induction xs with
 |nil=>rfl
 |cons x xs ih=>exact At.cons (Co.same h.1) (ih h.2)
end co
def WI{X:AV}(h:JE P f aB9 (fun r=>r=X))(hs:At J.heap n args aB9):Bt P f args J (fun o H=>o=.ret X/\H=J.heap):=by
 obtain⟨he,hc⟩:=ao0 (J:=J) (K:=fun o H=>o=.ret X/\H=J.heap) h (fun r hr=>⟨by rw[hr],rfl⟩);exact⟨he,fun C U a w hP S vs hr=>hc C U a w hP S vs (At.aRy S hs hr)⟩
def stP:Option aTx->LoopState
 |none=>.ready
 |some _=>.done
theorem azQ(c:Option aTx):stP c≠ .busy:=by cases c<;>simp [stP]
section
variable {C:qC}
def nK.aJt(S:nK C U J a w)(k:xP)(rec:Loop)(hs:kQ (C.env U J.heap w) kf rec.tmps.toList)
 (ahJ:rec.params=k.ps/\rec.assign=k.assign/\rec.body=k.body/\rec.state=.ready/\rec.pending=none/\rec.defers=w.heap.size):
 nK C (fun l=>if l=J.heap.length then .func (.yield (w.heap.size+1)) #[] #[] else U l) {J with heap:=J.heap++[.loop k kf .ready 0]} a ((w.alloc (.deferred (some []))).alloc (.loop rec)):=by
 let U':Nat->aTw:=fun l=>if l=J.heap.length then .func (.yield (w.heap.size+1)) #[] #[] else U l
 let w':=(w.alloc (.deferred (some []))).alloc (.loop rec)
 have hφ:∀l,l<J.heap.length->U' l=U l:=fun l hl=>by grind
 have hφn:U' J.heap.length=.func (.yield (w.heap.size+1)) #[] #[]:=by simp [U']
 have hsz:w'.heap.size=w.heap.size+2:=by
  show(World.more (World.more w _) _).heap.size=_;rw[Wu,Wu]
 have hold:∀b,b<w.heap.size->w'.heap[b]? =w.heap[b]? :=by
  intro b hb;show(World.more (World.more w _) _).heap[b]? =_
  grind [zg]
 have hD:w'.heap[w.heap.size]? =some (.deferred (some [])):=by
  show(World.more (World.more w _) _).heap[_]? =_
  grind [World.more]
 have hL:w'.heap[w.heap.size+1]? =some (.loop rec):=by
  have:=ay4 (World.more w (.deferred (some []))) (.loop rec);rw[Wu]at this;exact this
 have oa:∀(l:Nat)(x:j6),(J.heap++[.loop k kf .ready 0])[l]? =some x->(l<J.heap.length/\J.heap[l]? =some x)\/(l=J.heap.length/\x=.loop k kf .ready 0):=by
  grind
 have ub:∀b o,b<w.heap.size->w'.cell? ⟨b,o,none⟩=w.cell? ⟨b,o,none⟩:=by
  grind [World.cell?]
 have G8:∀b,(j6.loop k kf .ready 0).block (U' J.heap.length) b->w.heap.size<=b:=by
  intro b hb;rw[hφn]at hb;rcases hb with rfl|hb<;>omega
 have Ph:∀b o,G9 U' (J.heap++[.loop k kf .ready 0]) b o->w.heap.size<=b\/G9 U J.heap b o:=by
  rintro b o ⟨l,x,hx,hm⟩;rcases oa l x hx with⟨hl,hx⟩|⟨rfl,rfl⟩
  ·rw[hφ l hl]at hm;exact .inr ⟨l,x,hx,hm⟩
  grind [j6.ou]
 have le:(C.env U J.heap w).Le J.heap.length (C.env U' (J.heap++[.loop k kf .ready 0]) w'):=by
  refine qC.CR (by simp) (fun l hl=>⟨hφ l hl,by rw[cn hl]⟩) (fun b i u hm hc=>?_)
  grind [GA]
 have BY:tf C U' (J.heap++[.loop k kf .ready 0]) w' J.df a.defers:=by
  refine S.defers.step le (fun b hb _=>hold b hb) (fun l x b hx hb=>?_)
  grind
 refine {kf:=kQ.mono le _ _ (kQ.nb _ _ S.kf) S.kf,defers:=BY,oB:=?_,apart:=?_,uf:=?_,size:=by show _<=w'.heap.size;have:=S.size;omega,old:=?_,n9:=?_,Cl:=?_,xf:=?_,rest:=S.rest,low:=⟨S.low.1,by have:=S.low.2;simp;omega⟩,mF:=?_}
 ·intro l x hx;show oP _ x (U' l);rcases oa l x hx with⟨hl,hx⟩|⟨rfl,rfl⟩
  ·have r0:=S.oB l x hx;rw[hφ l hl];exact oP.mono r0 le (fun b hb=>hold b (r0.qQ hb))
  ·rw[hφn];exact⟨w.heap.size,rec,rfl,hL,hD,ahJ,kQ.mono le _ _ (kQ.nb _ _ hs) hs⟩
 ·intro l l' x x' b hx Ea hb sC;have hb:x.block (U' l) b:=hb;have sC:x'.block (U' l') b:=sC;rcases oa l x hx with⟨hl,hx⟩|⟨rfl,rfl⟩<;>rcases oa l' x' Ea with⟨hl',Ea⟩|⟨rfl,rfl⟩
  ·rw[hφ l hl]at hb;rw[hφ l' hl']at sC;exact S.apart l l' x x' b hx Ea hb sC
  ·rw[hφ l hl]at hb;have h1:=(S.oB l x hx).qQ hb
   grind [qC.env]
  ·rw[hφ l' hl']at sC;have h1:=(S.oB l' x' Ea).qQ sC
   grind [qC.env]
  ·rfl
 ·intro l x b o hx hb;have hb:x.block (U' l) b:=hb;rcases oa l x hx with⟨hl,hx⟩|⟨rfl,rfl⟩
  ·rw[hφ l hl]at hb;exact S.uf l x b o hx hb
  ·intro hA;have h1:=C.hA _ _ hA;have h2:=G8 b hb;have:=S.size;omega
 ·intro b i hb hm;rw[ub b i (bW hb S.size)];exact S.old b i hb hm
 ·intro b hb hm;rw[hold b (bW hb S.size)];exact S.n9 b hb hm
 ·intro l x b o hx hm hb;have hm:x.Bf (U' l) b o:=hm;rcases oa l x hx with⟨hl,hx⟩|⟨rfl,rfl⟩
  ·rw[hφ l hl]at hm;exact S.Cl l x b o hx hm hb
  ·have h2:=G8 b (j6.ou hm);have:=S.size;omega
 ·intro x hx hm0;have h1:=xh (World.more w (.deferred (some []))) (.loop rec) (by intro c t lo hi h;cases h) x;have h2:=xh w (.deferred (some [])) (by intro c t lo hi h;cases h) x;exact(h1.trans h2).trans (S.xf x hx hm0)
 ·intro l hl;have rQ:l<J.heap.length:=by have:=S.low;omega
  have:=S.mF l hl
  grind
def nK.azR(S:nK C U J a w){k:xP}{st':LoopState}{Pq:Int}{rec:Loop}(hl:J.heap[l]? =some (.loop k kf st uD))(hφ:U l= .func (.yield (D+1)) #[] #[])
 (hw:w.heap[D+1]? =some (.loop rec)):nK C U {J with heap:=J.heap.set l (.loop k kf st' Pq)} a (w.putObj (D+1) (.loop {rec with state:=st',pending:=pX k.js Pq})):=by
 have rQ:l<J.heap.length:=(bV.1 hl).1;have aJb:=(dr.1 hw).1
 have oa:∀(j:Nat)(x:j6),(J.heap.set l (.loop k kf st' Pq))[j]? =some x->(j=l/\x=.loop k kf st' Pq)\/(j≠l/\J.heap[j]? =some x):=by
  grind
 have hbb:(j6.loop k kf st uD).block (U l) (D+1):=by rw[hφ];exact .inl rfl
 have hmb:∀o,(j6.loop k kf st uD).Bf (U l) (D+1) o:=by intro o;rw[hφ];exact .inl rfl
 have En:∀b,b≠D+1->(w.putObj (D+1) (.loop {rec with state:=st',pending:=pX k.js Pq})).heap[b]? =w.heap[b]? :=fun b hb=>World.putObj_heap_other hb
 have ub:∀b o,(w.putObj (D+1) (.loop {rec with state:=st',pending:=pX k.js Pq})).cell? ⟨b,o,none⟩=w.cell? ⟨b,o,none⟩:=by
  grind [World.cell?,World.putObj_heap_same]
 have JD:∀b,(j6.loop k kf st' Pq).block (U l) b->(j6.loop k kf st uD).block (U l) b:=by intro b hb;rw[hφ]at hb ⊢;exact hb
 have aBN:∀b o,(j6.loop k kf st' Pq).Bf (U l) b o->(j6.loop k kf st uD).Bf (U l) b o:=by intro b o hb;rw[hφ]at hb ⊢;exact hb
 have Ph:∀b o,G9 U (J.heap.set l (.loop k kf st' Pq)) b o->G9 U J.heap b o:=by
  rintro b o ⟨j,x,hx,hm⟩;rcases oa j x hx with⟨rfl,rfl⟩|⟨_,hx⟩
  ·exact⟨j,_,hl,aBN b o hm⟩
  ·exact⟨j,x,hx,hm⟩
 have hlen:∀j:Nat,mT (J.heap.set l (.loop k kf st' Pq))[j]? =mT J.heap[j]? :=by
  intro j;by_cases e:j=l
  ·subst e;rw[dA rQ,hl];rfl
  grind
 have hty:=azz (w':=w.putObj (D+1) (.loop {rec with state:=st',pending:=pX k.js Pq})) hw (by intro c t fz h;cases h) En
 have le:(C.env U J.heap w).Le J.heap.length (C.env U (J.heap.set l (.loop k kf st' Pq)) (w.putObj (D+1) (.loop {rec with state:=st',pending:=pX k.js Pq}))):=
  qC.CR (by simp) (fun j _=>⟨rfl,hlen j⟩) (fun b o u hm hc=>⟨fun h=>hm (h.imp (Ph b o) id),by rw[ub];exact hc⟩)
 have BY:tf C U (J.heap.set l (.loop k kf st' Pq)) (w.putObj (D+1) (.loop {rec with state:=st',pending:=pX k.js Pq})) J.df a.defers:=by
  refine S.defers.step le (fun b _ hno=>En b (fun e=>by subst e;exact hno l _ hl hbb)) (fun j x b hx hb=>?_)
  grind
 refine {kf:=kQ.mono le _ _ (kQ.nb _ _ S.kf) S.kf,defers:=BY,oB:=?_,apart:=?_,uf:=?_,size:=by rw[World.putObj_size];exact S.size,old:=fun b o hb hm=>by rw[ub];exact S.old b o hb hm,n9:=?_,Cl:=?_,xf:=?_,rest:=S.rest,low:=⟨S.low.1,by simpa using S.low.2⟩,mF:=?_}
 ·intro j x hx;rcases oa j x hx with⟨rfl,rfl⟩|⟨sB,hx⟩
  ·obtain⟨D',aiH,e1,g1,g2,g3,rl⟩:=S.oB j _ hl;rw[hφ]at e1;simp only[dh,Fn.yield.injEq,cG,and_true]at e1;subst e1
   have hwr:aiH=rec:=by
    have g1:w.heap[D+1]? =some (.loop aiH):=g1;rw[hw]at g1;cases g1;rfl
   subst hwr;refine⟨D,_,hφ,World.putObj_heap_same aJb,?_,⟨g3.1,g3.2.1,g3.2.2.1,rfl,rfl,g3.2.2.2.2.2⟩,kQ.mono le _ _ (kQ.nb _ _ rl) rl⟩;show(w.putObj (D+1) _).heap[D]? =_;rw[En D (by omega)];exact g2
  ·exact oP.mono (S.oB j x hx) le (fun b hb=>En b (fun e=>by subst e;exact sB (S.apart j l x _ (D+1) hx hl hb hbb)))
 ·intro j j' x x' b hx Ea hb sC;rcases oa j x hx with⟨rfl,rfl⟩|⟨sB,hx1⟩<;>rcases oa j' x' Ea with⟨e2,rfl⟩|⟨axc,VV⟩
  ·exact e2.symm
  ·exact S.apart j j' _ x' b hl VV (JD b hb) sC
  ·rw[e2]at sC ⊢;exact S.apart j l x _ b hx1 hl hb (JD b sC)
  ·exact S.apart j j' x x' b hx1 VV hb sC
 ·intro j x b o hx hb;rcases oa j x hx with⟨rfl,rfl⟩|⟨_,hx⟩
  ·exact S.uf j _ b o hl (JD b hb)
  ·exact S.uf j x b o hx hb
 ·intro b hb hm;rw[En b (fun e=>by subst e;exact hm 0 (S.Cl l _ (D+1) 0 hl (hmb 0) hb))];exact S.n9 b hb hm
 ·intro j x b o hx hm hb;rcases oa j x hx with⟨rfl,rfl⟩|⟨_,hx⟩
  ·exact S.Cl j _ b o hl (aBN b o hm) hb
  ·exact S.Cl j x b o hx hm hb
 ·intro x hx hm0;rw[<-S.xf x hx hm0]
  grind [World.frozen?,World.putObj_heap_same]
 ·intro j hj;have:=S.mF j hj;rw[hlen j];exact this
def nK.endLoop(S:nK C U J a w){k:xP}(hl:J.heap[l]? =some (.loop k kf st uD))(hφ:U l= .func (.yield (D+1)) #[] #[])(hD:C.w0.heap.size<=D):
 nK C U {J with heap:=J.heap.set l .vz} {a with defers:=⟨.collected D,#[]⟩::a.defers} w:=by
 have rQ:l<J.heap.length:=(bV.1 hl).1;have aSF:C.N0<=l\/l<C.N0:=by omega
 have aPL:∀b o,G9 U (J.heap.set l .vz) b o->G9 U J.heap b o:=by
  rintro b o ⟨j,x,hx,hm⟩;by_cases e:j=l
  ·grind [j6.Bf]
  ·rw[dj (fun h=>e h.symm)]at hx;exact⟨j,x,hx,hm⟩
 have oa:∀(j:Nat)(x:j6),(J.heap.set l .vz)[j]? =some x->(j=l/\x=.vz)\/(j≠l/\J.heap[j]? =some x):=by
  grind
 have hlen:∀j:Nat,mT (J.heap.set l .vz)[j]? =mT J.heap[j]? :=by
  intro j;by_cases e:j=l
  ·subst e;rw[dA rQ,hl];rfl
  grind
 have le:(C.env U J.heap w).Le J.heap.length (C.env U (J.heap.set l .vz) w):=
  qC.CR (by simp) (fun j _=>⟨rfl,hlen j⟩) (fun b o u hm hc=>⟨fun h=>hm (h.imp (aPL b o) id),hc⟩)
 have hbD:(j6.loop k kf st uD).block (U l) D:=by rw[hφ];exact .inr rfl
 have BY:tf C U (J.heap.set l .vz) w J.df (⟨.collected D,#[]⟩::a.defers):=by
  obtain⟨hnd,aLw,hrd⟩:=S.defers;have hmk:aoQ (⟨.collected D,#[]⟩:Deferred)=true:=rfl;refine⟨?_,fun d hd hm=>?_,?_⟩
  ·grind
  ·rcases cx.1 hd with rfl|hd
   ·refine⟨D,rfl,?_,hD,fun j x hx hb=>?_⟩
    ·obtain⟨D',aiH,e1,g1,g2,_⟩:=S.oB l _ hl;rw[hφ]at e1;simp only[dh,Fn.yield.injEq,cG,and_true]at e1;subst e1;exact g2
    ·rcases oa j x hx with⟨rfl,rfl⟩|⟨sB,hx⟩
     ·simp [j6.block]at hb
     ·exact sB (S.apart j l x _ D hx hl hb hbD)
   grind [j6.block]
  ·simp only[dy,hmk,Bool.not_true,cV,if_false];exact hrd.mono le
 refine {kf:=kQ.mono le _ _ (kQ.nb _ _ S.kf) S.kf,defers:=BY,oB:=?_,apart:=?_,uf:=?_,size:=S.size,old:=S.old,n9:=S.n9,Cl:=?_,xf:=S.xf,rest:=S.rest,low:=⟨S.low.1,by simpa using S.low.2⟩,mF:=?_}
 ·intro j x hx;rcases oa j x hx with⟨rfl,rfl⟩|⟨_,hx⟩
  ·trivial
  ·exact oP.mono (S.oB j x hx) le (fun _ _=>rfl)
 ·intro j j' x x' b hx Ea hb sC;rcases oa j x hx with⟨rfl,rfl⟩|⟨_,hx⟩
  ·simp [j6.block]at hb
  ·rcases oa j' x' Ea with⟨rfl,rfl⟩|⟨_,Ea⟩
   ·simp [j6.block]at sC
   ·exact S.apart j j' x x' b hx Ea hb sC
 ·intro j x b o hx hb;rcases oa j x hx with⟨rfl,rfl⟩|⟨_,hx⟩
  ·simp [j6.block]at hb
  ·exact S.uf j x b o hx hb
 ·intro j x b o hx hm hb;rcases oa j x hx with⟨rfl,rfl⟩|⟨_,hx⟩
  ·simp [j6.Bf]at hm
  ·exact S.Cl j x b o hx hm hb
 ·intro j hj;have:=S.mF j hj;rw[hlen j];exact this
def aPM(Q:ot->jT->Prop)(J:jT):Option aTx->Prop
 |none=>Q .normal J
 |some .ret=>Q .ret J
 |some (.exit id)=>Q (.exit id) J
 |_=>False
def aCb{g:aTB}{ps:Array Tmp}{aTo body:aTx}{js:List (Int×aTx)}{first cap:List AV}(hg:J.ev g= .func (.func f) first cap)
 (xR:Bt P f (first++[.map J.heap.length]++cap) {J with kf:=J.kf++[.map J.heap.length],heap:=J.heap++[.loop ⟨ps,aTo,body,js⟩ J.kf .ready 0]}
   (fun o H'=>∃r k s uD,o=.ret r/\H'[J.heap.length]? =some (.loop k s (stP (pX k.js uD)) uD)/\aPM Q {J with heap:=H'.set J.heap.length .vz} (pX k.js uD))):aJr P g ps aTo body Q J:=by
 intro C U a w hP S;subst hP;refine wpIn_rangeFunc ?_;intro fn _;have hx:=S.ev g;rw[hg]at hx;obtain⟨f',c',hx,rf,rc⟩:=hx
 let lp:Loop:={state:=.ready,pending:=none,fn,tmps:=a.tmps,params:=ps,assign:=aTo,body,defers:=w.heap.size}
 let w1:=(w.alloc (.deferred (some []))).alloc (.loop lp)
 let aSQ:aTw:=.func (.yield (w.heap.size+1)) #[] #[]
 have S1:=S.aJt ⟨ps,aTo,body,js⟩ lp S.kf ⟨rfl,rfl,rfl,rfl,rfl,rfl⟩
 have rY:pz (C.env (fun l=>if l=J.heap.length then aSQ else U l) (J.heap++[.loop ⟨ps,aTo,body,js⟩ J.kf .ready 0]) w1) (.map J.heap.length) aSQ:=by
  refine⟨by simp [qC.env],by simp [qC.env,aSQ],w.heap.size+1,?_⟩;simp [qC.env,aSQ,hdl]
 have S2:nK C (fun l=>if l=J.heap.length then aSQ else U l) {J with kf:=J.kf++[.map J.heap.length],heap:=J.heap++[.loop ⟨ps,aTo,body,js⟩ J.kf .ready 0]} {a with tmps:=a.tmps.push aSQ} w1:=by
  refine {S1 with kf:=?_,defers:=S1.defers};simp only[cC];exact S1.kf.append ⟨aSQ,[],rfl,rY,rfl⟩
 have hle:(C.env U J.heap w).Le J.heap.length (C.env (fun l=>if l=J.heap.length then aSQ else U l) (J.heap++[.loop ⟨ps,aTo,body,js⟩ J.kf .ready 0]) w1):=by
  refine qC.CR (ht:=(aoP _ rfl).trans (aoP _ rfl)) (by simp) (fun l hl=>⟨by rw[if_neg (by omega)],by rw[cn hl]⟩) (fun b i u hm hc=>?_);have hb:=GA hc
  have hold:w1.heap[b]? =w.heap[b]? :=by
   show(World.more (World.more w _) _).heap[b]? =_
   grind [World.more]
  refine⟨fun h=>?_,by grind [World.cell?]⟩;rcases h with⟨l,x,hx,hm'⟩|h
  ·by_cases hl:l<J.heap.length
   ·rw[cn hl]at hx;have hm':x.Bf (if l=J.heap.length then aSQ else U l) b i:=hm';rw[if_neg (by omega)]at hm';exact hm (.inl ⟨l,x,hx,hm'⟩)
   ·have hl':l=J.heap.length:=by
     grind
    subst hl';simp at hx;subst hx;have hm':(j6.loop ⟨ps,aTo,body,js⟩ J.kf .ready 0).Bf (if J.heap.length=J.heap.length then aSQ else U J.heap.length) b i:=hm';rw[if_pos rfl]at hm';rcases hm' with rfl|h<;>omega
  ·exact hm (.inr h)
 have Zh:kQ (C.env (fun l=>if l=J.heap.length then aSQ else U l) (J.heap++[.loop ⟨ps,aTo,body,js⟩ J.kf .ready 0]) w1) (first++[.map J.heap.length]++cap) (f'++ #[aSQ]++c').toList:=by
  have hY:kQ (C.env (fun l=>if l=J.heap.length then aSQ else U l) (J.heap++[.loop ⟨ps,aTo,body,js⟩ J.kf .ready 0]) w1) [.map J.heap.length] [aSQ]:=⟨aSQ,[],rfl,rY,rfl⟩;simp only[cT];exact((kQ.mono hle _ _ (kQ.nb _ _ rf) rf).append hY).append (kQ.mono hle _ _ (kQ.nb _ _ rc) rc)
 obtain⟨he,hc⟩:=xR
 have Pr: ∃fnc,C.P.funcs[f]? =some fnc/\fnc.name≠ "runtime.NumGoroutine" /\fnc.body≠none:=by
  grind [enters]
 obtain⟨fnc,hf,aPN,ayI⟩:=Pr;refine⟨w.heap.size+1,[⟨.collected w.heap.size,#[]⟩],w1,{target:=.fn (.func f) c',args:=f'++ #[aSQ]},w1,f,f'++ #[aSQ]++c',w1,?_,?_,fun _ _=>trivial,?_,fun h=>by simp [He,cf]at h,?_⟩
 ·exact run_enterLoop_outer _ _ _ _ _
 ·have hev:a.eval g=.func (.func f) f' c':=hx;have hY2:a.eval (.const aSQ)=aSQ:=rfl;simp [resolve,hev,Deferred.ofValue];rfl
 ·simp [invoke,callFunc,hf,aPN,ayI]
 ·refine LJ.2 ((hc C _ _ w1 rfl S2 _ Zh).mono ?_);rintro e w' ⟨o,U2,H',⟨r,k,s,uD,rfl,hH,hj⟩,S3,uu⟩;cases e with
  |panicked chain=>exact uu.elim
  |outgrown=>exact uu.elim
  |returned v=>
   have aJu:U2 J.heap.length=aSQ:=by
    have hsl:=S3.kf;have hlen:a.tmps.toList.length=J.kf.length:=S.kf.length;have:=hsl.drop J.kf.length;simp only[cC]at this;rw[cN rfl,cN hlen]at this;obtain⟨u,us,he2,r1,_⟩:=this;simp only[cq]at he2;obtain⟨rfl,_⟩:=he2;exact r1.2.1.symm
   have S4:nK C U2 {J with heap:=H'} a w':=by
    have hsl:=S3.kf;have hlen:a.tmps.toList.length=J.kf.length:=S.kf.length;have:=hsl.take J.kf.length;simp only[cC]at this;rw[cM rfl,cM hlen]at this;exact {S3 with kf:=this,defers:=S3.defers}
   obtain⟨D,aiH,e1,g1,g2,g3,_⟩:=S4.oB _ _ hH;rw[aJu]at e1;simp only[aSQ,dh,Fn.yield.injEq,cG,and_true]at e1;subst e1;have g1:w'.heap[w.heap.size+1]? =some (.loop aiH):=g1;have aaD:=run_endLoop (P:=C.P) g1 (by grind [azQ]);rw[g3.2.2.2.2.1]at aaD;refine⟨pX k.js uD,_,aaD,?_⟩
   have S5:nK C U2 {J with heap:=H'.set J.heap.length .vz} {a with defers:=⟨.collected w.heap.size,#[]⟩::a.defers} (w'.putObj (w.heap.size+1) (.loop {aiH with state:=.exhausted,pending:=pX k.js uD})):=by
    have h5:=S4.azR (st':=.exhausted) (Pq:=uD) hH aJu g1
    have h6:=h5.endLoop (l:=J.heap.length) (D:=w.heap.size) (k:=k) (kf:=s) (st:=.exhausted) (uD:=uD) (by
     grind) aJu S.size
    simp_all
   generalize pX k.js uD=pc at*;cases pc with
   |none=>exact⟨U2,_,S5,hj⟩
   |some c=>
    cases c with
    |ret=>exact wpIn_ret ⟨U2,_,S5,hj⟩
    |exit id=>exact wpIn_exit ⟨U2,_,S5,hj⟩
    |_=>exact hj.elim
end
inductive CO where
 |ret (e:wq)
 |pan (x:AV) (H:List j6)
structure kL(R:Type) where
 P:aTz
 body:aTx
 cl:aTy->List AV->List j6->Option (AV×List j6)
 cd:aTy->List AV->Option AV
 p4:List Nat->jT->Option jT
 cut:List Nat->jT->Option jT
 n:Nat
 out:jT->Option R
 cy:Nat->List AV->List j6->Option (AV×List j6):=fun _ _ _=>none
 lR:ot->jT->Option R:=fun _ _=>none
 js:List Nat->List (Int×aTx):=fun _=>[]
 tX:aTy->Bool:=fun _=>false
 ce:aTy->List AV->List j6->Option wq:=fun _ _ _=>none
 wD:aTy->Bool:=fun _=>false
 cp:aTy->List AV->List j6->Option (vB×List j6):=fun _ _ _=>none
 tI:aTy->Bool:=fun _=>false
 co:aTy->List AV->List j6->Option CO:=fun _ _ _=>none
 q6:AV->jT->Option R:=fun _ _=>none
def nY(p:Prop)(x:Option R):Option R:= @ite _ p (Classical.propDecidable p) x none
theorem ng{x:Option R}{r:R}:nY p x=some r↔p/\x=some r:=by
 grind [nY]
def aEH{x:Option R}:nY True x=x:=by simp [nY]
theorem alx {q:Prop}{x:Option R}:nY (p/\q) x=nY p (nY q x):=by
 grind [nY]
def ayQ[Decidable p]{x:Option R}:nY p x=bif decide p then x else none:=by
 grind [nY]
def au4(x:aTB)(b:Bool)(J:jT):jT:=
 match x with
 |.tmp t=>{J with kf:=J.kf.set t (.bool b)}
 |_=>J
def aGJ{x:aTB}(h:J.ev x=.bool b):au4 x b J=J:=by
 cases x with
 |tmp t=>
  simp only[jT.ev,List.getD]at h;cases hg:J.kf[t]? with
  |none=>rw[hg]at h;simp at h
  |some v=>
   rw[hg]at h;simp only[db]at h;subst h;obtain⟨rQ,he⟩:=bV.1 hg;simp only[au4];rw[<-he,dD]
 |_=>rfl
def wC(kH:Array aTv)(o:aTv)(b:Bool)(J:jT):jT:=
 match o.guard with
 |none=>J
 |some (j,want)=>match (kH[j]?).bind (·.dst)with
  |some d=>match J.kf[d]? with
   |some (.bool _)=>{J with kf:=J.kf.set d (.bool (b==want))}
   |_=>J
  |none=>J
def azS(h:qG kH o J=some b):wC kH o b J=J:=by
 unfold qG at h;unfold wC;split
 ·rfl
 ·rename_i j want hg;simp only[hg]at h;split
  ·rename_i d hd;simp only[hd]at h;split
   ·rename_i c hc;simp only[hc,bU]at h;have:(b==want)=c:=by subst h;cases c<;>cases want<;>rfl
    rw[this];obtain⟨rQ,he⟩:=bV.1 hc;rw[<-he,dD]
   ·rfl
  ·rfl
section

def wm (M:kL R) (kH:Array aTv):List aTv->jT->Option (ot×jT)
 |[],J=>some (.normal,J)
 |o::rest,J=>match qG kH o J with
  |none=>none
  |some b=>bif b then (match nV (wC kH o true J) o.op with
    |some (f,args)=>bif M.wD f then(match M.cp f args (wC kH o true J).heap with
      |some (.ret r,H')=>wm M kH rest (jT.put {wC kH o true J with heap:=H'} o.dst r)
      |some (.panic x,H')=>some (.panic x,{wC kH o true J with heap:=H'})
      |none=>none)
     else match M.cl f args (wC kH o true J).heap with
     |some (r,H')=>wm M kH rest (jT.put {wC kH o true J with heap:=H'} o.dst r)
     |none=>none
    |none=>match IP (wC kH o true J) o.op with
     |some (l,args)=>match M.cy l args (wC kH o true J).heap with
      |some (r,H')=>wm M kH rest (jT.put {wC kH o true J with heap:=H'} o.dst r)
      |none=>none
     |none=>match lK M.P (wC kH o true J) o.op with
      |some e=>nY e.pre (wm M kH rest ((wC kH o true J).app o.dst e))
      |none=>match IQ (wC kH o true J) o.op with
       |some p=>wm M kH rest ((wC kH o true J).dfr p o.dst)
       |none=>match aci (wC kH o true J) o.op with
        |some x=>some (.panic x,wC kH o true J)
        |none=>none)
   else wm M kH rest ((wC kH o false J).put o.dst (.sX undef))
def MU (M:kL R) (kH:Array aTv):List aTv->Nat->List Tr->jT->Option (ot×jT)
 |[],_,_,J=>some (.normal,J)
 |o::rest,j,tr,J=>match qG kH o J with
  |none=>none
  |some b=>bif b then(match nV (wC kH o true J) o.op with
    |some (f,args)=>bif M.tI f then(match M.co f args (wC kH o true J).heap with
      |some (.ret e)=>nY (e.pre/\aeV kH tr j e) (MU M kH rest (j+1) (Qt tr j (wC kH o true J).heap.length e) ((wC kH o true J).app o.dst e))
      |some (.pan x H')=>nY (aB5 kH j=true\/(WH tr=true/\aco M.P kH j rest (j+1) ((wC kH o true J).put o.dst (.sX undef)))) (some (.panic x,{wC kH o true J with kf:=aeU kH (wC kH o true J).kf,heap:=H'}))
      |none=>none)
     else bif M.tX f then(match M.ce f args (wC kH o true J).heap with
      |some e=>nY (e.pre/\aeV kH tr j e) (MU M kH rest (j+1) (Qt tr j (wC kH o true J).heap.length e) ((wC kH o true J).app o.dst e))
      |none=>none)
     else match M.cd f args with
     |some r=>MU M kH rest (j+1) tr ((wC kH o true J).put o.dst r)
     |none=>none
    |none=>match lK M.P (wC kH o true J) o.op with
     |some e=>nY (e.pre/\aeV kH tr j e) (MU M kH rest (j+1) (Qt tr j (wC kH o true J).heap.length e) ((wC kH o true J).app o.dst e))
     |none=>none)
   else MU M kH rest (j+1) tr ((wC kH o false J).put o.dst (.sX undef))
def lqN(p4:jT->Option jT)(body:jT->Option (ot×jT)):Nat->jT->Option (ot×jT)
 |0,_=>none
 |m+1,J=>match body J with
  |some (.normal,J')=>(p4 J').bind (lqN p4 body m)
  |r=>r
def aCc(J:jT):Option aTx->Option (ot×jT)
 |none=>some (.normal,J)
 |some .ret=>some (.ret,J)
 |some (.exit id)=>some (.exit id,J)
 |_=>none
def aLz(J:jT)(H':List j6):Option j6->Option (ot×jT)
 |some (.loop lk _ st uD)=>nY (st=stP (pX lk.js uD)) (aCc {J with heap:=H'.set J.heap.length .vz} (pX lk.js uD))
 |_=>none
def aJv(M:kL R)(lk:xP)(J:jT):AV->Option (ot×jT)
 | .func (.func f) first cap=>match M.cl f (first++[.map J.heap.length]++cap) (J.heap++[.loop lk J.kf .ready 0]) with
   |some (_,H')=>aLz J H' H'[J.heap.length]?
   |none=>none
 |_=>none
def exec(M:kL R):aTx->List Nat->jT->Option (ot×jT)
 |.skip,_,J=>some (.normal,J)
 |.region _ kH false,_,J=>wm M kH kH.toList J
 |.region _ kH true,_,J=>nY (M.P.follows .mixedOrders=true/\Ll kH=true) (MU M kH kH.toList 0 [] J)
 | .seq x y,p,J=>match exec M x (0::p) J with
   |some (.normal,J')=>(M.cut (1::p) J').bind (exec M y (1::p))
   |r=>r
 | .cond c x y,p,J=>match J.ev c with
   |.bool b=>bif b then exec M x (0::p) (au4 c true J)else exec M y (1::p) (au4 c false J)
   |_=>none
 | .block id x,p,J=>match exec M x (0::p) J with
   |some (.exit id',J')=>if id'=id then some (.normal,J')else some (.exit id',J')
   |r=>r
 |.loop x,p,J=>(M.p4 p J).bind (lqN (M.p4 p) (exec M x (0::p)) M.n)
 |.exit id,_,J=>some (.exit id,J)
 |.scope x,p,J=>exec M x (0::p) J
 |.label _,_,J=>some (.normal,J)
 |.ret,_,J=>some (.ret,J)
 |.goto _,_,_=>none
 |.rangeFunc g ps aTo body,p,J=>aJv M ⟨ps,aTo,body,M.js p⟩ J (J.ev g)
 |.refuse _,_,_=>none
structure FY(M:kL R):Prop where
 cl:∀f args J r H',M.cl f args J.heap=some (r,H')->Bt M.P f args J (fun o GB=>o=.ret r/\GB=H')
 cd:∀f args r,M.cd f args=some r->JE M.P f args (fun v=>v=r)
 p4:∀p J J',M.p4 p J=some J'->LI J J'
 cut:∀p J J',M.cut p J=some J'->LI J J'
 cy:∀l args J r H',M.cy l args J.heap=some (r,H')->Qq M.P l args J (fun o GB=>o=.ret r/\GB=H')
 ce:∀f args J e,M.ce f args J.heap=some e->Jj M.P f args J e
 cp:∀f args J o H',M.cp f args J.heap=some (o,H')->Bt M.P f args J (fun o' GB=>o'=o/\GB=H')
 co:∀f args J,(∀e,M.co f args J.heap=some (.ret e)->Jj M.P f args J e)/\∀x H',M.co f args J.heap=some (.pan x H')->au1 M.P f args J.heap x H'
def rR:∀(f:aTy)(args:List AV)(J:jT)(o:vB)(H':List j6),(fun _ _ _=>none:aTy->List AV->List j6->Option (vB×List j6)) f args J.heap=some (o,H')->Bt P f args J (fun o' GB=>o'=o/\GB=H'):=by
 intro f args J o H' h;cases h
def rH:∀(f:aTy)(args:List AV)(J:jT),(∀e,(fun _ _ _=>none:aTy->List AV->List j6->Option CO) f args J.heap=some (.ret e)->Jj P f args J e)/\∀x H',(fun _ _ _=>none:aTy->List AV->List j6->Option CO) f args J.heap=some (.pan x H')->au1 P f args J.heap x H':=by
 grind
def Bt.mono {K':vB->List j6->Prop}(h:Bt P f args J K)(hk:∀o H,K o H->K' o H):Bt P f args J K':=by
 obtain⟨he,hc⟩:=h;refine⟨he,fun C U a w hP S vs hr=>(hc C U a w hP S vs hr).mono ?_⟩
 grind
def Qq.mono {K':vB->List j6->Prop}(h:Qq P l args J K)(hk:∀o H,K o H->K' o H):Qq P l args J K':=by
 obtain⟨he,hc⟩:=h;refine⟨he,fun C U a w hP S vs hr D rec h1 h2=>(hc C U a w hP S vs hr D rec h1 h2).mono ?_⟩
 grind
def q7:∀(l:Nat)(args:List AV)(J:jT)(r:AV)(H':List j6),(fun _ _ _=>none:Nat->List AV->List j6->Option (AV×List j6)) l args J.heap=some (r,H')->Qq P l args J (fun o GB=>o=.ret r/\GB=H'):=by
 intro l args J r H' h;cases h
def BZ {M:kL R} (G:FY M) {kH:Array aTv} {Q:ot->jT->Prop}: ∀ (rest:List aTv) (J J':jT) (e:ot),wm M kH rest J=some (e,J')->Q e J'->aaB M.P kH rest Q J
 |[],J,J',e,h,hq=>by simp only[wm,bU,bX]at h;obtain⟨rfl,rfl⟩:=h;exact hq
 |o::rest,J,J',en,h,hq=>by
  simp only[wm]at h;simp only[aaB];cases hw:qG kH o J with
  |none=>simp only[hw]at h;cases h
  |some b=>
   simp only[hw]at h;have hg:=azS hw;cases b with
   |false=>
    refine⟨fun h=>(by cases h),fun _=>?_⟩;simp only[jG,hg]at h;exact BZ G rest _ J' _ h hq
   |true=>
    refine⟨fun _=>?_,fun h=>by cases h⟩;simp only[jF,hg]at h;cases hc:nV J o.op with
    |some p=>
     obtain⟨f,args⟩:=p;simp only[hc]at h ⊢;cases hi:M.wD f with
     |true=>
      simp only[hi,jF]at h;cases ha:M.cp f args J.heap with
      |none=>simp only[ha]at h;cases h
      |some q=>
       obtain⟨r,H'⟩:=q;refine(G.cp f args J r H' ha).mono ?_;cases r with
       |ret r=>
        simp only[ha]at h;rintro o' GB ⟨rfl,rfl⟩;exact BZ G rest _ J' _ h hq
       |panic x=>
        grind
     |false=>
      simp only[hi,jG]at h;cases ha:M.cl f args J.heap with
      |none=>simp only[ha]at h;cases h
      |some q=>
       obtain⟨r,H'⟩:=q;simp only[ha]at h;refine(G.cl f args J r H' ha).mono ?_;rintro o' GB ⟨rfl,rfl⟩;exact BZ G rest _ J' _ h hq
    |none=>
     simp only[hc]at h ⊢;cases hy:IP J o.op with
     |some p=>
      obtain⟨l,args⟩:=p;simp only[hy]at h ⊢;cases ha:M.cy l args J.heap with
      |none=>simp only[ha]at h;cases h
      |some q=>
       obtain⟨r,H'⟩:=q;simp only[ha]at h;refine(G.cy l args J r H' ha).mono ?_;rintro o' GB ⟨rfl,rfl⟩;exact BZ G rest _ J' _ h hq
     |none=>
      simp only[hy]at h ⊢;cases he:lK M.P J o.op with
      |none=>
       simp only[he]at h ⊢;cases hd:IQ J o.op with
       |some p=>
        simp only[hd]at h ⊢;exact BZ G rest _ J' _ h hq
       |none=>
        grind
      |some e=>
       simp only[he]at h;rw[ng]at h;exact⟨h.1,BZ G rest _ J' _ h.2 hq⟩
def LN {M:kL R} (G:FY M) {kH:Array aTv} {Q:ot->jT->Prop}: ∀ (rest:List aTv) (j:Nat) (tr:List Tr) (J J':jT) (e:ot),MU M kH rest j tr J=some (e,J')->Q e J'->apa M.P kH Q rest j tr J
 |[],_,_,J,J',e,h,hq=>by simp only[MU,bU,bX]at h;obtain⟨rfl,rfl⟩:=h;exact hq
 |o::rest,j,tr,J,J',en,h,hq=>by
  simp only[MU]at h;simp only[apa];cases hw:qG kH o J with
  |none=>simp only[hw]at h;cases h
  |some b=>
   simp only[hw]at h;have hg:=azS hw;cases b with
   |false=>
    refine⟨fun h=>(by cases h),fun _=>?_⟩;simp only[jG,hg]at h;exact LN G rest _ _ _ J' _ h hq
   |true=>
    refine⟨fun _=>?_,fun h=>(by cases h)⟩;simp only[jF,hg]at h;cases hc:nV J o.op with
    |some p=>
     obtain⟨f,args⟩:=p;simp only[hc]at h ⊢;cases hic:M.tI f with
     |true=>
      simp only[hic,jF]at h;cases ha:M.co f args J.heap with
      |none=>simp only[ha]at h;cases h
      |some q=>
       cases q with
       |ret e=>
        simp only[ha]at h;rw[ng]at h;exact .inr (.inl ⟨e,(G.co f args J).1 e ha,h.1.2,LN G rest _ _ _ J' _ h.2 hq⟩)
       |pan x H'=>
        simp only[ha]at h;rw[ng]at h;obtain⟨h1,h⟩:=h;simp only[bU,bX]at h;obtain⟨rfl,rfl⟩:=h;exact .inr (.inr ⟨x,H',(G.co f args J).2 x H' ha,h1,hq⟩)
     |false=>
     simp only[hic,jG]at h;cases hi:M.tX f with
     |true=>
      simp only[hi,jF]at h;cases ha:M.ce f args J.heap with
      |none=>simp only[ha]at h;cases h
      |some e=>
       simp only[ha]at h;rw[ng]at h;exact .inr (.inl ⟨e,G.ce f args J e ha,h.1.2,LN G rest _ _ _ J' _ h.2 hq⟩)
     |false=>
     simp only[hi,jG]at h;cases ha:M.cd f args with
     |none=>simp only[ha]at h;cases h
     |some r=>
      simp only[ha]at h;exact .inl ⟨r,G.cd f args r ha,LN G rest _ _ _ J' _ h hq⟩
    |none=>
     simp only[hc]at h ⊢;cases he:lK M.P J o.op with
     |none=>simp only[he]at h;cases h
     |some e=>
      simp only[he]at h;rw[ng]at h;exact⟨h.1.1,h.1.2,LN G rest _ _ _ J' _ h.2 hq⟩
def au5{p4:jT->Option jT}{body:jT->Option (ot×jT)}(hb: ∀J l J',body J≠some (.goto l,J')): ∀(m:Nat)(J:jT)(l:Nat)(J':jT),lqN p4 body m J≠some (.goto l,J')
 |0,_,_,_=>by simp [lqN]
 |m+1,J,l,J'=>by
  intro h;simp only[lqN]at h;cases hx:body J with
  |none=>simp only[hx]at h;cases h
  |some r=>
   obtain⟨e1,J1⟩:=r;cases e1 with
   |normal=>
    simp only[hx]at h;cases hn:p4 J1 with
    |none=>grind
    |some J2=>simp only[hn,cH]at h;exact au5 hb m J2 l J' h
   |goto l'=>exact hb _ _ _ hx
   |_=>grind
theorem aEI{M:kL R}:∀(rest:List aTv)(J:jT)(l:Nat)(J':jT),wm M kH rest J≠some (.goto l,J'):=by
 intro rest;induction rest with
 |nil=>grind [wm]
 |cons o rest ih=>
  intro J l J' h;simp only[wm]at h
  grind [ng]
theorem aJw{M:kL R}:∀(rest:List aTv)(j:Nat)(tr:List Tr)(J:jT)(l:Nat)(J':jT),MU M kH rest j tr J≠some (.goto l,J'):=by
 intro rest;induction rest with
 |nil=>grind [MU]
 |cons o rest ih=>
  grind [MU,ng]
theorem aJx{c:Option aTx}:aCc J c≠some (.goto l,J'):=by
 intro h;unfold aCc at h;split at h<;>simp at h
def aLA{M:kL R}{lk:xP}:aJv M lk J v≠some (.goto l,J'):=by
 intro h;unfold aJv at h;split at h
 ·split at h
  ·unfold aLz at h
   grind [ng,aJx]
  ·cases h
 ·cases h
theorem Zi(M:kL R):∀(c:aTx)(p:List Nat)(J:jT)(l:Nat)(J':jT),exec M c p J≠some (.goto l,J')
 |.skip,_,_,_,_=>by simp [exec]
 |.label _,_,_,_,_=>by simp [exec]
 |.ret,_,_,_,_=>by simp [exec]
 |.exit id,_,_,_,_=>by simp [exec]
 |.region _ kH false,_,_,_,_=>by grind [exec,aEI]
 | .region _ kH true,_,_,_,_=>by
   grind [exec,ng,aJw]
 | .seq x y,p,J,l,J'=>by
   intro h;simp only[exec]at h;cases hx:exec M x (0::p) J with
   |none=>simp only[hx]at h;cases h
   |some r=>
    obtain⟨e1,J1⟩:=r;cases e1 with
    |normal=>
     simp only[hx]at h;cases hc:M.cut (1::p) J1 with
     |none=>grind
     |some J2=>simp only[hc,cH]at h;exact Zi M y _ _ _ _ h
    |goto l'=>exact Zi M x _ _ _ _ hx
    |_=>grind
 | .cond c x y,p,J,l,J'=>by
   intro h;simp only[exec]at h;cases hv:J.ev c with
   |bool b=>
    simp only[hv]at h;cases b with
    |true=>exact Zi M x _ _ _ _ h
    |false=>exact Zi M y _ _ _ _ h
   |_=>simp only[hv]at h;cases h
 | .block id x,p,J,l,J'=>by
   intro h;simp only[exec]at h;cases hx:exec M x (0::p) J with
   |none=>simp only[hx]at h;cases h
   |some r=>
    obtain⟨e1,J1⟩:=r;cases e1 with
    |exit id'=>
     grind
    |goto l'=>exact Zi M x _ _ _ _ hx
    |_=>grind
 | .loop x,p,J,l,J'=>by
   intro h;simp only[exec]at h;cases hn:M.p4 p J with
   |none=>grind
   |some J1=>
    simp only[hn,cH]at h;exact au5 (fun _ _ _=>Zi M x _ _ _ _) _ _ _ _ h
 | .scope x,p,J,l,J'=>by
   intro h;simp only[exec]at h;exact Zi M x _ _ _ _ h
 |.goto _,_,_,_,_=>by simp [exec]
 |.rangeFunc g ps aTo body,_,_,_,_=>by simp only[exec];exact aLA
 |.refuse _,_,_,_,_=>by simp [exec]
def Aw {M:kL R} (G:FY M): ∀ (c:aTx) (p:List Nat) (Q:ot->jT->Prop) (J:jT) (e:ot) (J':jT),exec M c p J=some (e,J')->Q e J'->awp M.P c Q J
 |.skip,_,Q,J,e,J',h,hq=>by simp only[exec,bU,bX]at h;obtain⟨rfl,rfl⟩:=h;exact hq
 |.label _,_,Q,J,e,J',h,hq=>by simp only[exec,bU,bX]at h;obtain⟨rfl,rfl⟩:=h;exact hq
 |.ret,_,Q,J,e,J',h,hq=>by simp only[exec,bU,bX]at h;obtain⟨rfl,rfl⟩:=h;exact hq
 |.exit id,_,Q,J,e,J',h,hq=>by simp only[exec,bU,bX]at h;obtain⟨rfl,rfl⟩:=h;exact hq
 | .region _ kH false,_,Q,J,e,J',h,hq=>by
   simp only[exec]at h;exact BZ G _ _ _ _ h hq
 | .region _ kH true,_,Q,J,e,J',h,hq=>by
   simp only[exec]at h;rw[ng]at h;obtain⟨hp,h⟩:=h;exact⟨hp,LN G _ _ _ _ _ _ h hq⟩
 | .seq x y,p,Q,J,e,J',h,hq=>by
   simp only[exec]at h;cases hx:exec M x (0::p) J with
   |none=>simp only[hx]at h;cases h
   |some r=>
    obtain⟨e1,J1⟩:=r;refine Aw G x (0::p) _ J e1 J1 hx ?_;cases e1 with
    |normal=>
     simp only[hx]at h;cases hc:M.cut (1::p) J1 with
     |none=>grind
     |some J2=>
      simp only[hc,cH]at h;exact⟨J2,G.cut _ _ _ hc,Aw G y (1::p) Q J2 e J' h hq⟩
    |_=>
     simp only[hx,bU,bX]at h;obtain⟨rfl,rfl⟩:=h;exact hq
 | .cond c x y,p,Q,J,e,J',h,hq=>by
   simp only[exec]at h;simp only[awp];cases hv:J.ev c with
   |bool b=>
    simp only[hv]at h ⊢;cases b with
    |true=>simp only[jF,aGJ hv]at h;exact⟨fun _=>Aw G x (0::p) Q J e J' h hq,fun h=>(by cases h)⟩
    |false=>simp only[jG,aGJ hv]at h;exact⟨fun h=>(by cases h),fun _=>Aw G y (1::p) Q J e J' h hq⟩
   |_=>simp only[hv]at h;cases h
 | .block id x,p,Q,J,e,J',h,hq=>by
   simp only[exec]at h;cases hx:exec M x (0::p) J with
   |none=>simp only[hx]at h;cases h
   |some r=>
    obtain⟨e1,J1⟩:=r;refine Aw G x (0::p) _ J e1 J1 hx ?_;cases e1 with
    |exit id'=>
     grind [ot.inBlock]
    |_=>
     simp only[hx,bU,bX]at h;obtain⟨rfl,rfl⟩:=h;exact hq
 | .loop x,p,Q,J,e,J',h,hq=>by
   simp only[exec]at h;cases hn:M.p4 p J with
   |none=>grind
   |some J1=>
    simp only[hn,cH]at h;refine⟨fun m J2=>lqN (M.p4 p) (exec M x (0::p)) m J2=some (e,J'),M.n,J1,G.p4 _ _ _ hn,h,?_⟩;intro m J2 h2;cases m with
    |zero=>simp only[lqN]at h2;cases h2
    |succ m=>
     simp only[lqN]at h2;cases hx:exec M x (0::p) J2 with
     |none=>simp only[hx]at h2;cases h2
     |some r=>
      obtain⟨e1,J3⟩:=r;refine Aw G x (0::p) _ J2 e1 J3 hx ?_;cases e1 with
      |normal=>
       simp only[hx]at h2;cases hn2:M.p4 p J3 with
       |none=>grind
       |some J4=>
        simp only[hn2,cH]at h2;exact⟨m,J4,Nat.lt_succ_self _,G.p4 _ _ _ hn2,h2⟩
      |_=>
       simp only[hx,bU,bX]at h2;obtain⟨rfl,rfl⟩:=h2;exact hq
 | .scope x,p,Q,J,e,J',h,hq=>by
   simp only[exec]at h;refine Aw G x (0::p) _ J e J' h ?_;cases e with
   |goto l=>grind [Zi]
   |_=>exact hq
 |.goto _,_,_,_,_,_,h,_=>by simp only[exec]at h;cases h
 | .rangeFunc g ps aTo body,p,Q,J,e,J',h,hq=>by
   simp only[exec]at h;simp only[awp];unfold aJv at h;split at h
   ·rename_i f first cap hv
    split at h
    ·rename_i r H' hc;refine aCb hv ((G.cl f _ {J with kf:=J.kf++[.map J.heap.length],heap:=J.heap++[.loop ⟨ps,aTo,body,M.js p⟩ J.kf .ready 0]} r H' hc).mono ?_);rintro o' GB ⟨rfl,rfl⟩;unfold aLz at h;split at h
     ·rename_i k s st uD hH;rw[ng]at h;obtain⟨hst,h⟩:=h;subst hst;refine⟨r,k,s,uD,rfl,hH,?_⟩;generalize pX k.js uD=pc at*;unfold aCc at h;split at h
      ·simp only[bU,bX]at h;obtain⟨rfl,rfl⟩:=h;exact hq
      ·simp only[bU,bX]at h;obtain⟨rfl,rfl⟩:=h;exact hq
      ·simp only[bU,bX]at h;obtain⟨rfl,rfl⟩:=h;exact hq
      ·cases h
     ·cases h
    ·cases h
   ·cases h
 |.refuse _,_,_,_,_,_,h,_=>by simp only[exec]at h;cases h
end
def aLB(C:qC)(U:Nat->aTw)(H:List j6)(w:aTA):Prop:=nK C U {kf:=[],heap:=H,low:=H.length} {tmps:= #[],defers:=[]} w
def FnG(P:aTz)(f:aTy)(args:List AV)(H:List j6)(V:vB->List j6->Prop):Prop:=
 enters P f=true/\ua H.length args/\(∀x∈H,rX H.length x)/\∀(C:qC)(U:Nat->aTw)(w:aTA),C.P=P->C.w0=w->C.N0=H.length->(∀l,l<H.length->C.U0 l=U l/\C.ln0 l=mT H[l]?)->(∀b o,C.M0 b o↔G9 U H b o)->
  aLB C U H w->∀vs:Array aTw,kQ (C.env U H w) args vs.toList->
  Calls P f vs w fun e w'=>∃o U' H',V o H'/\nK C U' {kf:=[],heap:=H',low:=H.length} {tmps:= #[],defers:=[]} w'/\o.rep (C.env U' H' w') e
def sD:List j6->List Nat->List j6->List j6
 |H,l::ls,x::xs=>sD (H.set l x) ls xs
 |H,_,_=>H
def pg(Y:List Nat)(n:Nat)(l:Nat):Nat:=if l<Y.length then Y.getD l 0 else n+(l-Y.length)
def xD(Y:List Nat)(H H':List j6):List j6:=
 sD H Y (H'.map (j6.qo (pg Y H.length)))++(H'.drop Y.length).map (j6.qo (pg Y H.length))
theorem xW:∀(H:List j6)(ls:List Nat)(xs:List j6),(sD H ls xs).length=H.length
 |_,[],_=>by simp [sD]
 |_,_::_,[]=>by simp [sD]
 |H,l::ls,x::xs=>by rw[sD,xW,List.length_set]
theorem IR:∀(ls:List Nat)(H:List j6)(xs:List j6)(k:Nat),k ∉ ls->(sD H ls xs)[k]? =H[k]?
 |[],_,_,_,_=>by simp [sD]
 |_::_,_,[],_,_=>by simp [sD]
 |l::ls,H,x::xs,k,h=>by
  simp only[cx,not_or]at h;rw[sD,IR ls _ xs k h.2,dj (fun e=>h.1 e.symm)]
theorem acp:∀(ls:List Nat)(H:List j6)(xs:List j6)(i k:Nat)(x:j6),ls.Nodup->ls[i]? =some k->xs[i]? =some x->k<H.length->(sD H ls xs)[k]? =some x
 |[],_,_,_,_,_,_,h,_,_=>by simp at h
 |_::_,_,[],_,_,_,_,_,h,_=>by simp at h
 |l::ls,H,y::ys,0,k,x,hnd,h,hx,hk=>by
  grind [sD,IR]
 |l::ls,H,y::ys,i+1,k,x,hnd,h,hx,hk=>by
  simp at h hx;rw[dz]at hnd;rw[sD];exact acp ls _ ys i k x hnd.2 h hx (by rw[List.length_set];exact hk)
def au6:List Nat->Nat->Option Nat
 |[],_=>none
 |x::xs,k=>if x=k then some 0 else(au6 xs k).map (· +1)
theorem ape:∀(Y:List Nat)(l k:Nat),Y.Nodup->Y[l]? =some k->au6 Y k=some l
 |[],_,_,_,h=>by simp at h
 |x::xs,0,k,_,h=>by simp at h;subst h;simp [au6]
 |x::xs,l+1,k,hnd,h=>by
  simp at h;rw[dz]at hnd;have sB:x≠k:=fun e=>hnd.1 (e ▸ cQ h)
  simp [au6,sB,ape xs l k hnd.2 h]
theorem au7:∀(Y:List Nat)(k:Nat),k ∉ Y->au6 Y k=none
 |[],_,_=>rfl
 |x::xs,k,h=>by
  simp only[cx,not_or]at h;have sB:x≠k:=fun e=>h.1 e.symm
  simp [au6,sB,au7 xs k h.2]
section call
variable {C:qC}
structure aiI(T:aTw->aTA->Array aTw->(aTC->aTA->Prop)->Prop):Prop where
 mono:∀h w vs R R',(∀e w',R e w'->R' e w')->T h w vs R->T h w vs R'
def FnT(P:aTz)(T:aTw->aTA->Array aTw->(aTC->aTA->Prop)->Prop)(args:List AV)(H:List j6)(V:vB->List j6->Prop):Prop:=
 ua H.length args/\(∀x∈H,rX H.length x)/\∀(C:qC)(U:Nat->aTw)(w:aTA),C.P=P->C.w0=w->C.N0=H.length->(∀l,l<H.length->C.U0 l=U l/\C.ln0 l=mT H[l]?)->(∀b o,C.M0 b o↔G9 U H b o)->
  aLB C U H w->∀vs:Array aTw,kQ (C.env U H w) args vs.toList->
  T (U 0) w vs fun e w'=>∃o U' H',V o H'/\nK C U' {kf:=[],heap:=H',low:=H.length} {tmps:= #[],defers:=[]} w'/\o.rep (C.env U' H' w') e
def Zj(P:aTz)(T:aTw->aTA->Array aTw->(aTC->aTA->Prop)->Prop)(l:Nat)(args:List AV)(J:jT)(K:vB->List j6->Prop):Prop:=
 ∀ (C:qC) (U:Nat->aTw) (a:Act) (w:aTA),C.P=P->nK C U J a w-> ∀vs:Array aTw,kQ (C.env U J.heap w) args vs.toList->
   T (U l) w vs fun e w'=>∃o U' H',K o H'/\nK C U' {J with heap:=H'} a w'/\o.rep (C.env U' H' w') e
def apf{T:aTw->aTA->Array aTw->(aTC->aTA->Prop)->Prop}(hT:aiI T){l0:Nat}{aSK:List AV}(h:FnT P T args H V)(Y:List Nat)(hlen:Y.length=H.length)(hnd:Y.Nodup)
 (hz:∀U:Nat->aTw,T (U (pg Y J.heap.length 0))=T (U l0))
 (Zh:qn aSK (sO (pg Y J.heap.length) args)) (Ue:∀(i:Nat)(k:Nat)(x:j6),Y[i]? =some k->H[i]? =some x->J.heap[k]? =some (x.qo (pg Y J.heap.length)))
 (hK:∀o H',V o H'->K (o.qo (pg Y J.heap.length)) (xD Y J.heap H')):Zj P T l0 aSK J K:=by
 obtain⟨aRD,JG,hc⟩:=h;intro C U a w hP S vs hr
 let ρf:Nat->Nat:=pg Y J.heap.length
 have hρ:∀l,l<H.length->Y[l]? =some (ρf l):=by
  grind [pg]
 let φc:Nat->aTw:=fun l=>U (ρf l)
 have au8:∀(l:Nat)(x:j6),H[l]? =some x->J.heap[ρf l]? =some (x.qo ρf):=fun l x hx=>Ue l _ x (hρ l (bV.1 hx).1) hx
 have aSx:∀l,l<H.length->ρf l<J.heap.length:=by
  intro l hl;have:=au8 l H[l] (bT hl)
  grind
 have hinj:∀l l',l<H.length->l'<H.length->ρf l=ρf l'->l=l':=by
  grind [List.getElem_inj]
 have au9:∀b o,G9 φc H b o->G9 U J.heap b o:=by
  rintro b o ⟨l,x,hx,hm⟩;exact⟨ρf l,_,au8 l x hx,acm.2 hm⟩
 have hA0:∀b o,((G9 U J.heap b o\/C.A b o)/\ ¬ G9 φc H b o)->b<w.heap.size:=by
  rintro b o ⟨⟨l,x,hx,hm⟩|hA,_⟩
  ·exact(S.oB l x hx).qQ (j6.ou hm)
  ·exact bW (C.hA b o hA) S.size
 let C':qC:=qC.mk C.P w (G9 φc H) (fun b o=>(G9 U J.heap b o\/C.A b o)/\ ¬ G9 φc H b o) hA0 ⟨fun b o h=>let ⟨v,h1,h2,h3⟩:=S.know.cell b o h;⟨v,h1,h2,fun hm=>h3 (au9 b o hm)⟩,fun b h=>⟨fun o hm=>(S.know.row b h).1 o (au9 b o hm),(S.know.row b h).2⟩⟩ H.length φc (fun l=>mT H[l]?)
 have aPO:∀b o,(G9 φc H b o\/C'.A b o)↔(G9 U J.heap b o\/C.A b o):=by
  grind
 have un:aB1 H.length ρf (C.env U J.heap w) (C'.env φc H w):=by
  refine⟨bZ _,fun l hl=>⟨rfl,?_⟩,fun b o u hm ub=>⟨fun hh=>hm ((aPO b o).1 hh),ub⟩,CQ _⟩
  grind [qC.env,Hg]
 have JD:∀(l:Nat)(x:j6)(b:Nat),H[l]? =some x->x.block (φc l) b->∃y:j6,J.heap[ρf l]? =some y/\y.block (U (ρf l)) b:=fun l x b hx hb=>⟨_,au8 l x hx,CX.2 hb⟩
 have aiA:∀(l:Nat)(x:j6)(b:Nat),H[l]? =some x->x.block (φc l) b->∀o,G9 U J.heap b o->G9 φc H b o:=by
  rintro l x b hx hb o ⟨k,y,hy,hm⟩;obtain⟨z,hz,hzb⟩:=JD l x b hx hb;have hk:=S.apart k (ρf l) y z b hy hz (j6.ou hm) hzb;subst hk;have hf:=au8 l x hx;rw[hy]at hf;cases hf;exact⟨l,x,hx,acm.1 hm⟩
 have hS':aLB C' φc H w:=by
  refine {kf:=rfl,defers:=tf.nil,oB:=?_,apart:=?_,uf:=?_,size:=bZ _,old:=fun _ _ _ _=>rfl,n9:=fun _ _ _=>rfl,Cl:=?_,xf:=fun _ _ _=>rfl,rest:=⟨rfl,rfl⟩,low:=⟨rfl,bZ _⟩,mF:=fun l hl=>.inl ⟨rfl,.inl rfl⟩}
  ·intro l x hx;exact oP.Eb un (JG x (cQ hx)) (fun _ _=>rfl) (S.oB (ρf l) _ (au8 l x hx))
  ·intro l l' x x' b hx Ea hb sC;obtain⟨z,hz,hzb⟩:=JD l x b hx hb;obtain⟨z',hz',aN3⟩:=JD l' x' b Ea sC;exact hinj l l' (bV.1 hx).1 (bV.1 Ea).1 (S.apart _ _ z z' b hz hz' hzb aN3)
  ·rintro l x b o hx hb ⟨hA|hA,hn⟩
   ·exact hn (aiA l x b hx hb o hA)
   ·obtain⟨z,hz,hzb⟩:=JD l x b hx hb;exact S.uf _ z b o hz hzb hA
  ·intro l x b o hx hm _;exact⟨l,x,hx,hm⟩
 have hr':kQ (C'.env φc H w) args vs.toList:=kQ.Eb un _ _ aRD (Zh _ _ hr);have xR:=hc C' φc w hP rfl rfl (fun l _=>⟨rfl,rfl⟩) (fun _ _=>bY) hS' vs hr';rw[show φc 0=U (pg Y J.heap.length 0)from rfl,hz U]at xR;refine hT.mono _ _ _ _ _ ?_ xR;rintro e w' ⟨o,U',H',hV,S',uu⟩;have aSy:H.length<=H'.length:=S'.low.2
 let n:=J.heap.length
 have aGE:∀k,k<n->(∃l,l<H.length/\ρf l=k)\/k ∉ Y:=by
  grind [dH]
 let ix:Nat->Option Nat:=au6 Y
 have hix:∀l,l<H.length->ix (ρf l)=some l:=by
  grind [ape]
 have aSz:∀k,k ∉ Y->ix k=none:=by
  grind [au7]
 let U2:Nat->aTw:=fun k=>if k<n then(match ix k with|some l=>U' l|none=>U k)else U' (H.length+(k-n))
 have ava:∀l,l<H'.length->U2 (ρf l)=U' l:=by
  intro l hl;by_cases h1:l<H.length
  ·grind
  ·have h2:ρf l=n+(l-H.length):=by
    grind [pg]
   simp only[U2];rw[if_neg (by omega),h2];congr 1;omega
 have aCd:∀k,k<n->k ∉ Y->U2 k=U k:=by
  grind
 let H2:List j6:=xD Y J.heap H'
 have aN4:∀(l:Nat)(hl:l<H'.length),H2[ρf l]? =some ((H'[l]).qo ρf):=by
  intro l hl;simp only[H2,xD];by_cases h1:l<H.length
  ·grind [xW,acp]
  ·have h2:ρf l=n+(l-H.length):=by
    grind [pg]
   rw[h2,cz (by rw[xW];omega),xW];rw[List.getElem?_map,List.getElem?_drop,hlen];have e:H.length+(n+(l-H.length)-J.heap.length)=l:=by simp only[n];omega
   grind
 have aRE:∀k,k<n->k ∉ Y->H2[k]? =J.heap[k]? :=by
  grind [xD,xW,IR]
 have aRF:H2.length=n+(H'.length-H.length):=by
  grind [xD,xW]
 have hH2:∀(k:Nat)(y:j6),H2[k]? =some y->(∃l,∃hl:l<H'.length,k=ρf l/\y=(H'[l]).qo ρf)\/(k<n/\k ∉ Y/\J.heap[k]? =some y):=by
  intro k y hy;have hk:k<H2.length:=(bV.1 hy).1;by_cases h1:k<n
  ·rcases aGE k h1 with⟨l,hl,rfl⟩|hm
   all_goals grind
  ·left;have hl:H.length+(k-n)<H'.length:=by omega
   grind [pg]
 have aNB:∀b o,G9 U2 H2 b o->G9 U' H' b o\/∃(k:Nat)(y:j6),k<n/\k ∉ Y/\J.heap[k]? =some y/\y.Bf (U k) b o:=by
  rintro b o ⟨k,y,hy,hm⟩;rcases hH2 k y hy with⟨l,hl,rfl,rfl⟩|⟨h1,h2,h3⟩
  ·left;rw[ava l hl]at hm;exact⟨l,_,bT hl,acm.1 hm⟩
  grind
 have aB7:∀(k:Nat)(y:j6)(b:Nat),k<n->k ∉ Y->J.heap[k]? =some y->y.block (U k) b->∀o,¬ G9 φc H b o:=by
  rintro k y b hk hm hy hb o ⟨l,x,hx,hmu⟩;obtain⟨z,hz,hzb⟩:=JD l x b hx (j6.ou hmu);have e:=S.apart k (ρf l) y z b hy hz hb hzb
  grind
 have auv:∀(l:Nat)(hl:l<H'.length)(b:Nat),(H'[l]).block (U' l) b->b<w.heap.size->∃(k:Nat)(x:j6),H[k]? =some x/\x.block (φc k) b:=by
  intro l hl b hb rQ;obtain⟨o,hmu⟩:=aaC hb;obtain⟨k,x,hx,hmx⟩:=S'.Cl l _ b o (bT hl) hmu rQ
  grind [j6.ou]
 have le:(C.env U J.heap w).Le n (C.env U2 H2 w'):=by
  refine⟨by simp only[qC.env];omega,fun k hk=>?_,fun b o' u hm ub=>?_,S'.ty⟩
  ·rcases aGE k hk with⟨l,hl,rfl⟩|hm
   ·have hn:=S'.mF l hl;simp only[qC.env];rw[ava l (by omega),aN4 l (by omega),Hg,au8 l H[l] (bT hl),Hg];have h1:mT H'[l]? =mT (some H'[l]):=by grind
    have h2:C'.ln0 l=mT (some H[l]):=by grind
    rw[h1,h2]at hn;exact hn
   grind [qC.env]
  ·have hb:=GA ub;simp only[qC.env]at hb hm ⊢;have hnc: ¬ G9 φc H b o':=fun hh=>hm (.inl (au9 b o' hh))
   refine⟨?_,by rw[S'.old b o' hb hnc];exact ub⟩;rintro(hh|hh)
   ·rcases aNB b o' hh with⟨l,x,hx,hmu⟩|⟨k,y,_,_,hy,hmu⟩
    ·exact hnc (S'.Cl l x b o' hx hmu hb)
    ·exact hm (.inl ⟨k,y,hy,hmu⟩)
   ·exact hm (.inr hh)
 have qo:ao7 H'.length ρf (C'.env U' H' w') (C.env U2 H2 w'):=by
  refine⟨fun l hl=>?_,fun l hl=>?_,fun b o' u hm ub=>⟨?_,ub⟩,CQ _⟩
  ·have:=aN4 l hl;exact(bV.1 this).1
  ·grind [qC.env,Hg]
  ·simp only[qC.env]at hm ⊢;rintro(hh|hh)
   ·rcases aNB b o' hh with h1|⟨k,y,hk,hkm,hy,hmu⟩
    ·exact hm (.inl h1)
    ·exact hm (.inr ⟨.inl ⟨k,y,hy,hmu⟩,aB7 k y b hk hkm hy (j6.ou hmu) o'⟩)
   ·refine hm (.inr ⟨.inr hh,?_⟩);rintro⟨l,x,hx,hmu⟩;obtain⟨z,hz,hzb⟩:=JD l x b hx (j6.ou hmu);exact S.uf _ z b o' hz hzb hh
 have S2:nK C U2 {J with heap:=H2} a w':=by
  have BY:tf C U2 H2 w' J.df a.defers:=by
   refine S.defers.step le (fun b hb hno=>S'.n9 b hb (fun o' hh=>?_)) (fun k x b hx hb=>?_)
   ·obtain⟨l,x,hx,hmu⟩:=hh
    grind [j6.ou]
   ·by_cases hbs:b<w.heap.size
    ·rcases hH2 k x hx with⟨l,hl,rfl,rfl⟩|⟨h1,h2,h3⟩
     ·rw[ava l hl]at hb;obtain⟨q,z,hz',hzb⟩:=auv l hl b (CX.1 hb) hbs
      grind
     grind
    ·exact .inr (by omega)
  refine {kf:=kQ.mono le _ _ (kQ.nb _ _ S.kf) S.kf,defers:=BY,oB:=?_,apart:=?_,uf:=?_,size:=Nat.le_trans S.size S'.size,old:=?_,n9:=?_,Cl:=?_,xf:=fun x hx hm0=>(S'.xf x (bW hx S.size) (fun o' hh=>by obtain⟨l,x',Ea,hmu⟩:=au9 x.block o' hh;exact hm0 o' (S.Cl l x' _ o' Ea hmu hx))).trans (S.xf x hx hm0),rest:=⟨S'.rest.1.trans S.rest.1,S'.rest.2.trans S.rest.2⟩,low:=⟨S.low.1,by have:=S.low.2;show J.low<=H2.length;omega⟩,mF:=?_}
  ·intro k y hy;rcases hH2 k y hy with⟨l,hl,rfl,rfl⟩|⟨h1,h2,h3⟩
   ·rw[ava l hl];have r0:=S'.oB l _ (bT hl);exact oP.qo qo (acn r0) (fun _ _=>rfl) r0
   ·rw[aCd k h1 h2];have r0:=S.oB k y h3;exact oP.mono r0 le (fun b hb=>S'.n9 b (r0.qQ hb) (aB7 k y b h1 h2 h3 hb))
  ·intro k k' x x' b hx Ea hb sC;rcases hH2 k x hx with⟨l,hl,rfl,rfl⟩|⟨h1,h2,h3⟩<;>rcases hH2 k' x' Ea with⟨l',hl',rfl,rfl⟩|⟨h1',h2',h3'⟩
   ·rw[ava l hl]at hb;rw[ava l' hl']at sC;have:=S'.apart l l' _ _ b (bT hl) (bT hl') (CX.1 hb) (CX.1 sC);rw[this]
   ·rw[ava l hl]at hb;rw[aCd k' h1' h2']at sC;exfalso;obtain⟨q,z,hz,hzb⟩:=auv l hl b (CX.1 hb) ((S.oB k' x' h3').qQ sC);obtain⟨o'',hmu⟩:=aaC hzb;exact aB7 k' x' b h1' h2' h3' sC o'' ⟨q,z,hz,hmu⟩
   ·rw[ava l' hl']at sC;rw[aCd k h1 h2]at hb;exfalso;obtain⟨q,z,hz,hzb⟩:=auv l' hl' b (CX.1 sC) ((S.oB k x h3).qQ hb);obtain⟨o'',hmu⟩:=aaC hzb;exact aB7 k x b h1 h2 h3 hb o'' ⟨q,z,hz,hmu⟩
   ·rw[aCd k h1 h2]at hb;rw[aCd k' h1' h2']at sC;exact S.apart k k' x x' b h3 h3' hb sC
  ·intro k x b o' hx hb;rcases hH2 k x hx with⟨l,hl,rfl,rfl⟩|⟨h1,h2,h3⟩
   ·rw[ava l hl]at hb;intro hA;have hbs:b<w.heap.size:=bW (C.hA b o' hA) S.size;obtain⟨q,z,hz,hzb⟩:=auv l hl b (CX.1 hb) hbs;obtain⟨z',hz',aN3⟩:=JD q z b hz hzb;exact S.uf _ z' b o' hz' aN3 hA
   ·rw[aCd k h1 h2]at hb;exact S.uf k x b o' h3 hb
  ·intro b o' hb hm;have sC:b<w.heap.size:=bW hb S.size
   have hnc: ¬ G9 φc H b o':=by
    intro hh;obtain⟨k,y,hy,hmu⟩:=au9 b o' hh;exact hm (S.Cl k y b o' hy hmu hb)
   exact(S'.old b o' sC hnc).trans (S.old b o' hb hm)
  ·intro b hb hm;have sC:b<w.heap.size:=bW hb S.size
   have hnc:∀o',¬ G9 φc H b o':=by
    intro o' hh;obtain⟨k,y,hy,hmu⟩:=au9 b o' hh;exact hm o' (S.Cl k y b o' hy hmu hb)
   exact(S'.n9 b sC hnc).trans (S.n9 b hb hm)
  ·intro k x b o' hx hmu hb;rcases hH2 k x hx with⟨l,hl,rfl,rfl⟩|⟨h1,h2,h3⟩
   ·rw[ava l hl]at hmu;obtain⟨q,z,hz,hmz⟩:=S'.Cl l _ b o' (bT hl) (acm.1 hmu) (bW hb S.size);obtain⟨k2,y2,hy2,aRG⟩:=au9 b o' ⟨q,z,hz,hmz⟩;exact S.Cl k2 y2 b o' hy2 aRG hb
   ·rw[aCd k h1 h2]at hmu;exact S.Cl k x b o' h3 hmu hb
  ·intro k hk;have hkn:k<n:=by have:=S.low;simp only[n];omega
   have hn:=S.mF k hk;show(U2 k=_/\_)\/_;rcases aGE k hkn with⟨l,hl,rfl⟩|hm
   ·have hn':=S'.mF l hl;rw[ava l (by omega),aN4 l (by omega),Hg];rw[au8 l H[l] (bT hl),Hg]at hn;have h1:mT H'[l]? =mT (some H'[l]):=by rw[bT (by omega)]
    have h2:C'.ln0 l=mT (some H[l]):=by show mT H[l]? =_;rw[bT hl]
    have h3:C'.U0 l=U (ρf l):=rfl;rw[h1,h2,h3]at hn';rcases hn' with⟨ha,hb|hb⟩|⟨⟨q,hq,rQ⟩,hp,hmp⟩
    ·rw[ha,hb];exact hn
    ·rw[hb];rcases hn with⟨hc1,_⟩|⟨⟨q,hq,_⟩,hp,hmp⟩
     ·exact .inl ⟨by rw[ha];exact hc1,.inr rfl⟩
     ·exact .inr ⟨⟨q,hq,fun k' YG=>by cases YG⟩,hp,hmp⟩
    ·right;rcases hn with⟨hc1,hc2|hc2⟩|⟨⟨q2,hq2,aRH⟩,hp2,aRI⟩
     ·rw[hq]at hc2;exact⟨⟨q,hc2.symm,rQ⟩,by rw[<-hc1];exact⟨hp,hmp⟩⟩
     ·rw[hq]at hc2;cases hc2
     ·exact⟨⟨q2,hq2,fun k' YG=>by have:=rQ k' YG;have:=aRH q hq;omega⟩,hp2,aRI⟩
   ·rw[aCd k hkn hm,aRE k hkn hm];exact hn
 refine⟨o.qo ρf,U2,H2,hK o H' hV,S2,?_⟩;cases o with
 |ret r=>
  cases e with
  |returned v=>exact pz.qo qo r v (pz.nb _ _ uu) uu
  |panicked chain=>exact uu.elim
  |outgrown=>exact uu.elim
 |panic x=>
  cases e with
  |returned v=>exact uu.elim
  |panicked chain=>
   obtain⟨v,hv,hr⟩:=uu;exact⟨v,hv,pz.qo qo x v (pz.nb _ _ hr) hr⟩
  |outgrown=>exact uu.elim
def anP:aiI (fun _ w vs R=>Calls P f vs w R):=⟨fun _ _ _ _ _ hr h=>Calls.mono h hr⟩
def aCe:aiI (WC P):=⟨fun _ _ _ _ _ hr h D rec h1 h2=>(h D rec h1 h2).mono hr⟩
def azT {aSK:List AV}(h:FnG P f args H V)(Y:List Nat)(hlen:Y.length=H.length)(hnd:Y.Nodup)
 (Zh:qn aSK (sO (pg Y J.heap.length) args)) (Ue:∀(i:Nat)(k:Nat)(x:j6),Y[i]? =some k->H[i]? =some x->J.heap[k]? =some (x.qo (pg Y J.heap.length)))
 (hK:∀o H',V o H'->K (o.qo (pg Y J.heap.length)) (xD Y J.heap H')):Bt P f aSK J K:=
 ⟨h.1,apf (T:=fun _ w vs R=>Calls P f vs w R) (l0:=0) anP h.2 Y hlen hnd (fun _=>rfl) Zh Ue hK⟩
end call
def oP.aPP{x:j6}(r:oP E x hd)(h:E.Le N E')(hn:rX N x)(hs:E'.w=E.w:=by rfl):oP E' x hd:=by
 cases x with
 |cells cs=>obtain⟨b,c,t,h1,h2,rl,h3⟩:=r;exact⟨b,c,t,h1,by rw[hs];exact h2,kQ.mono h _ _ hn rl,h3⟩
 |lV tZ sz rows=>
  obtain⟨base,cap,h1,h2,h3,h4,h5⟩:=r;refine⟨base,cap,h1,h2,h3,h4,fun a0 ha hc=>?_⟩;obtain⟨h6,c,t,h7,h8,rl,h9⟩:=h5 a0 ha hc;exact⟨h6,c,t,by rw[hs];exact h7,h8,kQ.mono h _ _ (LL hn) rl,h9⟩
 |map es=>obtain⟨r',en,cl,h1,h2,rp⟩:=r;exact⟨r',en,cl,h1,by rw[hs];exact h2,td.mono h hn rp⟩
 |loop k kf st uD=>obtain⟨D,rec,h1,h2,h3,h4,rl⟩:=r;exact⟨D,rec,h1,by rw[hs];exact h2,by rw[hs];exact h3,h4,kQ.mono h _ _ hn rl⟩
 |iter s p=>obtain⟨b,h1,h2⟩:=r;exact⟨b,h1,by rw[hs];exact h2⟩
 |alT s=>exact aeL r (fun b _=>by rw[hs])
 |vz=>trivial
def anQ(J:jT)(x r:AV)(H':List j6):Prop:=
 ∀ (C:qC) (U:Nat->aTw) (a:Act) (w:aTA),nK C U J a w-> ∀v,pz (C.env U J.heap w) x v->
   ∃U',nK C U' {kf:=[],heap:=H',low:=J.low} {tmps:= #[],defers:=[]} w/\pz (C.env U' H' w) r v
def aeW(low l k:Nat):Nat:=if k<low then k else if k=l then low else low+1+k
section aLC

theorem aCf(hl:l<low):(H.take low)[l]? =H[l]? :=by rw[List.getElem?_take,if_pos hl]
def aEJ{y:j6}(hl:J.heap[l]? =some y)(aSF:J.low<=l)(G8: ∀z∈J.heap.take J.low,rX J.low z)(hy:rX J.low y)(hr:(x.qo (aeW J.low l)).nb (J.low+1)):
 anQ J x (x.qo (aeW J.low l)) (J.heap.take J.low++[y]):=by
 intro C U a w S v hv;have aRJ:=S.low.2;have hHl:(J.heap.take J.low).length=J.low:=by rw[List.length_take];omega
 let H':=J.heap.take J.low++[y]
 let U':Nat->aTw:=fun k=>if k=J.low then U l else U k
 have hφ':∀k,k<J.low->U' k=U k:=fun k hk=>by simp only[U'];rw[if_neg (by omega)]
 have hφl:U' J.low=U l:=by simp [U']
 have aGK:∀k,k<J.low->H'[k]? =J.heap[k]? :=by
  intro k hk;simp only[H'];rw[cn (by omega),aCf hk]
 have aNC:H'[J.low]? =some y:=by
  simp only[H'];rw[cz (by omega),hHl,Nat.sub_self];rfl
 have aJy:H'.length=J.low+1:=by simp only[H',List.length_append,hHl,dx,List.length_nil]
 have oa:∀(k:Nat)(z:j6),H'[k]? =some z->(k<J.low/\J.heap[k]? =some z)\/(k=J.low/\z=y):=by
  intro k z hz;have hk:k<J.low+1:=by rw[<-aJy];exact(bV.1 hz).1
  by_cases e:k=J.low
  ·subst e;rw[aNC]at hz;cases hz;exact .inr ⟨rfl,rfl⟩
  ·left;rw[aGK k (by omega)]at hz;exact⟨by omega,hz⟩
 let old:Nat->Nat:=fun k=>if k=J.low then l else k
 have hold:∀(k:Nat)(z:j6),H'[k]? =some z->J.heap[old k]? =some z/\U' k=U (old k):=by
  intro k z hz;rcases oa k z hz with⟨h1,h2⟩|⟨rfl,rfl⟩
  ·simp only[old];rw[if_neg (by omega)];exact⟨h2,hφ' k h1⟩
  ·simp only[old,jN];exact⟨hl,hφl⟩
 have aLD:∀k k',k<J.low+1->k'<J.low+1->old k=old k'->k=k':=by
  intro k k' hk YG he;simp only[old]at he;split at he<;>split at he<;>omega
 have Ph:∀b o,G9 U' H' b o->G9 U J.heap b o:=by
  rintro b o ⟨k,z,hz,hm⟩;obtain⟨h1,h2⟩:=hold k z hz;rw[h2]at hm;exact⟨old k,z,h1,hm⟩
 have le:(C.env U J.heap w).Le J.low (C.env U' H' w):=by
  refine⟨by simp only[qC.env];omega,fun k hk=>.inl ⟨hφ' k hk,.inl (by simp only[qC.env];rw[aGK k hk])⟩,fun b o u hm hc=>⟨fun h=>hm (h.imp (Ph b o) id),hc⟩,CQ _⟩
 refine⟨U',{kf:=rfl,defers:=tf.nil,oB:=?_,apart:=?_,uf:=?_,size:=S.size,old:=S.old,n9:=S.n9,Cl:=?_,xf:=S.xf,rest:=S.rest,low:=⟨S.low.1,by show J.low<=H'.length;omega⟩,mF:=?_},?_⟩
 ·intro k z hz;show oP (C.env U' H' w) z (U' k);obtain⟨h1,h2⟩:=hold k z hz;rw[h2];refine(S.oB (old k) z h1).aPP le ?_;rcases oa k z hz with⟨h3,h4⟩|⟨rfl,rfl⟩
  ·exact G8 z (cQ ((aCf h3).trans h4))
  ·exact hy
 ·intro k k' z z' b hz hz' hb sC;obtain⟨h1,h2⟩:=hold k z hz;obtain⟨h1',h2'⟩:=hold k' z' hz';rw[h2]at hb;rw[h2']at sC;have hk:k<J.low+1:=by rw[<-aJy];exact(bV.1 hz).1
  have YG:k'<J.low+1:=by rw[<-aJy];exact(bV.1 hz').1
  exact aLD k k' hk YG (S.apart _ _ z z' b h1 h1' hb sC)
 ·intro k z b o hz hb;obtain⟨h1,h2⟩:=hold k z hz;rw[h2]at hb;exact S.uf _ z b o h1 hb
 ·intro k z b o hz hm hb;obtain⟨h1,h2⟩:=hold k z hz;rw[h2]at hm;exact S.Cl _ z b o h1 hm hb
 ·intro k hk;have YG:k<J.low:=by have:=S.low.1;omega
  show(U' k=_/\(mT H'[k]? =_\/_))\/_;rw[hφ' k YG,aGK k YG];exact S.mF k hk
 ·
  let E2:D4:={w,mu:=(C.env U' H' w).mu,U:=fun k=>if k<J.low+1 then U' k else U (k-(J.low+1)),ln:=fun k=>if k<J.low+1 then mT H'[k]? else none,n:=J.low+1+J.heap.length}
  have qo:ao7 J.heap.length (aeW J.low l) (C.env U J.heap w) E2:=by
   refine⟨fun k hk=>?_,fun k hk=>?_,fun b o u hm hc=>⟨fun h=>hm (h.imp (Ph b o) id),hc⟩,CQ _⟩
   ·simp only[aeW,E2];split
    ·omega
    ·split<;>omega
   ·simp only[aeW,E2,qC.env];split
    ·rename_i h1;rw[if_pos (by omega),if_pos (by omega),hφ' k h1,aGK k h1];exact⟨rfl,.inl rfl⟩
    ·split
     ·rename_i h1 h2;subst h2;rw[if_pos (by omega),if_pos (by omega),hφl,aNC,hl];exact⟨rfl,.inl rfl⟩
     ·rw[if_neg (by omega),if_neg (by omega)];refine⟨?_,.inr rfl⟩;congr 1;omega
  have h1:=pz.qo qo x v (pz.nb _ _ hv) hv
  have le2:E2.Le (J.low+1) (C.env U' H' w):=by
   refine⟨by simp only[qC.env];show J.low+1<=H'.length;omega,fun k hk=>.inl ⟨?_,.inl ?_⟩,fun b o u hm hc=>⟨hm,hc⟩,CQ _⟩
   ·show U' k=if k<J.low+1 then U' k else _
    rw[if_pos hk]
   ·show mT H'[k]? =if k<J.low+1 then mT H'[k]? else none
    rw[if_pos hk]
  exact pz.mono le2 _ v hr h1
end aLC
def xX{args:Array aTw}{R R':aTC->FrameMode->aTA->Prop}(h:CallsDIn F n P f args u w R)(hr:∀e u' w',R e u' w'->R' e u' w'):CallsDIn F n P f args u w R':=by
 refine⟨h.1,fun c cs hc Au=>?_⟩;obtain⟨e,u',w',fr,hR,yn⟩:=h.2 c cs hc Au;exact⟨e,u',w',fr,hr _ _ _ hR,yn⟩
def axk(P:aTz)(f:aTy):aTw->aTA->Array aTw->(aTC->aTA->Prop)->Prop:=fun _ w vs R=>
 CallsDIn cf 0 P f vs .returning w fun e u' w'=>∃r,e=.returned r/\settle u'=.returning/\R (.returned r) w'
def axl(P:aTz)(f:aTy):aTw->aTA->Array aTw->(aTC->aTA->Prop)->Prop:=fun _ w vs R=>∀(vs0:Array aTw)(v:aTw),vs=vs0.push v->
 CallsDIn cf 0 P f vs0 (.panicking [{v,recovered:=false}]) w fun e u' w'=>∃r,e=.returned r/\
  ((settle u'=.returning/\R (.returned r) w')\/∃v',settle u'=.panicking [{v:=v',recovered:=false}]/\R (.panicked [{v:=v',recovered:=false}]) w')
def arm:aiI (axk P f):=⟨fun _ _ _ _ _ hr h=>xX h fun _ _ _ ⟨r,h1,h2,h3⟩=>⟨r,h1,h2,hr _ _ h3⟩⟩
def arn:aiI (axl P f):=⟨fun _ _ _ _ _ hr h vs0 v hv=>xX (h vs0 v hv) fun _ _ _ ⟨r,h1,h2⟩=>⟨r,h1,h2.imp (fun ⟨h3,h4⟩=>⟨h3,hr _ _ h4⟩) fun ⟨v',h3,h4⟩=>⟨v',h3,hr _ _ h4⟩⟩⟩
def apg (P:aTz) (zx:Option AV->jT->Prop):List (aTy×List AV)->Option AV->jT->Prop
 |[],m,J=>zx m J
 |(f,args)::ds,none,J=>enters P f=true/\Zj P (axk P f) 0 args {J with df:=ds} (fun o H'=>match o with
    |.ret _=>apg P zx ds none {J with heap:=H',df:=ds}
    |.panic _=>False)
 |(f,args)::ds,some x,J=>enters P f=true/\Zj P (axl P f) 0 (args++[x]) {J with df:=ds} (fun o H'=>match o with
    |.ret _=>apg P zx ds none {J with heap:=H',df:=ds}
    |.panic x'=>apg P zx ds (some x') {J with heap:=H',df:=ds})
section unw
variable {C:qC} {ds:List Deferred}
def nK.aEK{v:aTw}(S:nK C U {J with kf:=J.kf++[x]} {tmps:=tmps.push v,defers:=ds} w)(hl:J.kf.length=tmps.size):nK C U J {tmps,defers:=ds} w/\pz (C.env U J.heap w) x v:=by
 have h1:=S.kf.take J.kf.length;have h2:=S.kf.drop J.kf.length;have hlen:tmps.toList.length=J.kf.length:=by simp [hl]
 simp only[cC]at h1 h2;rw[cM rfl,cM hlen]at h1;rw[cN rfl,cN hlen]at h2;obtain⟨u,us,he2,r1,_⟩:=h2;simp only[cq]at he2;obtain⟨rfl,_⟩:=he2;exact⟨{S with kf:=h1,defers:=S.defers},r1⟩
def nK.azU{v:aTw}(S:nK C U J {tmps,defers:=ds} w)(h:pz (C.env U J.heap w) x v):nK C U {J with kf:=J.kf++[x]} {tmps:=tmps.push v,defers:=ds} w:=by
 refine {S with kf:=?_,defers:=S.defers};have hv:kQ (C.env U J.heap w) [x] [v]:=⟨v,[],rfl,h,rfl⟩;simp only[cC];exact S.kf.append hv
def nK.len(S:nK C U J {tmps,defers:=ds} w):J.kf.length=tmps.size:=by
 have:=S.kf.length;simpa using this.symm
def nK.aPQ{v:aTw}(S:nK C U {J with kf:=J.kf++[x]} {tmps:=tmps.push v,defers:=ds} w):J.kf.length=tmps.size:=by
 have:=S.kf.length;simp at this;exact this.symm
def nK.pop{d:Deferred}(S:nK C U J {tmps,defers:=d::ds} w)(hm:aoQ d=false):
 ∃f xs df' cap,J.df=(f,xs)::df'/\d.target=.fn (.func f) cap/\kQ (C.env U J.heap w) xs (d.args++cap).toList/\nK C U {J with df:=df'} {tmps,defers:=ds} w:=by
 obtain⟨h1,h2,h3⟩:=S.defers;simp only[dy,hm,Bool.not_false,jN,cV,if_false]at h1 h3;cases hdf:J.df with
 |nil=>rw[hdf]at h3;cases h3
 |cons p df'=>
  obtain⟨f,xs⟩:=p;rw[hdf]at h3;obtain⟨d',s,cap,he,ht,hr,yn⟩:=h3;simp only[cq]at he;obtain⟨rfl,rfl⟩:=he;exact⟨f,xs,df',cap,rfl,ht,hr,{S with kf:=S.kf,defers:=⟨h1,fun d' hd'=>h2 d' (List.mem_cons_of_mem _ hd'),yn⟩}⟩
def avb{d:Deferred}{cap:Array aTw}(ht:d.target=.fn (.func f) cap)(he:enters P f=true):(invoke d.target d.args).run P w=.ok (.enter f (d.args++cap)) w:=by
 unfold enters at he;split at he
 ·rename_i fn hfn;simp only[cg,bne_iff_ne,ne_eq]at he;have ayI:fn.body≠none:=by intro hb;simp [hb]at he
  simp [ht,invoke,callFunc,hfn,he.2,ayI]
 ·cases he
def anR{fn:Func}{R:aTC->aTA->Prop}{zx:Option AV->jT->Prop}
 (hr:∀U J w,nK C U J {tmps,defers:=[]} w->zx none J->∃v,(results fn tmps).run C.P w=.ok v w/\R (.returned v) w)
 (hp:∀U J x v w,nK C U J {tmps,defers:=[]} w->pz (C.env U J.heap w) x v->zx (some x) J->R (.panicked [{v,recovered:=false}]) w):
 ∀ (ds:List Deferred),
   (∀U J w,nK C U J {tmps,defers:=ds} w->apg C.P zx J.df none J->LeavesInM cf 0 C.P fn tmps R ds .returning w)/\
   (∀U J x v w,nK C U {J with kf:=J.kf++[x]} {tmps:=tmps.push v,defers:=ds} w->apg C.P zx J.df (some x) J->LeavesInM cf 0 C.P fn tmps R ds (.panicking [{v,recovered:=false}]) w)
 |[]=>by
  refine⟨fun U J w S h=>?_,fun U J x v w S h=>?_⟩
  ·have hd:J.df=[]:=by
    have:=S.defers.2.2;cases hdf:J.df with
    |nil=>rfl
    |cons p r=>rw[hdf]at this;obtain⟨_,_,_,h,_⟩:=this;cases h
   rw[hd]at h;exact hr U J w S h
  ·obtain⟨S',hx⟩:=S.aEK S.aPQ
   have hd:J.df=[]:=by
    have:=S'.defers.2.2;cases hdf:J.df with
    |nil=>rfl
    |cons p r=>rw[hdf]at this;obtain⟨_,_,_,h,_⟩:=this;cases h
   rw[hd]at h;exact hp U J x v w S' hx h
 |d::ds=>by
  obtain⟨ihr,ihp⟩:=anR hr hp ds;refine⟨fun U J w S h=>?_,fun U J x v w S h=>?_⟩
  ·cases hm:aoQ d with
   |true=>
    obtain⟨D,hD,_⟩:=S.defers.2.1 d (cO) hm;subst hD;obtain⟨h1,S'⟩:=S.apc;exact⟨by simp,.inl ⟨D,_,rfl,run_takeDeferred h1,ihr U J _ S' h⟩⟩
   |false=>
    obtain⟨f,xs,df',cap,hdf,ht,hxs,S'⟩:=S.pop hm;rw[hdf]at h;obtain⟨he,hc⟩:=h;refine⟨by simp,.inr ⟨fun h=>by simp [cf]at h,_,cap,f,d.args++cap,ht,avb ht he,fun _ _=>trivial,?_⟩⟩;refine xX (hc C U _ w rfl S' _ hxs) ?_;rintro e u' w' ⟨r,rfl,hs,o,U',H',hK,S2,uu⟩;cases o with
    |ret r'=>
     simp only;rw[hs];exact ihr U' _ w' S2 hK
    |panic _=>exact hK.elim
  ·cases hm:aoQ d with
   |true=>
    obtain⟨D,hD,_⟩:=S.defers.2.1 d (cO) hm;subst hD;obtain⟨h1,S'⟩:=S.apc;exact⟨by simp,.inl ⟨D,_,rfl,run_takeDeferred h1,ihp U J x v _ S' h⟩⟩
   |false=>
    obtain⟨S1,hx⟩:=S.aEK S.aPQ;obtain⟨f,xs,df',cap,hdf,ht,hxs,S'⟩:=S1.pop hm;rw[hdf]at h;obtain⟨he,hc⟩:=h;refine⟨by simp,.inr ⟨fun h=>by simp [cf]at h,_,cap,f,d.args++cap,ht,avb ht he,fun _ _=>trivial,?_⟩⟩
    have Zh:kQ (C.env U J.heap w) (xs++[x]) ((d.args++cap).push v).toList:=by
     have hv:kQ (C.env U J.heap w) [x] [v]:=⟨v,[],rfl,hx,rfl⟩;rw[cC];exact hxs.append hv
    refine xX (hc C U _ w rfl S' _ Zh _ v rfl) ?_;rintro e u' w' ⟨r,rfl,⟨hs,o,U',H',hK,S2,uu⟩|⟨v',hs,o,U',H',hK,S2,uu⟩⟩
    ·cases o with
     |ret r'=>
      simp only;rw[hs];exact ihr U' _ w' S2 hK
     |panic _=>exact uu.elim
    ·cases o with
     |ret r'=>exact uu.elim
     |panic x'=>
      simp only;rw[hs];obtain⟨v2,hv2,hr2⟩:=uu;simp only[cq,PanicEntry.mk.injEq,and_true]at hv2;subst hv2;exact ihp U' _ x' _ w' (S2.azU hr2) hK
end unw
def aro(P:aTz)(rs:List ResultVar)(V:vB->List j6->Prop):Option AV->jT->Prop
 |none,J=>∃x,aSJ P J rs=some x/\∃r H',anQ J x r H'/\V (.ret r) H'
 |some x,J=>∃r H',anQ J x r H'/\V (.panic r) H'
def aND(P:aTz)(rs:List ResultVar)(V:vB->List j6->Prop):ot->jT->Prop
 |.normal,J=>apg P (aro P rs V) J.df none J
 |.ret,J=>apg P (aro P rs V) J.df none J
 |.panic x,J=>apg P (aro P rs V) J.df (some x) J
 |_,_=>False
def aCg{fn:Func}(hf:P.funcs[f]? =some fn)(hb:fn.body=some c)(sB:(fn.name != "runtime.NumGoroutine")=true)(G8:ua H.length args)
 (JG:∀x∈H,rX H.length x) (hn:fn.ntmps=n) {rs:List ResultVar} (Lo:fn.results=rs.toArray)
 (h:awp P c (aND P rs V) {kf:=args++cm (n-args.length) .any,heap:=H,low:=H.length}):FnG P f args H V:=by
 refine⟨?_,G8,JG,fun C U w hP h0 hN0 hφ0 hM HS vs hr=>?_⟩
 ·unfold enters;rw[hf];simp only[hb,dK,Bool.true_and];exact sB
 ·subst hP;refine(callsIn_wide (n:=0)).1 (callsIn_of_wp_marks hf hb trivial ?_);have hsz:vs.size=args.length:=by have:=hr.length;simpa using this
  have S:nK C U {kf:=args++cm (n-args.length) .any,heap:=H,low:=H.length} {tmps:=vs++b9 (fn.ntmps-vs.size) undef,defers:=[]} w:=by
   refine {HS with kf:=?_,defers:=tf.nil};simp only[cT,cY];refine hr.append ?_;rw[hsz,hn];have:=kQ.FP (E:=C.env U H w) (cm (n-args.length) undef);simpa using this
  refine wpIn_mono (yD (ro:=none) c _ U _ _ w (.inl rfl) h S) ?_;intro e a' w' hq;have aSF:∀{U':Nat->aTw}{J':jT}{a'':Act}{w'':aTA},nK C U' J' a'' w''->J'.low=H.length:=fun S'=>by rw[<-S'.low.1];exact hN0
  have zx:=anR (C:=C) (tmps:=a'.tmps) (fn:=fn) (R:=fun e w'=>∃o U' H',V o H'/\nK C U' {kf:=[],heap:=H',low:=H.length} {tmps:= #[],defers:=[]} w'/\o.rep (C.env U' H' w') e) (zx:=aro C.P rs V)
   (by
     rintro U' J' w' S' ⟨x,hx,r,H',hex,hV⟩;obtain⟨v,hv,rv⟩:=Rr (fn:=fn) S' (by rw[Lo];exact hx);obtain⟨U2,S2,hr2⟩:=hex C U' _ w' S' v rv;rw[aSF S']at S2;exact⟨v,hv,.ret r,U2,H',hV,S2,hr2⟩)
   (by
     rintro U' J' x v w' S' hx ⟨r,H',hex,hV⟩;obtain⟨U2,S2,hr2⟩:=hex C U' _ w' S' v hx;rw[aSF S']at S2;exact⟨.panic r,U2,H',hV,S2,v,rfl,hr2⟩) a'.defers
  cases e with
  |normal=>obtain⟨U',J',S',hq⟩:=hq;exact zx.1 U' J' w' S' hq
  |ret=>obtain⟨U',J',S',hq⟩:=hq;exact zx.1 U' J' w' S' hq
  |exit id=>obtain⟨_,_,_,hq⟩:=hq;exact hq.elim
  |goto l=>obtain⟨_,_,_,hq⟩:=hq;exact hq.elim
  |panic chain=>
   obtain⟨U',J',x,v,S',hq,hch,uu⟩:=hq;subst hch;exact zx.2 U' J' x v w' (nK.azU (tmps:=a'.tmps) (ds:=a'.defers) S' uu) hq
  |outgrown=>exact hq.elim
def aHI(P:aTz)(rs:List ResultVar)(V:AV->Prop):Option AV->jT->Prop
 |none,J=>aHH V J.heap (aSJ P J rs)
 |some _,_=>False
def aJz(P:aTz)(rs:List ResultVar)(V:AV->Prop):ot->jT->Prop
 |.normal,J=>apg P (aHI P rs V) J.df none J
 |.ret,J=>apg P (aHI P rs V) J.df none J
 |.panic x,J=>apg P (aHI P rs V) J.df (some x) J
 |_,_=>False
def azV {fn:Func} {V:AV->Prop} (hf:P.funcs[f]? =some fn) (hb:fn.body=some c) (sB:(fn.name != "runtime.NumGoroutine")=true) (G8:ua 0 args)
 (h:awp P c (aJz P fn.results.toList V) {kf:=args++cm (fn.ntmps-args.length) .any,heap:=[]}):JE P f args V:=by
 refine⟨?_,G8,fun C U w hP h0 hN hM vs hr=>?_⟩
 ·unfold enters;rw[hf];simp only[hb,dK,Bool.true_and];exact sB
 ·subst hP;refine (callsIn_wide (n:=0)).1 (callsIn_of_wp_marks hf hb trivial ?_);have hsz:vs.size=args.length:=by have:=hr.length;simpa using this
  have S:nK C U {kf:=args++cm (fn.ntmps-args.length) .any,heap:=[]} {tmps:=vs++b9 (fn.ntmps-vs.size) undef,defers:=[]} w:=by
   refine {kf:=?_,defers:=tf.nil,oB:=by simp,apart:=by simp,uf:=by simp,size:=by rw[h0];exact bZ _,old:=fun b o _ _=>by rw[h0],n9:=fun b _ _=>by rw[h0],Cl:=by simp,xf:=fun x _ _=>by rw[h0],rest:=by rw[h0];exact⟨rfl,rfl⟩,low:=⟨hN,bZ _⟩,mF:=fun l hl=>by rw[hN]at hl;exact absurd hl (cc _)};simp only[cT,cY];refine hr.append ?_;rw[hsz];have:=kQ.FP (E:=C.env U [] w) (cm (fn.ntmps-args.length) undef);simpa using this
  refine wpIn_mono (yD (ro:=none) c _ U _ _ w (.inl rfl) h S) ?_;intro e a' w' hq
  have zx:=anR (C:=C) (tmps:=a'.tmps) (fn:=fn) (R:=fun e w'=>∃r v U',V r/\e=.returned v/\pz (C.env U' [] w') r v/\w.heap.size<=w'.heap.size/\(∀b,b<w.heap.size->w'.heap[b]? =w.heap[b]?)/\
        (∀x,x.block<w.heap.size->w'.frozen? x=w.frozen? x)/\w'.output=w.output/\w'.os=w.os) (zx:=aHI C.P fn.results.toList V)
   (by
     intro U' J' w' S' aaD;simp only[aHI]at aaD;cases hx:aSJ C.P J' fn.results.toList with
     |none=>rw[hx]at aaD;exact aaD.elim
     |some x=>
     rw[hx]at aaD;obtain⟨hn,r0,ao2,hV⟩:=aaD;obtain⟨v,hv,rv⟩:=Rr S' hx;refine⟨v,hv,_,v,U',hV,rfl,ao2 _ _ (by have:=arh S' (S'.aNw (by rw[<-S'.low.1];exact hN)) x v;rw[<-S'.low.1,hN]at this;exact this hn rv),?_,?_,?_,?_⟩
     ·rw[<-h0];exact S'.size
     ·intro b hb;rw[<-h0];exact S'.n9 b (by rw[h0];exact hb) (fun o=>hM b o)
     ·intro y hy;rw[<-h0];exact S'.xf y (by rw[h0];exact hy) (fun o=>hM y.block o)
     ·rw[<-h0];exact S'.rest)
   (by
     intro U' J' x v w' S' hx aaD;exact aaD.elim) a'.defers
  cases e with
  |normal=>obtain⟨U',J',S',hq⟩:=hq;exact zx.1 U' J' w' S' hq
  |ret=>obtain⟨U',J',S',hq⟩:=hq;exact zx.1 U' J' w' S' hq
  |exit id=>obtain⟨_,_,_,hq⟩:=hq;exact hq.elim
  |goto l=>obtain⟨_,_,_,hq⟩:=hq;exact hq.elim
  |panic chain=>
   obtain⟨U',J',x,v,S',hq,hch,uu⟩:=hq;subst hch;exact zx.2 U' J' x v w' (nK.azU (tmps:=a'.tmps) (ds:=a'.defers) S' uu) hq
  |outgrown=>exact hq.elim
attribute [go_sem] AV.qo sO FX j6.qo vB.qo pg xD sD aeW aND
def aSL:List AV->List Tmp->List AV->List AV
 |s,p::ps,x::xs=>aSL (s.set p x) ps xs
 |s,_,_=>s
def ayR{E:D4}:∀{ps:List Tmp}{xs:List AV}{vs:List aTw}{s:List AV}{t:Array aTw},kQ E xs vs->kQ E s t.toList->
 kQ E (aSL s ps xs) ((ps.zip vs).foldl (fun t (p:Tmp×aTw)=>t.setIfInBounds p.1 p.2) t).toList
 |[],_,_,_,_,_,h=>by simpa [aSL] using h
 |_::_,[],_,_,_,rfl,h=>by simpa [aSL] using h
 |p::ps,x::xs,_,s,t,⟨u,us,rfl,r1,r2⟩,h=>by
  simp only[aSL,List.zip_cons_cons,List.foldl_cons];refine ayR r2 ?_;have:=h.set (i:=p) r1
  grind
def avc:ot->Option (Option aTx)
 |.normal=>some none
 |.ret=>some (some .ret)
 |.exit id=>some (some (.exit id))
 |_=>none
def aGL(V:vB->List j6->Prop)(e:ot)(J:jT):Prop:=
 ∃j k s,avc e=some (pX k.js j)/\J.heap[0]? =some (.loop k s .busy 0)/\∃r H',anQ {J with heap:=J.heap.set 0 (.loop k s (stP (pX k.js j)) j)} (.bool (pX k.js j).isNone) r H'/\V (.ret r) H'
def azW{k:xP}(hH:H[0]? =some (.loop k kf .ready 0))
 (G8:ua H.length args) (JG:∀x∈H,rX H.length x) (hn:yC k.assign=true/\yC k.body=true)
 (h:awp P k.assign (ot.then (fun J1=>∃k1 s1,J1.heap[0]? =some (.loop k1 s1 .ready 0)/\awp P k.body (aGL V) {J1 with heap:=J1.heap.set 0 (.loop k1 s1 .busy 0)}) (fun _ _=>False))
   {kf:=aSL kf k.ps.toList args,heap:=H,low:=H.length}):FnT P (WC P) args H V:=by
 refine⟨G8,JG,fun C U w hP h0 hN hφ0 hM HS vs hr D rec hφ hw=>?_⟩;subst hP;have azN:0<H.length:=(bV.1 hH).1
 have aJA:∀{U':Nat->aTw}{J':jT}{a':Act}{w':aTA},nK C U' J' a' w'->U' 0=.func (.yield (D+1)) #[] #[]:=by
  intro U' J' a' w' S';rcases S'.mF 0 (by omega)with⟨h1,_⟩|⟨⟨n,h1,_⟩,_⟩
  ·rw[h1,(hφ0 0 azN).1];exact hφ
  ·rw[(hφ0 0 azN).2,hH]at h1;cases h1
 have aSF:∀{U':Nat->aTw}{J':jT}{a':Act}{w':aTA},nK C U' J' a' w'->J'.low=H.length:=fun S'=>by rw[<-S'.low.1];exact hN
 have Ue:∀{U':Nat->aTw}{J':jT}{a':Act}{w':aTA}{k:xP}{s:List AV}{st:LoopState}{c:Int},nK C U' J' a' w'->J'.heap[0]? =some (.loop k s st c)->
  ∃aiH,w'.heap[D+1]? =some (.loop aiH)/\(aiH.params=k.ps/\aiH.assign=k.assign/\aiH.body=k.body/\aiH.state=st/\aiH.pending=pX k.js c/\aiH.defers=D)/\kQ (C.env U' J'.heap w') s aiH.tmps.toList:=by
  intro U' J' a' w' k s st c S' h0;obtain⟨D',aiH,e1,g1,g2,g3,rl⟩:=S'.oB 0 _ h0;rw[aJA S']at e1;simp only[dh,Fn.yield.injEq,cG,and_true]at e1;subst e1;exact⟨aiH,g1,g3,rl⟩
 obtain⟨aSA,g1,g3,rl⟩:=Ue HS hH;rw[hw]at g1;cases g1;rw[g3.1,g3.2.1,g3.2.2.1];refine roundIn_of_wpIn (F:=cf) trivial ?_
 have S:nK C U {kf:=aSL kf k.ps.toList args,heap:=H,low:=H.length} {tmps:=(k.ps.zip vs).foldl (fun tmps (t,a)=>tmps.setIfInBounds t a) rec.tmps,defers:=[]} w:=by
  refine {HS with kf:=?_,defers:=tf.nil};have:=ayR (ps:=k.ps.toList) hr rl
  grind [Array.toList_zip]
 refine wpIn_mono (yD (ro:=some (D+1)) k.assign _ U _ _ w (.inr hn.1) h S) ?_;intro e a1 w1 hq;cases e with
 |exit id=>obtain⟨_,_,_,hq⟩:=hq;exact hq.elim
 |goto l=>obtain⟨_,_,_,hq⟩:=hq;exact hq.elim
 |ret=>obtain⟨_,_,_,hq⟩:=hq;exact hq.elim
 |panic ch=>obtain⟨_,_,_,_,_,hq,_⟩:=hq;exact hq.elim
 |outgrown=>exact hq.elim
 |normal=>
  obtain⟨U1,J1,S1,k1,s1,hH1,Pr⟩:=hq;obtain⟨aPR,kk,k3,_⟩:=Ue S1 hH1;refine⟨_,run_beginRound kk k3.2.2.2.1,?_⟩;have S2:=S1.azR (st':=.busy) (Pq:=0) hH1 (aJA S1) kk
  have e2:({aPR with state:=.busy,pending:=pX k1.js 0}:Loop)={aPR with state:=.busy}:=by
   rw[<-k3.2.2.2.2.1]
  rw[e2]at S2;refine wpIn_mono (yD (ro:=some (D+1)) k.body _ _ _ _ _ (.inr hn.2) Pr S2) ?_
  have zx:∀(e:ot)(c:Option aTx)(U2:Nat->aTw)(J2:jT)(a2:Act)(w3:aTA),avc e=some c->nK C U2 J2 a2 w3->aGL V e J2->
   ∃v w',(Instr.endRound (D+1) c).run C.P w3=.ok v w'/\∃o U' H',V o H'/\nK C U' {kf:=[],heap:=H',low:=H.length} {tmps:= #[],defers:=[]} w'/\o.rep (C.env U' H' w') (.returned v):=by
   rintro e c U2 J2 a2 w3 hj S3 ⟨j,k2,s2,hj',hH2,r,H',hex,hV⟩;rw[hj]at hj';obtain rfl:c=pX k2.js j:=Option.some.inj hj';obtain⟨aSB,m1,m3,_⟩:=Ue S3 hH2;have S4:=S3.azR (st':=stP (pX k2.js j)) (Pq:=j) hH2 (aJA S3) m1;have aaD:=run_endRound (P:=C.P) (pX k2.js j) m1;have est:(if (pX k2.js j).isNone then LoopState.ready else .done)=stP (pX k2.js j):=by cases pX k2.js j<;>rfl
   rw[est]at aaD;obtain⟨U5,S5,hr5⟩:=hex C U2 a2 _ S4 (.bool (pX k2.js j).isNone) rfl;rw[show J2.low=H.length from aSF S3]at S5;exact⟨_,_,aaD,.ret r,U5,H',hV,S5,hr5⟩
  intro e a2 w3 hq;cases e with
  |normal=>obtain⟨U2,J2,S3,hq⟩:=hq;exact zx .normal none U2 J2 a2 w3 rfl S3 hq
  |ret=>obtain⟨U2,J2,S3,hq⟩:=hq;exact zx .ret _ U2 J2 a2 w3 rfl S3 hq
  |exit id=>obtain⟨U2,J2,S3,hq⟩:=hq;exact zx (.exit id) _ U2 J2 a2 w3 rfl S3 hq
  |goto l=>obtain⟨_,_,_,_,_,_,hq,_⟩:=hq;cases hq
  |panic ch=>obtain⟨_,_,_,_,_,⟨_,_,_,hq,_⟩,_⟩:=hq;cases hq
  |outgrown=>exact hq.elim
end Go.Abs
end
