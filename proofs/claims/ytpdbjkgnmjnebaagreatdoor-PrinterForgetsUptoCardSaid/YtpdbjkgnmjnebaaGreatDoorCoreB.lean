/- A part of the proof: abstract states and the rules for them. -/
import Derived.Test.YtpdbjkgnmjnebaaGreatDoorCoreA
import Derived.RangeFuncLeaves
import Derived.Attr
set_option linter.all false
open Go renaming Oper→aPw,Value→aPx,Code→aPy,FuncId→aPz,Program→aPA,World→aPB,Operand→aPC,Ending→aPD
open Go.Op renaming operands→cg
open List renaming getElem?_eq_getElem→cj,getElem?_eq_some_iff→cm,range→cG,replicate→cH,getElem?_append_left→cJ,range_eq_range'→cM,eq_nil_of_length_eq_zero→cN,mem_append→cO,mem_cons→cP,getElem?_append_right→cQ,range'→cU,map_congr_left→cX,pairwise_cons→cY,take_left'→cZ,drop_left'→da,mem_cons_self→db,flatten_cons→dc,mem_of_getElem?→dh,getD_eq_getElem?_getD→di,pairwise_lt_range→dw,set_comm→dy,range'_succ→dD,mem_of_mem_erase→dH,getElem?_set_ne→dJ,tail_drop→dM,length_erase_of_mem→dQ,length_cons→dR,filter_cons→dU,nodup_cons→dV,getElem?_set_self→dW,set_getElem_self→dX,erase_cons_tail→dY,getElem?_of_mem→dZ,map_cons→eb
open Option.some renaming injEq→ck
open Nat renaming lt_of_lt_of_le→cn,le_refl→cv,not_lt_zero→cx,add_right_cancel_iff→cV,ne_of_lt→dK,zero_le→dN
open Prod.mk renaming injEq→cq
open Iff renaming rfl→ct
open Array renaming replicate→cw,toList_push→cR,getElem?_eq_getElem→cT,toList_append→dj,toList_replicate→dx,getElem?_eq_some_iff→dO
open Go.Fence renaming wide→cz
open Bool renaming and_eq_true→cC,false_eq_true→dm
open Option renaming bind_eq_some_iff→cD,map_eq_some_iff→cE,bind_some→cW,getD_some→dA,isSome_some→ec
open List.cons renaming injEq→cK
open Go.Oper renaming apart_spec→dl,uponIn_enter→dr,semAt_eq→dz
open Go.Value.func renaming injEq→dG
noncomputable section
namespace Go.Abs
variable {v x y:AV}{a:Act}{listed:Array Bool}{lR:Array aPw}{tmps:Array aPx}{b:Bool}{c:aPy}{F:Fence}{u:FrameMode}{f:aPz}{E E':HI}{xE:Int}{df:List (aPz×List AV)}{args avj lE xs ys z:List AV}{cs:List Frame}{k:List Item}{H H':List lw}{N i j l low n:Nat}{Y:Nat->Nat}{U:Nat->aPx}{op:Op}{o oi or':aPw}{ro:Option Nat}{d dst:Option Tmp}{P:aPA}{p:Prop}{R:Type}{t:TypeId}{h hd:aPx}{J J':k9}{Q:qK->k9->Prop}{K:yJ->List lw->Prop}{S:yO->Prop}
def N6(P:aPA)(f:aPz)(args:List AV)(V:AV->Prop):Prop:=
 Bs P f=true/\yg 0 args/\∀(C:tC)(U:Nat->aPx)(w:aPB),C.P=P->C.w0=w->C.N0=0->(∀b o,¬ C.M0 b o)->∀vs:Array aPx,l9 (C.env U [] w) args vs.toList->
  Calls P f vs w fun e w'=>∃r v U',V r/\e=.returned v/\rD (C.env U' [] w') r v/\w.heap.size<=w'.heap.size/\(∀b,b<w.heap.size->w'.heap[b]? =w.heap[b]?)/\
   (∀x,x.block<w.heap.size->w'.frozen? x=w.frozen? x)/\w'.output=w.output/\w'.os=w.os
section azY
variable {C:tC} {w w':aPB}
theorem akz(hh:∀b,b<w.heap.size->w'.heap[b]? =w.heap[b]?){b o:Nat}(hb:b<w.heap.size):w'.cell? ⟨b,o,none⟩=w.cell? ⟨b,o,none⟩:=by
 simp only[World.cell?,hh b hb]
def pW.azY(S:pW C U J a w)(hs:w.heap.size<=w'.heap.size)(hh:∀b,b<w.heap.size->w'.heap[b]? =w.heap[b]?)(hf:∀x,x.block<w.heap.size->w'.frozen? x=w.frozen? x)(hr:w'.output=w.output/\w'.os=w.os):
 pW C U J a w':=by
 have le:(C.env U J.heap w).Le J.heap.length (C.env U J.heap w'):=
  tC.GF (cv _) (fun _ _=>⟨rfl,rfl⟩) (fun b o u hm hc=>⟨hm,by grind [akz,Kk]⟩)
 refine {lE:=l9.mono le _ _ (l9.nb _ _ S.lE) S.lE,defers:=S.defers.same le hh,qJ:=?_,apart:=S.apart,wZ:=S.wZ,size:=Nat.le_trans S.size hs,old:=?_,qE:=?_,F2:=S.F2,AH:=fun x hx=>by rw[hf x (cn hx S.size)];exact S.AH x hx,rest:=⟨by rw[hr.1];exact S.rest.1,by rw[hr.2];exact S.rest.2⟩,low:=S.low,mZ:=S.mZ}
 ·intro l x hx;have r:=S.qJ l x hx;exact qV.mono r le (fun b hb=>hh b (r.tT hb))
 ·intro b o hb hm;rw[akz hh (cn hb S.size)];exact S.old b o hb hm
 ·intro b hb hm;rw[hh b (cn hb S.size)];exact S.qE b hb hm
def pW.callee(S:pW C U J a w):tC:=
 {P:=C.P,w0:=w,M0:=fun _ _=>False,A:=fun b o=>KR U J.heap b o\/C.A b o,
  hA:=by
   rintro b o (⟨l,x,hx,hm⟩|hA)
   ·exact(S.qJ l x hx).tT (lw.qL hm)
   ·exact cn (C.hA b o hA) S.size
  hk:=⟨fun b o h=>let ⟨v,h1,h2,_⟩:=S.know.cell b o h;⟨v,h1,h2,fun f=>f⟩,fun b h=>⟨fun _ f=>f,(S.know.row b h).2⟩⟩}
def pW.aA7(S:pW C U J a w)(U':Nat->aPx)(w1:aPB):(C.env U J.heap w1).Le 0 (S.callee.env U' [] w1):=by
 refine⟨dN _,fun l hl=>absurd hl (cx _),fun b o u hm hc=>⟨?_,hc⟩,GD _⟩;simp only[tC.env,pW.callee]at hm ⊢;rintro(⟨l,x,hx,_⟩|h)
 ·simp at hx
 ·exact hm h
def pW.aA8(S:pW C U J a w)(U':Nat->aPx)(w1:aPB):(S.callee.env U' [] w1).Le 0 (C.env U J.heap w1):=by
 refine⟨dN _,fun l hl=>absurd hl (cx _),fun b o u hm hc=>⟨?_,hc⟩,GD _⟩
 simp_all [tC.env,pW.callee]
def akA{V:AV->Prop}(h:N6 P f args V)(hK:∀r,V r->K (.ret r) J.heap):ER P f args J K:=by
 obtain⟨he,hn,hc⟩:=h;refine⟨he,fun C U a w hP S vs hr=>?_⟩;refine(hc S.callee U w hP rfl rfl (fun _ _ h=>h) vs (l9.mono (S.aA7 U w) _ _ hn hr)).mono ?_;rintro e w' ⟨r,v,U',hV,rfl,rep,hs,hh,hf,ho⟩;refine⟨.ret r,U,J.heap,hK r hV,S.azY hs hh hf ho,?_⟩;exact rD.mono (S.aA8 U' w') _ _ (rD.nb _ _ rep) rep
end azY
section loc

def akB{c:Call}{x:aPC}(h:x∈c.args):x∈(Op.call c).operands:=by
 grind [cg,Call.operands]
def ags{d:Nat}{x:Option aPC}(h:∀y,x=some y->J'.ev y=J.ev y):F0 J' d x=F0 J d x:=by
 cases x with
 |none=>rfl
 |some y=>simp only[F0,h y rfl]
theorem ama{H H':List lw}:∀{cs ds:List AV}{ns:List Nat},vwL H cs=some (ds,ns)->(∀l∈ns,H'[l]? =H[l]?)->vwL H' cs=some (ds,ns)
 |[],_,_,h,_=>by simp only[vwL]at h ⊢;exact h
 |c::cs,ds,ns,h,hr=>by
  unfold vwL at h ⊢;split at h
  ·cases ‹_::_=[]›
  ·rename_i l n cs' heq;simp only[cK]at heq;obtain⟨rfl,rfl⟩:=heq;split at h
   ·rename_i wT sz rows hl;split at h
    ·rename_i hn;split at h
     ·rename_i es ms he;simp only[ck,cq]at h;obtain⟨rfl,rfl⟩:=h;have:=ama he (fun k hk=>hr k (by simp [hk]))
      grind
     ·cases h
    ·cases h
   ·cases h
  ·rename_i c' cs' uP heq;simp only[cK]at heq;obtain⟨rfl,rfl⟩:=heq;split at h
   ·rename_i es ms he;simp only[ck,cq]at h;obtain⟨rfl,rfl⟩:=h;have:=ama he hr
    grind
   ·cases h
theorem axW{H:List lw}:∀{cs ds:List AV}{ns:List Nat},vwL H cs=some (ds,ns)->∀l∈ns,l<H.length
 |[],_,_,h=>by grind [vwL]
 |c::cs,ds,ns,h=>by
  unfold vwL at h;split at h
  ·cases ‹_::_=[]›
  ·rename_i l n cs' heq;simp only[cK]at heq;obtain⟨rfl,rfl⟩:=heq;split at h
   ·rename_i wT sz rows hl;split at h
    ·split at h
     ·rename_i es ms he;simp only[ck,cq]at h;obtain⟨_,rfl⟩:=h;intro k hk;simp only[cP]at hk;rcases hk with rfl|hk
      ·grind
      ·exact axW he k hk
     ·cases h
    ·cases h
   ·cases h
  ·rename_i c' cs' uP heq;simp only[cK]at heq;obtain⟨rfl,rfl⟩:=heq;split at h
   ·rename_i es ms he;simp only[ck,cq]at h;obtain⟨_,rfl⟩:=h;exact axW he
   ·cases h
theorem aA9{e:yO}(h:ldV H l v=some e)(hr:∀k∈e.rd,H'[k]? =H[k]?):ldV H' l v=some e:=by
 unfold ldV at h ⊢
 grind [ama]
theorem aC2{e:yO}(h:ldV H l v=some e):l∈e.rd/\e.up=[]/\∀k∈e.rd,k=l\/k<H.length:=by
 unfold ldV at h
 grind [axW]
theorem au4 {o:Op} {e:yO} (h:nf P J o=some e) (hev: ∀x∈o.operands,J'.ev x=J.ev x) (hrd: ∀l∈e.rd,J'.heap[l]? =J.heap[l]?) (hnw:e.nw≠[]->J'.heap.length=J.heap.length):
 nf P J' o=some e:=by
 cases o with
 |move x=>simp only[nf]at h ⊢;grind [cg]
 |assign x=>simp only[nf]at h ⊢;grind [cg]
 |pick c x y=>simp only[nf]at h ⊢;grind [cg]
 |alloc t=>
  simp only[nf]at h ⊢;cases hz:ou P t with
  |none=>rw[hz]at h;cases h
  |some z=>
   rw[hz]at h;cases h;rw[hnw arV]
 |box t x=>
  simp only[nf]at h ⊢;have hx:J'.ev x=J.ev x:=by grind [cg]
  rw[hx];cases hc:cellsOf (J.ev x)with
  |none=>rw[hc]at h;cases h
  |some cs=>
   rw[hc]at h;cases h;rw[hnw arV]
 |build t parts=>
  simp only[nf]at h ⊢
  grind [cX,cg]
 |buildSlice t len parts=>
  simp only[nf]at h ⊢
  have:(parts.toList.map fun p=>(p.1,J'.ev p.2))=(parts.toList.map fun p=>(p.1,J.ev p.2)):=by
   grind [cX,cg]
  rw[this];cases aFU:aFG t (arT (parts.toList.map (·.2)))with
  |false=>rw[aFU]at h;exact h
  |true=>
   rw[aFU]at h;have hn:J'.heap.length=J.heap.length:=hnw (by grind);rw[hn];exact h
 |load t x=>
  simp only[nf]at h ⊢;rw[hev x (by simp [cg])];split at h
  ·grind [aC2,aA9]
  all_goals grind
 |store t x y=>
  simp only[nf]at h ⊢;rw[hev x (by simp [cg]),hev y (by simp [cg])];split at h
  all_goals grind
 |nilCheck x=>simp only[nf]at h ⊢;grind [cg]
 |binOp op t x y ty=>simp only[nf]at h ⊢;grind [cg]
 |unOp op t x=>simp only[nf]at h ⊢;grind [cg]
 |convert s d x=>simp only[nf]at h ⊢;grind [cg]
 |makeInterface t x=>simp only[nf]at h ⊢;grind [cg]
 |makeFunc fn f c=>
  simp only[nf]at h ⊢
  grind [cX,cg]
 |makeSlice t x y=>
  simp only[nf]at h ⊢;rw[hev x (by simp [cg]),hev y (by simp [cg])];split at h
  all_goals grind
 |slice t x lo hi mx=>
  simp only[nf]at h ⊢;have hx:=hev x (by simp [cg]);have h1:∀d,F0 J' d lo=F0 J d lo:=fun d=>ags fun y hy=>hev y (by simp [cg,hy])
  have h2:∀d,F0 J' d hi=F0 J d hi:=fun d=>ags fun y hy=>hev y (by simp [cg,hy])
  have h3:∀d,F0 J' d mx=F0 J d mx:=fun d=>ags fun y hy=>hev y (by simp [cg,hy])
  rw[hx];simp only[aks,h1,h2,h3]at h ⊢;split at h
  ·split at h
   ·cases h
   ·rename_i hmx;rw[if_neg hmx];split at h
    all_goals grind
  ·exact h
 |fieldAddr t x i=>simp only[nf]at h ⊢;grind [cg]
 |field t x i=>simp only[nf]at h ⊢;grind [cg]
 |indexAddr t x i=>
  simp only[nf]at h ⊢;rw[hev x (by simp [cg]),hev i (by simp [cg])];split at h
  ·split at h
   all_goals grind
  ·exact h
 |index t x i=>simp only[nf]at h ⊢;grind [cg]
 |extract x i=>simp only[nf]at h ⊢;grind [cg]
 |call c=>
  obtain⟨cl,args,ts⟩:=c;cases cl with
  |builtin b=>
   simp only[nf]at h ⊢;have e1:args.toList.map J'.ev=args.toList.map J.ev:=cX fun x hx=>hev x (akB (by simpa using hx))
   rw[e1];revert h;generalize args.toList.map J.ev=xs;generalize ts.toList=tl;intro h;unfold RW at h ⊢;split at h
   ·rename_i t x;unfold arS at h ⊢
    grind
   ·rename_i t u x y;split at h
    ·rename_i et sz by' ht hu;split at h
     ·split at h
      ·rename_i hc;rw[if_pos hc];by_cases hy:∃u,y=.str u
       ·obtain⟨u,rfl⟩:=hy;simp only[Xa]at h ⊢;split at h
        ·unfold ah4 at h ⊢
         grind
        ·cases h
       rw[am6 hy]at h ⊢;unfold aPd at h ⊢;split at h
       ·cases h
       ·rename_i rd ys aqY
        have aim:∀l∈rd,l∈e.rd:=by
         grind
        have aKU:adg J' sz y=some (rd,ys):=by
         unfold adg at aqY ⊢;split at aqY
         all_goals grind
        rw[aKU];simp only;split at h
        all_goals grind
      ·cases h
     ·cases h
    ·cases h
   all_goals grind
  |value f=>cases h
  |invoke r m=>cases h
 |makeMap t r=>
  cases r with
  |some r=>cases h
  |none=>cases h;simp only[nf];rw[hnw (by simp)]
 |typeAssert x u t ok=>
  cases ok with
  |false=>cases h
  |true=>simp only[nf]at h ⊢;grind [cg]
 |lookup t x k ok=>
  cases ok with
  |true=>
   simp only[nf]at h ⊢;rw[hev x (by simp [cg]),hev k (by simp [cg])];split at h
   ·rename_i z l s ht EC RV;unfold al3 at h ⊢;split at h
    ·rename_i es hl;split at h
     ·rename_i hs;cases h;rw[hrd l (by cases C3 s es<;>simp [arU]),hl];simp [hs]
     ·cases h
    ·cases h
   ·rename_i l n ht EC RV;split at h
    ·rename_i hti;unfold akt at h ⊢;split at h
     ·rename_i es hl;simp only[cE]at h;obtain⟨ms,hm,rfl⟩:=h;rw[hrd l (by simp),hl];simp [hti,hm]
     ·cases h
    ·cases h
   ·cases h
  |false=>
   simp only[nf]at h ⊢;rw[hev x (by simp [cg]),hev k (by simp [cg])];split at h
   ·rename_i z l s ht EC RV;unfold ah5 at h ⊢
    grind
   ·cases h
 |range t x=>
  simp only[nf]at h ⊢
  grind [cg]
 |next x st=>
  cases st with
  |false=>cases h
  |true=>
   simp only[nf]at h ⊢;rw[hev x (by simp [cg])];split at h
   ·rename_i l hv;unfold ah6 at h ⊢
    grind
   ·cases h
 |mapUpdate t x k y=>
  simp only[nf]at h ⊢;rw[hev x (by simp [cg]),hev k (by simp [cg]),hev y (by simp [cg])];split at h
  ·rename_i z l s ht EC RV;unfold GG at h ⊢
   grind
  ·rename_i l n ht EC RV;split at h
   ·rename_i m hy';split at h
    ·rename_i hti;unfold adh at h ⊢;split at h
     ·rename_i es hl;simp only[cE]at h;obtain⟨ms,hm,rfl⟩:=h;rw[hrd l (by simp),hl];simp [hti,hm]
     ·cases h
    ·cases h
   ·cases h
  ·cases h
 |insert t x k y=>
  simp only[nf]at h ⊢;rw[hev x (by simp [cg]),hev k (by simp [cg]),hev y (by simp [cg])];split at h
  ·rename_i z l s ht EC RV;unfold GG at h ⊢
   grind
  ·rename_i l n ht EC RV;split at h
   ·rename_i m hy';split at h
    ·rename_i hti;unfold adh at h ⊢;split at h
     ·rename_i es hl;simp only[cE]at h;obtain⟨ms,hm,rfl⟩:=h;rw[hrd l (by simp),hl];simp [hti,hm]
     ·cases h
    ·cases h
   ·cases h
  ·cases h
 |_=>cases h
end loc
def ED(o:aPw):List Nat:=(o.after.toList.filter (Region.binds .any)).map (·.on)
def atf:List aPw->List Nat->List Nat
 |[],nW=>nW
 |o::os,nW=>atf os (nW++[(ED o).foldl (fun s d=>s|||2 ^ d|||nW.getD d 0) 0])
def sP(lR:Array aPw)(i j:Nat):Bool:=((atf lR.toList []).getD j 0).testBit i
def GK:Op->Bool
 |.call {callee:=.builtin _,..}=>false
 |.call _=>true
 |_=>false
def NG (lR:Array aPw):Bool:=
 Region.noSelect lR&&
 (let r:=atf lR.toList []
  (cG lR.size).all fun j=>match lR[j]? with
   |none=>true
   |some oj=>(ED oj).all (· <j)&&(cG j).all fun i=>match lR[i]? with
    |none=>true
    |some oi=>(r.getD j 0).testBit i||(oi.apart lR oj&& !(GK oi.op&&GK oj.op)))
structure Tr where
 j:Nat
 n:Nat
 e:yO
variable {tr:List Tr}
def N7(a b:List Nat):Bool:=a.all fun x=> !b.contains x
def GL(t:Tr)(e:yO):Bool:=
 N7 (t.e.up.map (·.1)) (e.rd++e.up.map (·.1))&&N7 (e.up.map (·.1)) t.e.rd&&
 (t.e.nw.isEmpty||(e.nw.isEmpty&&(e.rd++e.up.map (·.1)).all fun l=>decide (l<t.n)))&&
 ((!t.e.whole||(e.up.isEmpty&&e.nw.isEmpty))&&(!e.whole||(t.e.up.isEmpty&&t.e.nw.isEmpty)))
def akC:Op->Bool
 |.move _|.assign _|.pick _ _ _|.load _ _|.store _ _ _|.binOp _ _ _ _ _|.unOp _ _ _|.fieldAddr _ _ _|.field _ _ _|.indexAddr _ _ _|.index _ _ _|.extract _ _=>true
 |_=>false
def adm(o:aPw):Bool:=(match o.op with|.alloc t=> !ako t|_=>false)&&o.guard.isNone
def agt (lR:Array aPw) (i j:Nat):Bool:=
 match lR[i]?,lR[j]? with
 |some oi,some oj=>adm oi&&adm oj&&(ED oi).isEmpty&&(ED oj).isEmpty&&decide (i<j)&&
  (cG lR.size).all fun k=>k==i||k==j||(match lR[k]? with
    |none=>true
    |some o=>akC o.op&&(sP lR i k==sP lR j k))
 |_,_=>false
def anN(lR:Array aPw)(i j:Nat):Bool:=sP lR i j||agt lR i j
def Ij(lR:Array aPw)(tr:List Tr)(j:Nat)(e:yO):Bool:=tr.all fun t=>GL t e||anN lR t.j j
def L9(P:aPA)(f:aPz)(args:List AV)(J:k9)(e:yO):Prop:=
 ((∀l∈e.rd,l<J.heap.length)/\∀l∈e.up.map (·.1),l∈e.rd)/\
 ∀J':k9,(∀l∈e.rd,J'.heap[l]? =J.heap[l]?)->(e.nw≠[]->J'.heap.length=J.heap.length)->(e.whole=true->J'.heap=J.heap)->ER P f args J' (fun o H'=>o=.ret e.val/\H'=pI J'.heap e.up++e.nw)
def L9.move{e:yO}(h:L9 P f args J e)(h1:∀l∈e.rd,J'.heap[l]? =J.heap[l]?)(h2:e.nw≠[]->J'.heap.length=J.heap.length)(h3:e.whole=true->J'.heap=J.heap):L9 P f args J' e:=by
 refine⟨⟨fun l hl=>?_,h.1.2⟩,fun J2 k1 k2 k3=>h.2 J2 (fun l hl=>(k1 l hl).trans (h1 l hl)) (fun hn=>(k2 hn).trans (h2 hn)) (fun hw=>(k3 hw).trans (h3 hw))⟩;have q9:=h.1.1 l hl
 grind
def Cf(P:aPA)(lR:Array aPw)(o:aPw)(J:k9)(S:yO->Prop):Prop:=
 (tH lR o J=some false/\∀e,S e↔e={val:=.uS undef})\/
 (tH lR o J=some true/\pZ J o.op=none/\∃e,nf P J o.op=some e/\e.pre/\∀e',S e'↔e'=e)\/
 (tH lR o J=some true/\∃f args V,pZ J o.op=some (f,args)/\N6 P f args V/\(∃r,V r)/\∀e,S e↔ ∃r,V r/\e={val:=r})\/
 (tH lR o J=some true/\∃f args e,pZ J o.op=some (f,args)/\L9 P f args J e/\∀e',S e'↔e'=e)
def ain(P:aPA)(lR:Array aPw)(K:k9->Prop):List Nat->List Tr->k9->Prop
 |[],_,J=>K J
 |j::rest,tr,J=>∃o S,lR[j]? =some o/\Cf P lR o J S/\∀e,S e->Ij lR tr j e=true/\ain P lR K rest (tr++[⟨j,J.heap.length,e⟩]) (J.app o.dst e)
section
variable {K:k9->Prop}
theorem au5:∀{R:List Nat}{tr tr':List Tr}{J:k9},(∀t∈tr',t∈tr)->ain P lR K R tr J->ain P lR K R tr' J
 |[],_,_,_,_,h=>h
 |j::rest,tr,tr',J,hs,⟨o,S,ho,hst,h⟩=>by
  refine⟨o,S,ho,hst,fun e he=>?_⟩;obtain⟨hc,hr⟩:=h e he;refine⟨?_,au5 ?_ hr⟩
  all_goals grind [Ij]
def Cf.aC3(h:Cf P lR o J S):∃e,S e:=by
 rcases h with⟨_,h⟩|⟨_,_,e,_,_,h⟩|⟨_,f,args,V,_,_,⟨r,hr⟩,h⟩|⟨_,f,args,e,_,_,h⟩
 ·exact⟨_,(h _).2 rfl⟩
 ·exact⟨e,(h e).2 rfl⟩
 ·exact⟨_,(h _).2 ⟨r,hr,rfl⟩⟩
 ·exact⟨e,(h e).2 rfl⟩
def Cf.det(h:Cf P lR o J S)(hc:GK o.op=false):∃e,∀e',S e'↔e'=e:=by
 rcases h with⟨_,h⟩|⟨_,_,e,_,_,h⟩|⟨_,f,args,V,h1,_,_,h⟩|⟨_,f,args,e,_,_,h⟩
 ·exact⟨_,h⟩
 ·exact⟨e,h⟩
 rotate_left
 ·exact⟨e,h⟩
 ·exfalso;unfold pZ at h1
  grind [GK]
def Cf.eq {S':yO->Prop}(h:Cf P lR o J S)(h':Cf P lR o J S')(hc:GK o.op=false):∀e,S e↔S' e:=by
 have nc:∀{f args},pZ J o.op≠some (f,args):=by
  intro f args h1;unfold pZ at h1
  grind [GK]
 rcases h with⟨hw,h⟩|⟨hw,_,e,he,_,h⟩|⟨_,f,args,V,h1,_⟩|⟨_,f,args,_,h1,_⟩
 ·rcases h' with⟨_,h'⟩|⟨hw',_⟩|⟨_,f,args,V,h1,_⟩|⟨_,f,args,_,h1,_⟩
  all_goals grind
 ·rcases h' with⟨hw',_⟩|⟨_,_,e2,he2,_,h'⟩|⟨_,f,args,V,h1,_⟩|⟨_,f,args,_,h1,_⟩
  all_goals grind
 all_goals grind
def SB(h:∀j b d,o.guard=some (j,b)->(lR[j]?).bind (·.dst)=some d->J'.lE[d]? =J.lE[d]?):tH lR o J'=tH lR o J:=by
 grind [tH]
theorem Pl{o:Op}(h:∀x∈o.operands,J'.ev x=J.ev x):pZ J' o=pZ J o:=by
 unfold pZ;split
 all_goals grind [cg,Call.operands,cX]
def Cf.local(h:Cf P lR o J S)(hev:∀x∈o.op.operands,J'.ev x=J.ev x)(hw:tH lR o J'=tH lR o J)
 (hh:∀e,S e->((∀l∈e.rd,J'.heap[l]? =J.heap[l]?)/\(e.nw≠[]->J'.heap.length=J.heap.length))/\(e.whole=true->J'.heap=J.heap)):Cf P lR o J' S:=by
 rcases h with⟨h1,h⟩|⟨h1,h2,e,he,hp,h⟩|⟨h1,f,args,V,h2,h3,h4,h⟩|⟨h1,f,args,e,h2,h3,h⟩
 ·exact .inl ⟨by rw[hw];exact h1,h⟩
 ·refine .inr (.inl ⟨by rw[hw];exact h1,by rw[Pl hev];exact h2,e,?_,hp,h⟩)
  grind [au4]
 ·exact .inr (.inr (.inl ⟨by rw[hw];exact h1,f,args,V,by rw[Pl hev];exact h2,h3,h4,h⟩))
 ·obtain⟨⟨a,b⟩,c⟩:=hh e ((h e).2 rfl);exact .inr (.inr (.inr ⟨by rw[hw];exact h1,f,args,e,by rw[Pl hev];exact h2,h3.move a b c,h⟩))
theorem yo:∀(ups:List (Nat×lw))(H:List lw),(pI H ups).length=H.length
 |[],_=>rfl
 |(l,x)::r,H=>by simp [pI,yo r]
theorem akD:∀(ups:List (Nat×lw))(H:List lw)(l:Nat),l ∉ ups.map (·.1)->(pI H ups)[l]? =H[l]?
 |[],_,_,_=>rfl
 |(k,x)::r,H,l,h=>by
  simp only[eb,cP,not_or]at h;rw[pI,akD r _ l h.2,dJ (fun e=>h.1 e.symm)]
theorem akE{e:yO}(h1:l ∉ e.up.map (·.1))(h2:l<J.heap.length):(J.app dst e).heap[l]? =J.heap[l]? :=by
 have:(J.app dst e).heap=pI J.heap e.up++e.nw:=rfl
 grind [yo,akD]
theorem axX{e:yO}{x:aPC}(h:∀d,dst=some d->x≠ .tmp d):(J.app dst e).ev x=J.ev x:=by
 cases x with
 |tmp t=>
  cases dst with
  |none=>rfl
  |some d=>
   grind [k9.ev,k9.app,k9.put]
 |const v=>rfl
 |global g=>rfl
 |func f=>rfl
theorem amb{e:yO}{t:Nat}(h:∀d,dst=some d->t≠d):(J.app dst e).lE[t]? =J.lE[t]? :=by
 cases dst with
 |none=>rfl
 |some d=>
  grind [k9.app,k9.put]
def aC4 {o:Op} {e:yO} (h:nf P J o=some e):(∀l∈e.rd,l<J.heap.length)/\ ∀l∈e.up.map (·.1),l<J.heap.length:=by
 have lt:∀{l:Nat}{x:lw},J.heap[l]? =some x->l<J.heap.length:=fun h=>(cm.1 h).1
 cases o with
 |load t x=>
  simp only[nf]at h;split at h
  ·split at h
   ·rename_i hl;split at h
    ·obtain⟨_,h2,h3⟩:=aC2 h
     grind
    ·cases h
   ·cases h
  ·grind
  ·grind
  ·unfold ao3 at h
   grind [cD]
  ·cases h
 |store t x y=>
  simp only[nf]at h
  grind
 |indexAddr t x i=>
  simp only[nf]at h;split at h
  ·grind
  grind [cD]
 |slice t x lo hi mx=>
  simp only[nf]at h;split at h
  ·split at h
   ·cases h
   ·unfold aks at h
    grind
  grind
 |call c=>
  obtain⟨cl,args,ts⟩:=c;cases cl with
  |builtin b=>
   simp only[nf]at h;unfold RW at h;split at h
   ·unfold arS at h
    grind
   ·split at h
    ·split at h
     ·split at h
      ·unfold Xa at h;split at h
       ·split at h
        ·unfold ah4 at h
         grind
        ·cases h
       unfold aPd at h;split at h
       ·cases h
       ·rename_i rd ys aqY
        have hrd:∀l∈rd,l<J.heap.length:=by
         unfold adg at aqY
         grind
        grind
      ·cases h
     ·cases h
    ·cases h
   all_goals grind
  |value f=>cases h
  |invoke r m=>cases h
 |move x=>cases h;simp
 |assign x=>cases h;simp
 |makeFunc fn f c=>cases h;simp
 |pick c x y=>simp only[nf]at h;split at h<;>cases h;simp
 |alloc t=>simp only[nf]at h;split at h<;>cases h;simp [auO]
 |box t x=>simp only[nf]at h;split at h<;>cases h;simp [auO]
 |build t parts=>
  simp only[nf]at h
  grind
 |buildSlice t len parts=>
  simp only[nf]at h
  grind
 |nilCheck x=>simp only[nf]at h;split at h<;>cases h<;>simp
 |binOp op t x y ty=>
  simp only[nf]at h;split at h
  ·cases h;simp
  ·unfold arR ajF at h;split at h
   ·grind
   unfold adf at h
   grind
 |unOp op t x=>simp only[nf]at h;split at h<;>cases h<;>simp
 |convert s d x=>
  simp only[nf]at h
  grind
 |makeInterface t x=>simp only[nf]at h;split at h<;>cases h;simp
 |makeSlice t x y=>
  simp only[nf]at h
  grind
 |fieldAddr t x i=>simp only[nf]at h;split at h<;>cases h<;>simp
 |field t x i=>
  simp only[nf]at h
  grind
 |index t x i=>
  simp only[nf]at h
  grind
 |extract x i=>
  simp only[nf]at h
  grind
 |makeMap t r=>
  cases r with
  |some r=>cases h
  |none=>cases h;simp
 |typeAssert x u t ok=>
  cases ok with
  |false=>cases h
  |true=>
   simp only[nf]at h;unfold as6 at h
   grind
 |lookup t x k ok=>
  cases ok with
  |true=>
   simp only[nf]at h;split at h
   ·unfold al3 at h;split at h
    ·rename_i hl;split at h
     ·cases h;have:=lt hl;unfold arU;split<;>simp [this]
     ·cases h
    ·cases h
   ·split at h
    ·unfold akt at h;split at h
     ·rename_i hl;simp only[cE]at h;obtain⟨ms,hm,rfl⟩:=h;have:=lt hl;simp [this]
     ·cases h
    ·cases h
   ·cases h
  |false=>
   simp only[nf]at h;split at h
   ·unfold ah5 at h
    grind
   ·cases h
 |range t x=>simp only[nf]at h;split at h<;>cases h;simp
 |next x st=>
  cases st with
  |false=>cases h
  |true=>
   simp only[nf]at h;split at h
   ·unfold ah6 at h
    grind
   ·cases h
 |mapUpdate t x k y=>
  simp only[nf]at h;split at h
  ·unfold GG at h
   grind
  ·split at h
   ·split at h
    ·unfold adh at h;split at h
     ·rename_i hl;simp only[cE]at h;obtain⟨ms,hm,rfl⟩:=h;have:=lt hl;simp [this]
     ·cases h
    ·cases h
   ·cases h
  ·cases h
 |insert t x k y=>
  simp only[nf]at h;split at h
  ·unfold GG at h
   grind
  ·split at h
   ·split at h
    ·unfold adh at h;split at h
     ·rename_i hl;simp only[cE]at h;obtain⟨ms,hm,rfl⟩:=h;have:=lt hl;simp [this]
     ·cases h
    ·cases h
   ·cases h
  ·cases h
 |_=>cases h
end
section
variable {K:k9->Prop}
theorem aeT:∀(ups:List (Nat×lw))(H N:List lw),(∀l∈ups.map (·.1),l<H.length)->pI (H++N) ups=pI H ups++N
 |[],_,_,_=>rfl
 |(l,x)::r,H,N,h=>by
  simp only[pI];rw[List.set_append_left _ _ (h l (by simp))];exact aeT r _ N (fun k hk=>by grind)
theorem akF:∀(ups:List (Nat×lw))(H:List lw)(l:Nat)(x:lw),l ∉ ups.map (·.1)->pI (H.set l x) ups=(pI H ups).set l x
 |[],_,_,_,_=>rfl
 |(k,y)::r,H,l,x,h=>by
  simp only[eb,cP,not_or]at h;simp only[pI];rw[dy _ _ h.1,akF r _ l x h.2]
theorem aiZ:∀(u v:List (Nat×lw))(H:List lw),(∀l∈u.map (·.1),l ∉ v.map (·.1))->pI (pI H u) v=pI (pI H v) u
 |[],_,_,_=>rfl
 |(l,x)::r,v,H,h=>by
  simp only[pI];rw[aiZ r v _ (fun k hk=>h k (by simp at hk ⊢;exact .inr hk)),akF v H l x (h l (by simp))]
theorem Xd{a b:List Nat}(h:N7 a b=true):∀l∈a,l ∉ b:=by
 grind [N7]
def au6 {d':Option Tmp}{e e':yO}(hd: ∀x,d=some x->d'≠some x)(hi:GL ⟨j,J.heap.length,e⟩ e'=true)
 (h1:∀l∈e.up.map (·.1),l<J.heap.length) (h2:∀l∈e'.up.map (·.1),l<(J.app d e).heap.length):(J.app d e).app d' e'=(J.app d' e').app d e:=by
 unfold GL at hi;simp only[cC,Bool.or_eq_true]at hi;obtain⟨⟨⟨i1,i2⟩,i3⟩,_⟩:=hi;have dis:∀l∈e.up.map (·.1),l ∉ e'.up.map (·.1):=fun l hl hl'=>Xd i1 l hl (cO.2 (.inr hl'))
 have h2':∀l∈e'.up.map (·.1),l<J.heap.length:=by
  grind [k9.app,yo]
 have aIW:((J.app d e).app d' e').lE=((J.app d' e').app d e).lE:=by
  cases d with
  |none=>cases d'<;>rfl
  |some x=>cases d' with
   |none=>rfl
   |some y=>
    grind [k9.app,k9.put,dy]
 have MK:((J.app d e).app d' e').heap=((J.app d' e').app d e).heap:=by
  grind [k9.app,aeT,yo,aiZ]
 have ext:∀(s t:k9),s.lE=t.lE->s.heap=t.heap->s.low=t.low->s.df=t.df->s=t:=by
  intro s t h h' h'' h3;cases s;cases t;simp_all
 refine ext _ _ aIW MK ?_ ?_<;>cases d<;>cases d'<;>rfl
def Cf.lt(h:Cf P lR o J S){e:yO}(he:S e):(∀l∈e.rd,l<J.heap.length)/\∀l∈e.up.map (·.1),l<J.heap.length:=by
 rcases h with⟨_,h⟩|⟨_,_,e',he',_,h⟩|⟨_,f,args,V,_,_,_,h⟩|⟨_,f,args,e',_,hl,h⟩
 ·rw[(h e).1 he];simp
 ·rw[(h e).1 he];exact aC4 he'
 ·grind
 ·rw[(h e).1 he];exact⟨hl.1.1,fun l hm=>hl.1.1 l (hl.1.2 l hm)⟩
theorem SC{d:Tmp}(h:d ∉ o.looksAt lR):∀x∈o.op.operands,x≠ .tmp d:=by
 intro x hx e;subst e;apply h;unfold Oper.looksAt;refine cO.2 (.inl ?_);simp only[List.mem_filterMap];exact⟨.tmp d,by simpa using hx,rfl⟩
theorem aOZ{d:Tmp}(h:d ∉ o.looksAt lR){k:Tmp}(hg:o.guard=some (j,b))(hk:(lR[j]?).bind (·.dst)=some k):k≠d:=by
 grind [Oper.looksAt]
def Cf.ape{er:yO}(h:Cf P lR oi (J.app or'.dst er) S)(hap:∀d,or'.dst=some d->d ∉ oi.looksAt lR)
 (hi:∀e,S e->GL ⟨j,J.heap.length,er⟩ e=true):Cf P lR oi J S:=by
 refine h.local (fun x hx=>?_) (SB fun k b d hg hd=>?_) (fun e he=>?_)
 ·grind [axX,SC]
 ·grind [amb,aOZ]
 ·have q9:=h.lt he
  grind [GL,k9.app,pI,yo,akE,Xd]
def Cf.fwd{ei:yO}(h:Cf P lR or' J S)(hap:∀d,oi.dst=some d->d ∉ or'.looksAt lR)
 (hi:∀e,S e->GL ⟨j,J.heap.length,e⟩ ei=true):Cf P lR or' (J.app oi.dst ei) S:=by
 refine h.local (fun x hx=>?_) (SB fun k b d hg hd=>?_) (fun e he=>?_)
 ·grind [axX,SC]
 ·grind [amb,aOZ]
 ·have q9:=h.lt he
  grind [GL,k9.app,pI,akE,Xd,yo]
def KT(h:NG lR=true):Region.noSelect lR=true/\∀(j:Nat)(oj:aPw),lR[j]? =some oj->(∀d∈ED oj,d<j)/\
 ∀(i:Nat)(oi:aPw),i<j->lR[i]? =some oi->sP lR i j=false->oi.apart lR oj=true/\ ¬ (GK oi.op=true/\GK oj.op=true):=by
 grind [NG,sP]
theorem aBa {n':Nat}{e e':yO}(h:n<=n')(hi:GL ⟨j,n,e⟩ e'=true):GL ⟨j,n',e⟩ e'=true:=by
 grind [GL]
def apf:∀{R:List Nat}{tr tr':List Tr}{J:k9},(∀t'∈tr',∃t∈tr,t.j=t'.j/\t.e=t'.e/\t.n<=t'.n)->ain P lR K R tr J->ain P lR K R tr' J
 |[],_,_,_,_,h=>h
 |j::rest,tr,tr',J,hs,⟨o,S,ho,hst,h⟩=>by
  refine⟨o,S,ho,hst,fun e he=>?_⟩;obtain⟨hc,hr⟩:=h e he;refine⟨?_,apf ?_ hr⟩
  ·unfold Ij at*;rw[List.all_eq_true]at*;intro t' ht';obtain⟨t,ht,h1,h2,h3⟩:=hs t' ht';have:=hc t ht;simp only[Bool.or_eq_true]at*;rw[<-h1];refine this.imp (fun hi=>?_) id;obtain⟨a,b,c⟩:=t;obtain⟨a',b',c'⟩:=t'
   grind [aBa]
  grind
def aBb(h:anN lR i j=false):sP lR i j=false:=by
 grind [anN]
def au7(VV:NG lR=true){i:Nat}: ∀{R:List Nat}{tr:List Tr}{J:k9},ain P lR K R tr J->i∈R->R.Pairwise (· < ·)->(∀r∈R,r<i->anN lR r i=false)->
 ∃o S,lR[i]? =some o/\Cf P lR o J S/\∀e,S e->Ij lR tr i e=true/\ain P lR K (R.erase i) tr (J.app o.dst e)
 |[],_,_,_,hi,_,_=>by simp at hi
 |r::R,tr,J,⟨or',Sr,hor,hst,h⟩,hi,hpw,au8=>by
  by_cases e:r=i
  ·grind [au5]
  ·have hiR:i∈R:=by
    grind
   rw[cY]at hpw;have hri:r<i:=hpw.1 i hiR;have aKV:anN lR r i=false:=au8 r (by simp) hri;have ih:∀er,Sr er->_:=fun er her=>au7 VV (h er her).2 hiR hpw.2 (fun q hq q9=>au8 q (by simp [hq]) q9)
   obtain⟨er0,aNe⟩:=hst.aC3;obtain⟨oi,S0,Xe,aNf,h0⟩:=ih er0 aNe;obtain⟨_,abt⟩:=KT VV;obtain⟨apg,aNg⟩:=(abt i oi Xe).2 r or' hri hor (aBb aKV);obtain⟨a1,a2,a3⟩:=dl apg
   have aC5:∀{er:yO}{S:yO->Prop},(∀e,S e->Ij lR (tr++[⟨r,J.heap.length,er⟩]) i e=true/\ain P lR K (R.erase i) (tr++[⟨r,J.heap.length,er⟩]) ((J.app or'.dst er).app oi.dst e))->
    ∀e,S e->GL ⟨r,J.heap.length,er⟩ e=true:=by
    grind [Ij]
   have agu:Cf P lR oi J S0:=aNf.ape (j:=r) a1 (aC5 h0);refine⟨oi,S0,Xe,agu,fun ei hei=>?_⟩
   have same:∀er,Sr er->Ij lR (tr++[⟨r,J.heap.length,er⟩]) i ei=true/\ain P lR K (R.erase i) (tr++[⟨r,J.heap.length,er⟩]) ((J.app or'.dst er).app oi.dst ei):=by
    intro er her;obtain⟨oi',S',aKW,aNh,h'⟩:=ih er her;rw[Xe]at aKW;cases aKW;by_cases hc:GK oi.op=true
    ·
     have hcr:GK or'.op=false:=by
      grind
     obtain⟨ex,hex⟩:=hst.det hcr
     grind
    ·have hc':GK oi.op=false:=by simpa using hc
     have uD:Cf P lR oi J S':=aNh.ape (j:=r) a1 (aC5 h');exact h' ei ((agu.eq uD hc' ei).1 hei)
   have aNi:Cf P lR or' (J.app oi.dst ei) Sr:=by
    refine hst.fwd (j:=r) a3 (fun er her=>?_)
    grind [Ij]
   refine⟨?_,?_⟩
   ·grind [Ij]
   ·have uP:(r::R).erase i=r::R.erase i:=dY (by simpa using e);rw[uP];refine⟨or',Sr,hor,aNi,fun er her=>⟨(h er her).1,?_⟩⟩;have hs:=same er her
    have hi':GL ⟨r,J.heap.length,er⟩ ei=true:=by
     grind [Ij]
    have aC6:=au6 (d:=or'.dst) (d':=oi.dst) a2 hi' (hst.lt her).2 (by
     intro l hl;have:=(agu.lt hei).2 l hl
     grind [k9.app,yo])
    rw[<-aC6];refine apf ?_ hs.2;intro t' ht';rcases cO.1 ht' with ht'|ht'
    ·grind
    simp_all [k9.app,yo]
def abu{f:Nat->Nat}{r:Nat}:∀(ds:List Nat)(s:Nat),(ds.foldl (fun s d=>s|||2 ^ d|||f d) s).testBit r=true->s.testBit r=true\/∃d∈ds,d=r\/(f d).testBit r=true
 |[],s,h=>.inl h
 |d::ds,s,h=>by
  simp only[List.foldl_cons]at h;rcases abu ds _ h with h|⟨d',hd',h⟩
  all_goals grind
def ane{L:Nat->Prop}{all:List aPw}(azZ: ∀j o,all[j]? =some o->L j-> ∀d∈ED o,L d): ∀(os:List aPw)(nW:List Nat),all.drop nW.length=os->
 (∀k o,all[k]? =some o->k<nW.length->(∀d∈ED o,L d)->∀r,(nW.getD k 0).testBit r=true->L r)->(∀k o,all[k]? =some o->∀d∈ED o,d<k)->
 ∀k o,all[k]? =some o->(∀d∈ED o,L d)->∀r,((atf os nW).getD k 0).testBit r=true->L r
 |[],nW,hd,h,_=>by
  intro k o hk Jl r hr;refine h k o hk ?_ Jl r hr;have h1:all.length<=nW.length:=by simpa using hd
  grind
 |o::os,nW,hd,h,q9=>by
  refine ane azZ os _ ?_ ?_ q9
  ·grind [dM]
  ·intro k o' hk hkl Jl r hr
   have ho:all[nW.length]? =some o:=by
    have:=congrArg (fun l:List aPw=>l[0]?) hd;simpa using this
   by_cases e:k<nW.length
   ·rw[di,cJ e,<-di]at hr;exact h k o' hk e Jl r hr
   ·have e2:k=nW.length:=by simp at hkl;omega
    subst e2;rw[ho]at hk;cases hk;rw[di,cQ (cv _)]at hr;simp only[Nat.sub_self,List.getElem?_cons_zero,dA]at hr;rcases abu (f:=fun d=>nW.getD d 0) _ _ hr with h0|⟨d,hd',rfl|h1⟩
    ·simp at h0
    ·exact Jl d hd'
    ·have hdl:d<nW.length:=q9 _ _ ho d hd';have aKX:d<all.length:=by grind
     exact h d all[d] (cj aKX) hdl (azZ d _ (cj aKX) (Jl d hd')) r h1
end
theorem rj(m j:Nat):(cw m false).getD j false=false:=by
 by_cases h:j<m<;>simp [Array.getD,h]
section region
variable {C:tC}
def RZ{w:aPB}(S:pW C U J a w){E:yO->Prop}(ho:lR[i]? =some o)(h:Cf C.P lR o J E){K:Act->aPB->Prop}{Q':Exit->Act->aPB->Prop}
 (hK:∀e U' v w',E e->pW C U' (J.app o.dst e) (a.put o.dst v) w'->K (a.put o.dst v) w'):wpOpIn (KS ro) 0 C.P lR Q' i K a w:=by
 unfold wpOpIn;simp only[ho];rcases h with⟨hw,h⟩|⟨hw,_,e,he,hp,h⟩|⟨hw,f,args,V,hc,hf,_,h⟩|⟨hw,f,args,e,hc,hf,h⟩
 ·rw[Dy S hw];simp only[dm,if_false];refine⟨fun _ _=>trivial,hK _ U undef w ((h _).2 rfl) ?_⟩;rw[Pj];exact S.put o.dst rfl
 ·rw[Dy S hw];simp only[kW];obtain⟨n,v,w',U',hr,hn,S'⟩:=aOY S he hp;refine⟨fun _ _=>trivial,?_⟩
  grind [dz,au1,Oper.uponIn_value,Oper.uponIn_skip]
 ·rw[Dy S hw];simp only[kW];have BB:ER C.P f args J (fun o' H'=>∃r,V r/\o'=.ret r/\H'=J.heap):=akA hf (fun r hr=>⟨r,hr,rfl,rfl⟩);obtain⟨vs,xF,hr⟩:=Pk S hc BB.1;refine⟨fun _ _=>trivial,?_⟩;rw[dz _ _ _ (SV hc),xF,dr];refine⟨fun h=>by simp [KS,cz]at h,N5.2 ?_⟩;refine(BB.2 C U a w rfl S vs hr).mono fun en w' ⟨o',U',H',⟨r,hV,ho',hH⟩,S',wm⟩=>?_
  subst ho' hH;cases en with
  |returned v=>
   refine hK {val:=r} U' v w' ((h _).2 ⟨r,hV,rfl⟩) ?_;rw[Pj];exact S'.put o.dst wm
  |panicked chain=>exact wm.elim
  |outgrown=>exact wm.elim
 ·rw[Dy S hw];simp only[kW];have BB:=hf.2 J (fun _ _=>rfl) (fun _=>rfl) (fun _=>rfl);obtain⟨vs,xF,hr⟩:=Pk S hc BB.1;refine⟨fun _ _=>trivial,?_⟩;rw[dz _ _ _ (SV hc),xF,dr];refine⟨fun h=>by simp [KS,cz]at h,N5.2 ?_⟩;refine(BB.2 C U a w rfl S vs hr).mono fun en w' ⟨o',U',H',⟨ho',hH⟩,S',wm⟩=>?_
  subst ho' hH;cases en with
  |returned v=>
   refine hK e U' v w' ((h _).2 rfl) ?_;have:=S'.put o.dst wm
   have e1:({J with heap:=pI J.heap e.up++e.nw}:k9).put o.dst e.val=J.app o.dst e:=by
    cases hd:o.dst<;>rfl
   rw[e1]at this;exact this
  |panicked chain=>exact wm.elim
  |outgrown=>exact wm.elim
end region
def Nw{E:HI}{b:Nat}{c:Array aPx}{t:TypeId}{fr:Nat×Nat}(hcb:E.w.heap[b]? =some (.cells c t fr)): ∀(cs:List AV)(off:Nat),(∀o,off<=o->o<off+cs.length-> ¬ E.mu b o)->
 l9 E cs ((c.toList.drop off).take cs.length)->(∀u∈(c.toList.drop off).take cs.length,u.oneCell'=true)->q5 E b off cs
 |[],_,_,_,_=>trivial
 |x::cs,off,hm,r,h1=>by
  obtain⟨u,us,hu,r1,r2⟩:=r
  have hcu:c[off]? =some u:=by
   have:(c.toList.drop off)[0]? =some u:=by
    have:=congrArg (fun l:List aPx=>l[0]?) hu;simpa using this
   simpa using this
  have htl:us=(c.toList.drop (off+1)).take cs.length:=by
   have h1:=congrArg List.tail hu;simp only[List.tail_cons]at h1;rw[<-h1];cases hd:c.toList.drop off with
   |nil=>rw[hd]at hu;simp at hu
   |cons y ys=>
    grind [dM]
  refine⟨⟨hm off (cv _) (by simp),u,by grind [World.cell?],h1 u (by rw[hu];simp),r1⟩,Nw hcb cs (off+1) (fun o h2 h3=>hm o (by omega) (by simp;omega)) (by rw[<-htl];exact r2) (fun v hv=>h1 v (by rw[hu,htl];simp [hv]))⟩
def abv{E:HI}{b sz:Nat}{c:Array aPx}{t:TypeId}{fr:Nat×Nat}(hcb:E.w.heap[b]? =some (.cells c t fr)):∀(rs:List (List AV))(off:Nat),(∀r∈rs,r.length=sz)->
 (∀o,off<=o->o<off+rs.length*sz-> ¬ E.mu b o)->l9 E rs.flatten ((c.toList.drop off).take (rs.length*sz))->(∀u∈(c.toList.drop off).take (rs.length*sz),u.oneCell'=true)->qI E sz b off rs
 |[],_,_,_,_,_=>trivial
 |r::rs,off,hl,hm,h,h1=>by
  have hr:r.length=sz:=hl r (by simp);simp only[dc]at h;have h3:=l9.take r.length h;have h2:=l9.drop r.length h;simp only[cZ,da,List.take_take,List.drop_take,List.drop_drop]at h3 h2
  have e1:min r.length ((r::rs).length*sz)=r.length:=by
   grind [Nat.add_mul]
  have e2:(r::rs).length*sz-r.length=rs.length*sz:=by grind [Nat.add_mul]
  have e3:(r::rs).length*sz=rs.length*sz+sz:=by grind
  rw[e1]at h3;rw[e2,hr]at h2;refine⟨hr,Nw hcb r off (fun o h4 h5=>hm o h4 (by omega)) h3 (fun u hu=>h1 u ?_),abv hcb rs (off+sz) (fun q hq=>hl q (by simp [hq])) (fun o h4 h5=>hm o (by omega) (by omega)) h2 (fun u hu=>h1 u ?_)⟩
  all_goals grind [List.drop_drop]
def uJ(n:Nat):lw->Prop
 |.cells cs=>yg n cs
 |.nW _ _ rows=>Pe n rows
 |.map es=>∀p∈es,p.1.nb n/\p.2.nb n
 |.loop _ lE _ _=>yg n lE
 |.iter _ _=>True
 |.L8 _=>True
 |.zU=>True
def Pc(x y:AV):Prop:=∀(E:HI)(v:aPx),rD E x v->rD E y v
def tQ(xs ys:List AV):Prop:=∀(E:HI)(vs:List aPx),l9 E xs vs->l9 E ys vs
def Va(xs ys:List (List AV)):Prop:=xs.length=ys.length/\∀(E:HI)(sz b off:Nat),qI E sz b off xs->qI E sz b off ys
def amc(xs ys:List AV):Prop:=xs.length=ys.length/\∀(E:HI)(b off:Nat),q5 E b off xs->q5 E b off ys
theorem Pc.refl(x:AV):Pc x x:=fun _ _ h=>h
def Pc.any(x:AV):Pc x .any:=fun _ _ _=>trivial
theorem tQ.refl(xs:List AV):tQ xs xs:=fun _ _ h=>h
theorem tQ.nil:tQ [] []:=fun _ _ h=>h
theorem tQ.cons(h:Pc x y)(hs:tQ xs ys):tQ (x::xs) (y::ys):=fun E _ ⟨u,us,hv,r1,r2⟩=>⟨u,us,hv,h E u r1,hs E us r2⟩
theorem amc.refl(xs:List AV):amc xs xs:=⟨rfl,fun _ _ _ h=>h⟩
theorem amc.nil:amc [] []:=amc.refl []
theorem amc.cons(h:Pc x y)(hs:amc xs ys):amc (x::xs) (y::ys):=
 ⟨by simp [hs.1],fun E b off ⟨⟨hm,u,hu,h1,r⟩,r2⟩=>⟨⟨hm,u,hu,h1,h E u r⟩,hs.2 E b _ r2⟩⟩
theorem Va.refl(xs:List (List AV)):Va xs xs:=⟨rfl,fun _ _ _ _ h=>h⟩
theorem Va.nil:Va [] []:=Va.refl []
theorem Va.cons{x y:List AV}{xs ys:List (List AV)}(h:amc x y)(hs:Va xs ys):Va (x::xs) (y::ys):=
 ⟨by simp [hs.1],fun E sz b off ⟨h1,r,r2⟩=>⟨by rw[<-h.1];exact h1,h.2 E b off r,hs.2 E sz b _ r2⟩⟩
def Pc.agg(h:tQ xs ys):Pc (.agg xs) (.agg ys):=fun E _ ⟨vs,hv,r⟩=>⟨vs,hv,h E _ r⟩
def Pc.Mt(h:tQ xs ys):Pc (.Mt xs) (.Mt ys):=fun E _ ⟨vs,hv,r⟩=>⟨vs,hv,h E _ r⟩
def Pc.pp(h:amc xs ys):Pc (.pp xs) (.pp ys):=fun E _ ⟨b,off,hv,r⟩=>⟨b,off,hv,h.2 E b off r⟩
def Pc.func{fn:Fn}{f f' c c':List AV}(h:tQ f f')(h':tQ c c'):Pc (.func fn f c) (.func fn f' c'):=fun E _ ⟨a,b,hv,r1,r2⟩=>⟨a,b,hv,h E _ r1,h' E _ r2⟩
def Pc.mj{t:Bool}{sz:Nat}{xs ys:List (List AV)}(h:Va xs ys):Pc (.mj t sz xs) (.mj false sz ys):=fun E v ⟨base,cap,h1,h2,h3,h4,h5,h6⟩=>
 ⟨base,cap,by rw[<-h.1];exact h1,by rw[<-h.1];exact h2,(by intro h;cases h),h4,fun a ha uP=>h5 a ha (fun e=>uP (by have:=h.1;grind)),fun a ha=>h.2 E sz _ _ (h6 a ha)⟩
def Pc.empty(t:Bool)(sz VU:Nat):Pc (.mj t sz []) (.mj false VU []):=fun _ _ ⟨base,cap,h1,h2,_,h4,_,_⟩=>
 ⟨base,cap,h1,h2,(by intro h;cases h),h4,(by intro a _ h;exact absurd rfl h),fun _ _=>trivial⟩
def Co1(H:List lw)(n:Nat)(x y:AV):Prop:=
 (Pc x y/\y.nb n)\/∃l m sz rows,x=.nW l m/\H[l]? =some (.nW true sz rows)/\rows.length=m/\Pc (.mj false sz rows) y/\y.nb n
def nI(H:List lw)(n:Nat):List AV->List AV->Prop
 |[],ys=>ys=[]
 |x::xs,ys=>∃y zs,ys=y::zs/\Co1 H n x y/\nI H n xs zs
def Co(H:List lw)(n:Nat)(x y:AV):Prop:=Co1 H n x y\/∃cs ds,x=.agg cs/\y=.agg ds/\nI H n cs ds
def GM(H:List lw)(n:Nat):List AV->List AV->Prop
 |[],ys=>ys=[]
 |x::xs,ys=>∃y zs,ys=y::zs/\Co H n x y/\GM H n xs zs
def ub{n:Nat}:∀{p q:List AV},yg n p->yg n q->yg n (p++q)
 |[],_,_,hq=>hq
 |_::_,_,hp,hq=>⟨hp.1,ub hp.2 hq⟩
def N8{n:Nat}:∀{rows:List (List AV)},Pe n rows->yg n rows.flatten
 |[],_=>trivial
 |_::_,h=>by simp only[dc];exact ub h.1 (N8 h.2)
def Nx:List (List AV)->List (List AV)->Prop
 |[],ys=>ys=[]
 |x::xs,ys=>∃y zs,ys=y::zs/\(x.length=y.length/\tQ x y)/\Nx xs zs
theorem Nx.length:∀{xs ys:List (List AV)},Nx xs ys->ys.length=xs.length
 |[],_,rfl=>rfl
 |_::_,_,⟨_,_,rfl,_,h⟩=>by simp [Nx.length h]
theorem Nx.sz{sz:Nat}:∀{xs ys:List (List AV)},Nx xs ys->(∀r∈xs,r.length=sz)->∀r∈ys,r.length=sz
 |[],_,rfl,_=>by simp
 |x::_,_,⟨y,_,rfl,h1,h⟩,hl=>by
  intro r hr;simp only[cP]at hr;rcases hr with rfl|hr
  ·rw[<-h1.1];exact hl x (by simp)
  ·exact Nx.sz h (fun q hq=>hl q (by simp [hq])) r hr
def Nx.flat:∀{xs ys:List (List AV)}{vs:List aPx},Nx xs ys->l9 E xs.flatten vs->l9 E ys.flatten vs
 |[],_,_,rfl,r=>r
 |x::xs,_,vs,⟨y,zs,rfl,h1,h⟩,r=>by
  simp only[dc]at r ⊢;have h3:=l9.take x.length r;have h2:=l9.drop x.length r;simp only[cZ,da]at h3 h2;have:=l9.append (h1.2 _ _ h3) (Nx.flat h h2)
  rwa [List.take_append_drop]at this
def Xf(H:List lw)(n:Nat)(x y:lw):Prop:=
 y=.zU\/(y=x/\uJ n x)\/(∃cs ds,x=.cells cs/\y=.cells ds/\GM H n cs ds)\/(∃wT sz rows BA,x=.nW wT sz rows/\y=.nW wT sz BA/\Nx rows BA/\Pe n BA)\/
  ∃k s s' st xE,x=.loop k s st xE/\y=.loop k s' st xE/\GM H n s s'
def CoH(H:List lw)(n:Nat):List lw->List lw->Prop
 |_,[]=>True
 |[],_::_=>False
 |x::xs,y::ys=>Xf H n x y/\CoH H n xs ys
def axY(n:Nat)(df:List (aPz×List AV)):Prop:=∀p∈df,yg n p.2
def agv:axY n []:=fun _ h=>by cases h
def aph(J J':k9):Prop:=((J'.low=J.low/\J.low<=J'.heap.length)/\J'.df=J.df/\axY J'.heap.length J.df)/\GM J.heap J'.heap.length J.lE J'.lE/\CoH J.heap J'.heap.length J.heap J'.heap
def CoH.get:∀{xs ys:List lw}{l:Nat}{y:lw},CoH H n xs ys->ys[l]? =some y->∃x,xs[l]? =some x/\Xf H n x y
 |_,[],_,_,_,h=>by simp at h
 |[],_::_,_,_,h,_=>h.elim
 |x::_,_::_,0,_,⟨h,_⟩,hy=>by simp at hy;subst hy;exact⟨x,by simp,h⟩
 |_::_,_::_,l+1,_,⟨_,h⟩,hy=>by
  simp at hy;obtain⟨x,hx,hc⟩:=CoH.get h hy;exact⟨x,by simpa using hx,hc⟩
section weak
variable {C:tC} {w:aPB}
def GM.rep(DI:∀x y v,Co H n x y->rD E x v->rD E' y v):∀{xs ys:List AV}{vs:List aPx},GM H n xs ys->l9 E xs vs->l9 E' ys vs
 |[],_,_,rfl,r=>r
 |_::_,_,_,⟨y,zs,rfl,hc,hr⟩,⟨u,us,rfl,r1,r2⟩=>⟨u,us,rfl,DI _ y u hc r1,GM.rep DI hr r2⟩
def nI.rep(DI:∀x y v,Co1 H n x y->rD E x v->rD E' y v):∀{xs ys:List AV}{vs:List aPx},nI H n xs ys->l9 E xs vs->l9 E' ys vs
 |[],_,_,rfl,r=>r
 |_::_,_,_,⟨y,zs,rfl,hc,hr⟩,⟨u,us,rfl,r1,r2⟩=>⟨u,us,rfl,DI _ y u hc r1,nI.rep DI hr r2⟩
def Co.of1(DI:∀x y v,Co1 H n x y->rD E x v->rD E' y v)(x y:AV)(v:aPx)(h:Co H n x y)(r:rD E x v):rD E' y v:=by
 rcases h with h|⟨cs,ds,rfl,rfl,h⟩
 ·exact DI x y v h r
 ·obtain⟨vs,hv,rl⟩:=r;exact⟨vs,hv,nI.rep DI h rl⟩
def Co.rep(S:pW C U J a w){v:aPx}(h:Co J.heap n x y)(r:rD (C.env U J.heap w) x v):rD (C.env U J.heap w) y v:=by
 refine Co.of1 ?_ x y v h r;intro x y v hc r;rcases hc with⟨aim,hn⟩|⟨l,m,sz,rows,rfl,hl,hm,aim,hn⟩
 ·exact aim _ _ r
 ·have hv:=SA S hl hm r;subst hv;exact aim _ _ (agn S hl)
def GM.aNj(S:pW C U J a w){vs:List aPx}(h:GM J.heap n xs ys)(r:l9 (C.env U J.heap w) xs vs):l9 (C.env U J.heap w) ys vs:=
 GM.rep (fun _ _ _ h r=>Co.rep S h r) h r
def aph.sim(h:aph J J')(S:pW C U J a w):pW C U J' a w:=by
 obtain⟨⟨MN,hdf,hdn⟩,hs,hh⟩:=h;have aOQ:∀(l:Nat)(y:lw),J'.heap[l]? =some y->∃x,J.heap[l]? =some x/\Xf J.heap J'.heap.length x y:=fun l y hy=>hh.get hy
 have anb:∀{x y:lw}{h:aPx}{b o:Nat},Xf J.heap J'.heap.length x y->y.Ew h b o->x.Ew h b o:=by
  intro x y h b o hc hm;rcases hc with rfl|⟨rfl,_⟩|⟨cs,ds,rfl,rfl,_⟩|⟨wT,sz,rows,BA,rfl,rfl,_,_⟩|⟨lk,s1,s2,st,xE,rfl,rfl,_⟩
  ·simp [lw.Ew]at hm
  ·exact hm
  ·cases h with
   |pointer p=>cases p<;>exact hm
   |_=>exact hm
  ·cases h with
   |slice p _ _=>cases p<;>exact hm
   |_=>exact hm
  ·cases h with
   |func q _ _=>cases q<;>exact hm
   |_=>exact hm
 have JW:∀{x y:lw}{h:aPx}{b:Nat},Xf J.heap J'.heap.length x y->y.block h b->x.block h b:=by
  intro x y h b hc hm;rcases hc with rfl|⟨rfl,_⟩|⟨cs,ds,rfl,rfl,_⟩|⟨wT,sz,rows,BA,rfl,rfl,_,_⟩|⟨lk,s1,s2,st,xE,rfl,rfl,_⟩
  ·simp [lw.block]at hm
  ·exact hm
  ·cases h with
   |pointer p=>cases p<;>exact hm
   |_=>exact hm
  ·cases h with
   |slice p _ _=>cases p<;>exact hm
   |_=>exact hm
  ·cases h with
   |func q _ _=>cases q<;>exact hm
   |_=>exact hm
 have QT:∀b o,KR U J'.heap b o->KR U J.heap b o:=by
  rintro b o ⟨l,y,hy,hm⟩;obtain⟨x,hx,hc⟩:=aOQ l y hy;exact⟨l,x,hx,anb hc hm⟩
 have le:(C.env U J.heap w).Le J'.heap.length (C.env U J'.heap w):=by
  refine⟨cv _,fun l hl=>.inl ⟨rfl,?_⟩,fun b o u hm hc=>⟨fun h=>hm (h.imp (QT b o) id),hc⟩,GD _⟩;obtain⟨x,hx,hc⟩:=aOQ l J'.heap[l] (cj hl);simp only[tC.env];rw[cj hl,hx];rcases hc with h|⟨h,_⟩|⟨cs,ds,rfl,h,_⟩|⟨wT,sz,rows,BA,rfl,h,hr,_⟩|⟨lk,s1,s2,st,xE,rfl,h,_⟩
  ·right;rw[h];rfl
  ·left;rw[h]
  ·left;rw[h];rfl
  ·left;rw[h];simp only[oO,hr.length]
  ·left;rw[h];rfl
 have DI:∀x y v,Co J.heap J'.heap.length x y->rD (C.env U J.heap w) x v->rD (C.env U J'.heap w) y v:=by
  refine Co.of1 ?_;intro x y v hc r;rcases hc with⟨aim,hn⟩|⟨l,m,sz,rows,rfl,hl,hm,aim,hn⟩
  ·exact rD.mono le _ _ hn (aim _ _ r)
  ·have hv:=SA S hl hm r;subst hv;exact rD.mono le _ _ hn (aim _ _ (agn S hl))
 have FE:vW C U J'.heap w J'.df a.defers:=by
  rw[hdf]
  exact S.defers.auM (fun xs vs ⟨f,hf⟩ r=>l9.mono le _ _ (hdn _ hf) r) (fun _ _ _=>rfl) (fun l x b hx hb=>by
   grind)
 refine {lE:=GM.rep DI hs S.lE,defers:=FE,qJ:=?_,apart:=?_,wZ:=?_,size:=S.size,old:=S.old,qE:=S.qE,F2:=?_,AH:=S.AH,rest:=S.rest,low:=⟨by rw[MN.1];exact S.low.1,by rw[MN.1];exact MN.2⟩,mZ:=?_}
 ·intro l y hy;obtain⟨x,hx,hc⟩:=aOQ l y hy;have r:=S.qJ l x hx;rcases hc with rfl|⟨rfl,hn⟩|⟨cs,ds,rfl,rfl,hcl⟩|⟨wT,sz,rows,BA,rfl,rfl,hr,hn⟩|⟨lk,s1,s2,st,xE,rfl,rfl,hcl⟩
  ·exact trivial
  ·cases y with
   |cells cs=>
    obtain⟨b,c,t,h1,h2,rl,h3⟩:=r;exact⟨b,c,t,h1,h2,l9.mono le _ _ hn rl,h3⟩
   |nW wT sz rows=>
    obtain⟨base,cap,h1,h2,h3,h4,h5⟩:=r;refine⟨base,cap,h1,h2,h3,h4,fun a0 ha hc=>?_⟩;obtain⟨h6,c,t,h7,h8,rl,h9⟩:=h5 a0 ha hc
    exact⟨h6,c,t,h7,h8,l9.mono le _ _ (by
     clear rl h9 h8 h7 h6 hc ha h5 h4 h3 h2 h1;revert hn;simp only[uJ];clear hy hx;induction rows with
     |nil=>intro _;trivial
     |cons r rs ih=>
      intro hn;simp only[dc]
      have:∀(p q:List AV),yg J'.heap.length p->yg J'.heap.length q->yg J'.heap.length (p++q):=by
       intro p q hp hq;induction p with
       |nil=>exact hq
       |cons z p ihp=>exact⟨hp.1,ihp hp.2⟩
      exact this r _ hn.1 (ih hn.2)) rl,h9⟩
   |map es=>
    obtain⟨r',en,cl,h1,h2,rp⟩:=r;exact⟨r',en,cl,h1,h2,uv.mono le hn rp⟩
   |loop lk s1 st xE=>
    obtain⟨D,rec,h1,h2,h3,h4,rl⟩:=r;exact⟨D,rec,h1,h2,h3,h4,l9.mono le _ _ hn rl⟩
   |iter s p=>exact r
   |L8 s=>exact r
   |zU=>trivial
  ·obtain⟨b,c,t,h1,h2,rl,h3⟩:=r;exact⟨b,c,t,h1,h2,GM.rep DI hcl rl,h3⟩
  ·obtain⟨base,cap,h1,h2,h3,h4,h5⟩:=r;have hlen:=hr.length;refine⟨base,cap,by rw[hlen];exact h1,by rw[hlen];exact h2,h3,hr.sz h4,fun a0 ha hc=>?_⟩;obtain⟨h6,c,t,h7,h8,rl,h9⟩:=h5 a0 ha hc;rw[hlen];exact⟨h6,c,t,h7,h8,l9.mono le _ _ (N8 hn) (hr.flat rl),h9⟩
  ·obtain⟨D,rec,h1,h2,h3,h4,rl⟩:=r;exact⟨D,rec,h1,h2,h3,h4,GM.rep DI hcl rl⟩
 ·intro l l' x x' b hx EC hb uD;obtain⟨y,hy,hc⟩:=aOQ l x hx;obtain⟨y',hy',hc'⟩:=aOQ l' x' EC;exact S.apart l l' y y' b hy hy' (JW hc hb) (JW hc' uD)
 ·intro l x b o hx hb;obtain⟨y,hy,hc⟩:=aOQ l x hx;exact S.wZ l y b o hy (JW hc hb)
 ·intro l x b o hx hm hb;obtain⟨y,hy,hc⟩:=aOQ l x hx;exact S.F2 l y b o hy (anb hc hm) hb
 ·intro l hl;have q9:l<J'.heap.length:=by have:=S.low;omega
  obtain⟨x,hx,hc⟩:=aOQ l J'.heap[l] (cj q9);have hn:=S.mZ l hl;rw[hx]at hn;rw[cj q9]
  have az0:oO (some J'.heap[l])=oO (some x)\/oO (some J'.heap[l])=none:=by
   rcases hc with h|⟨h,_⟩|⟨cs,ds,rfl,h,_⟩|⟨wT,sz,rows,BA,rfl,h,hr,_⟩|⟨lk,s1,s2,st,xE,rfl,h,_⟩
   ·right;rw[h];rfl
   ·left;rw[h]
   ·left;rw[h];rfl
   ·left;rw[h];simp only[oO,hr.length]
   ·left;rw[h];rfl
  grind
def aph.imp(h:aph J J'):N4 J J':=fun _ U _ _ S=>⟨U,h.sim S⟩
def au9 {s sz:Nat}{wT:Bool}(h:J.lE[i]? =some (.mj true s [])):N4 J {J with lE:=J.lE.set i (.nW J.heap.length 0),heap:=J.heap++[.nW wT sz []]}:=by
 intro C U a w S;obtain⟨v,hv,base,cap,rfl,_,hc,_⟩:=S.lE.get h;have GI:cap=0:=hc rfl;subst GI
 have S':=S.adl (wT:=wT) (sz:=sz) (rows:=[]) (w':=w) (h':=.slice base 0 0) (cv _) (fun _ _=>rfl) (fun _=>rfl) ⟨rfl,rfl⟩ (by
  intro b hb;cases base<;>simp [lw.block]at hb) (fun E' _ _=>⟨base,0,rfl,cv _,fun _=>rfl,by simp,fun b _ h0=>absurd rfl h0⟩)
 refine⟨(fun k=>if k=J.heap.length then .slice base 0 0 else U k),?_⟩
 have:=S'.put (some i) (x:=.nW J.heap.length 0) (v:=.slice base 0 0) ⟨by simp [tC.env],⟨_,_,_,rfl⟩,fun k hk=>by
  grind [tC.env]⟩
 refine {this with lE:=?_,defers:=this.defers};have hs:=this.lE
 have ha:(a.put (some i) (.slice base 0 0)).tmps.toList=a.tmps.toList:=by
  simp only[Act.put,Array.toList_setIfInBounds];apply List.ext_getElem?
  grind
 rw[ha]at hs;exact hs
end weak
mutual
def frz(low:Nat)(H:List lw):AV->AV
 | .nW l n=>if l<low then .nW l n else match H[l]? with
   |some (.nW _ sz rows)=>if rows.length=n then .mj false sz rows else .any
   |_=>.any
 |.own l i n o sz=>if l<low then .own l i n o sz else .any
 |.agg cs=>.agg (api low H cs)
 |.Mt cs=>.Mt (api low H cs)
 |.any=>.any
 |.bool b=>.bool b
 |.int k n=>.int k n
 |.str s=>.str s
 |.uS v=>.uS v
 |.mj t sz rows=>.mj t sz rows
 |.ptr l off=>.ptr l off
 |.map l=>.map l
 |.pp cs=>.pp cs
 |.func fn f c=>.func fn f c
 |.iface t x=>.iface t x
 |.sn t l=>.sn t l
def api(low:Nat)(H:List lw):List AV->List AV
 |[]=>[]
 |x::xs=>frz low H x::api low H xs
end
section res
variable {C:tC} {w:aPB}
def ava(_S:pW C U J a w):(C.env U J.heap w).Le 0 (C.env U [] w):=by
 refine⟨dN _,fun l hl=>absurd hl (cx _),fun b o u hm hc=>⟨?_,hc⟩,GD _⟩;simp only[tC.env]at hm ⊢;rintro(⟨l,x,hx,_⟩|h)
 all_goals grind
structure aC7(C:tC)(U:Nat->aPx)(J:k9)(w:aPB)(E':HI):Prop where
 le:(C.env U J.heap w).Le J.low E'
 w:E'.w=w
 free:∀(l:Nat)(x:lw)(b o:Nat),J.low<=l->J.heap[l]? =some x->x.block (U l) b-> ¬ E'.mu b o
def pW.aIr(S:pW C U J a w)(h0:J.low=0):aC7 C U J w (C.env U [] w):=by
 refine⟨by rw[h0];exact ava S,rfl,fun l x b o _ hx hb=>?_⟩;simp only[tC.env];rintro(⟨l',y,hy,_⟩|hA)
 ·simp at hy
 ·exact S.wZ l x b o hx hb hA
mutual
def amd(S:pW C U J a w){E':HI}(D:aC7 C U J w E'):
 ∀(x:AV)(v:aPx),(frz J.low J.heap x).nb J.low->rD (C.env U J.heap w) x v->rD E' (frz J.low J.heap x) v
 | .nW l n,v,hn,r=>by
   simp only[frz]at hn ⊢;by_cases MN:l<J.low
   ·rw[if_pos MN];exact rD.mono D.le (.nW l n) v MN r
   ·rw[if_neg MN] at hn ⊢;split
    ·rename_i wT sz rows hl;simp only[hl]at hn;split
     ·rename_i hlen;rw[if_pos hlen]at hn;have hv:=SA S hl hlen r;subst hv;obtain⟨base,cap,hh,h2,h3,h4,h5⟩:=S.qJ l _ hl;refine⟨base,cap,hh,h2,(by intro h;cases h),h3,?_,?_⟩
      ·intro b hb uP;exact(h5 b hb (fun h0=>uP (cN (by omega)))).1
      ·intro b hb;by_cases hc:cap=0
       ·have:rows=[]:=cN (by omega);subst this;trivial
       ·obtain⟨hsp,c,t,hcb,hsz,rl,h1⟩:=h5 b hb hc;subst hb;refine abv (E:=E') (c:=c) (t:=t) (fr:=(0,0)) (by rw[D.w];exact hcb) rows b.off h4 ?_ (l9.mono D.le _ _ (N8 hn) rl) h1;intro o _ _;exact D.free l _ b.block o (by omega) hl (by rw[hh];exact⟨rfl,hc⟩)
     ·exact trivial
    ·exact trivial
 | .own l i n o sz,v,hn,r=>by
   simp only[frz]at hn ⊢;by_cases MN:l<J.low
   ·rw[if_pos MN];exact rD.mono D.le (.own l i n o sz) v MN r
   ·rw[if_neg MN];exact trivial
 |.agg cs,v,hn,⟨vs,hv,rl⟩=>⟨vs,hv,ajI S D cs _ hn rl⟩
 |.Mt cs,v,hn,⟨vs,hv,rl⟩=>⟨vs,hv,ajI S D cs _ hn rl⟩
 |.any,_,_,_=>trivial
 |.bool _,_,_,r=>r
 |.int _ _,_,_,r=>r
 |.str _,_,_,r=>r
 |.uS _,_,_,r=>r
 |.mj t sz rows,_,hn,r=>rD.mono D.le (.mj t sz rows) _ hn r
 |.ptr l off,_,hn,r=>rD.mono D.le (.ptr l off) _ hn r
 |.map l,_,hn,r=>rD.mono D.le (.map l) _ hn r
 |.pp cs,_,hn,r=>rD.mono D.le (.pp cs) _ hn r
 |.func fn f c,_,hn,r=>rD.mono D.le (.func fn f c) _ hn r
 |.iface t x,_,hn,r=>rD.mono D.le (.iface t x) _ hn r
 |.sn t l,_,hn,r=>rD.mono D.le (.sn t l) _ hn r
def ajI(S:pW C U J a w){E':HI}(D:aC7 C U J w E'):
 ∀(xs:List AV)(vs:List aPx),yg J.low (api J.low J.heap xs)->l9 (C.env U J.heap w) xs vs->l9 E' (api J.low J.heap xs) vs
 |[],_,_,r=>r
 |x::xs,_,hn,⟨u,us,hv,r1,r2⟩=>⟨u,us,hv,amd S D x u hn.1 r1,ajI S D xs us hn.2 r2⟩
end
mutual
theorem aBc(low:Nat)(H:List lw):∀x:AV,x.nb 0->frz low H x=x
 |.nW _ _,h=>absurd h (cx _)
 |.own _ _ _ _ _,h=>absurd h (cx _)
 |.agg cs,h=>by rw[frz,R0 low H cs h]
 |.Mt cs,h=>by rw[frz,R0 low H cs h]
 |.any,_|.bool _,_|.int _ _,_|.str _,_|.uS _,_|.mj _ _ _,_|.ptr _ _,_|.map _,_|.pp _,_|.func _ _ _,_|.iface _ _,_|.sn _ _,_=>by rw[frz]
theorem R0(low:Nat)(H:List lw):∀xs:List AV,yg 0 xs->api low H xs=xs
 |[],_=>rfl
 |x::xs,h=>by rw[api,aBc low H x h.1,R0 low H xs h.2]
end
end res
mutual
def AV.s8(Y:Nat->Nat):AV->AV
 |.agg cs=>.agg (vC Y cs)
 |.Mt cs=>.Mt (vC Y cs)
 |.pp cs=>.pp (vC Y cs)
 |.mj t sz rows=>.mj t sz (JX Y rows)
 |.nW l n=>.nW (Y l) n
 |.own l off len cap sz=>.own (Y l) off len cap sz
 |.ptr l off=>.ptr (Y l) off
 |.map l=>.map (Y l)
 |.sn t l=>.sn t (Y l)
 |.func fn f c=>.func fn (vC Y f) (vC Y c)
 |.iface t x=>.iface t (x.s8 Y)
 |.any=>.any
 |.bool b=>.bool b
 |.int k n=>.int k n
 |.str s=>.str s
 |.uS v=>.uS v
def vC(Y:Nat->Nat):List AV->List AV
 |[]=>[]
 |c::cs=>c.s8 Y::vC Y cs
def JX(Y:Nat->Nat):List (List AV)->List (List AV)
 |[]=>[]
 |r::rs=>vC Y r::JX Y rs
end
theorem SW(Y:Nat->Nat):∀cs:List AV,(vC Y cs).length=cs.length
 |[]=>rfl
 |_::cs=>by simp [vC,SW Y cs]
theorem yP(Y:Nat->Nat):∀cs:List (List AV),(JX Y cs).length=cs.length
 |[]=>rfl
 |_::cs=>by simp [JX,yP Y cs]
theorem agw(Y:Nat->Nat):∀a b:List AV,vC Y (a++b)=vC Y a++vC Y b
 |[],_=>rfl
 |_::a,b=>by simp [vC,agw Y a b]
theorem adn(Y:Nat->Nat):∀rs:List (List AV),(JX Y rs).flatten=vC Y rs.flatten
 |[]=>rfl
 |r::rs=>by simp [JX,agw,adn Y rs]
mutual
theorem R1(Y:Nat->Nat):∀x:AV,x.nb 0->x.s8 Y=x
 |.nW _ _,h=>absurd h (cx _)
 |.own _ _ _ _ _,h=>absurd h (cx _)
 |.ptr _ _,h=>absurd h (cx _)
 |.map _,h=>absurd h (cx _)
 |.sn _ _,h=>absurd h (cx _)
 |.agg cs,h=>by rw[AV.s8,tJ Y cs h]
 |.Mt cs,h=>by rw[AV.s8,tJ Y cs h]
 |.pp cs,h=>by rw[AV.s8,tJ Y cs h]
 |.mj _ _ rows,h=>by rw[AV.s8,xG Y rows h]
 |.func _ f c,h=>by rw[AV.s8,tJ Y f h.1,tJ Y c h.2]
 |.iface _ x,h=>by rw[AV.s8,R1 Y x h]
 |.any,_|.bool _,_|.int _ _,_|.str _,_|.uS _,_=>by rw[AV.s8]
theorem tJ(Y:Nat->Nat):∀xs:List AV,yg 0 xs->vC Y xs=xs
 |[],_=>rfl
 |x::xs,h=>by rw[vC,R1 Y x h.1,tJ Y xs h.2]
theorem xG(Y:Nat->Nat):∀xs:List (List AV),Pe 0 xs->JX Y xs=xs
 |[],_=>rfl
 |x::xs,h=>by rw[JX,tJ Y x h.1,xG Y xs h.2]
end
def lw.s8(Y:Nat->Nat):lw->lw
 |.cells cs=>.cells (vC Y cs)
 |.nW wT sz rows=>.nW wT sz (JX Y rows)
 |.map es=>.map (es.map fun p=>(p.1.s8 Y,p.2.s8 Y))
 |.loop k lE st xE=>.loop k (vC Y lE) st xE
 |.iter s p=>.iter s p
 |.L8 s=>.L8 s
 |.zU=>.zU
def yJ.s8(Y:Nat->Nat):yJ->yJ
 |.ret r=>.ret (r.s8 Y)
 |.panic x=>.panic (x.s8 Y)
structure akG(N:Nat)(Y:Nat->Nat)(E E':HI):Prop where
 n:∀l,l<N->Y l<E'.n
 mZ:∀l,l<N->E'.U (Y l)=E.U l/\(E'.ln (Y l)=E.ln l\/E'.ln (Y l)=none)
 mem:∀b o u,¬ E.mu b o->E.w.cell? ⟨b,o,none⟩=some u-> ¬ E'.mu b o/\E'.w.cell? ⟨b,o,none⟩=some u
 ty:tyk E.w E'.w
section

mutual
theorem rD.s8(h:akG N Y E E'):∀(x:AV)(v:aPx),x.nb N->rD E x v->rD E' (x.s8 Y) v
 |.any,_,_,_=>trivial
 |.bool _,_,_,r=>r
 |.int _ _,_,_,r=>r
 |.str _,_,_,r=>r
 |.uS _,_,_,r=>r
 |.agg cs,_,hb,⟨vs,hv,hr⟩=>⟨vs,hv,l9.s8 h cs _ hb hr⟩
 |.Mt cs,_,hb,⟨vs,hv,hr⟩=>⟨vs,hv,l9.s8 h cs _ hb hr⟩
 | .mj t sz rows,_,hb,⟨base,cap,h1,h2,h3,h4,h5,h6⟩=>
   ⟨base,cap,by rw[yP];exact h1,by rw[yP];exact h2,fun e=>by rw[yP];exact h3 e,h4,fun a ha uP=>h5 a ha (fun e=>uP (by rw[e];rfl)),fun a ha=>qI.s8 h rows _ hb (h6 a ha)⟩
 |.nW l n,v,hb,⟨_,hsl,r⟩=>⟨h.n l hb,hsl,fun k hk=>by
     rcases (h.mZ l hb).2 with e|e
     ·rw[e]at hk;rw[(h.mZ l hb).1];exact r k hk
     ·rw[e]at hk;cases hk⟩
 |.own l i n o sz,v,hb,⟨_,hsl,r⟩=>⟨h.n l hb,hsl,fun k hk=>by
     rcases (h.mZ l hb).2 with e|e
     ·rw[e]at hk;rw[(h.mZ l hb).1];exact r k hk
     ·rw[e]at hk;cases hk⟩
 |.ptr l off,v,hb,⟨_,b,hφ,hv⟩=>⟨h.n l hb,b,by rw[(h.mZ l hb).1];exact hφ,hv⟩
 |.map l,v,hb,⟨_,hv,r,hφ⟩=>⟨h.n l hb,by rw[(h.mZ l hb).1];exact hv,r,by rw[(h.mZ l hb).1];exact hφ⟩
 |.pp cs,_,hb,⟨b,off,hv,r⟩=>⟨b,off,hv,q5.s8 h cs _ hb r⟩
 |.func _ f c,_,hb,⟨f',c',hv,r1,r2⟩=>⟨f',c',hv,l9.s8 h f _ hb.1 r1,l9.s8 h c _ hb.2 r2⟩
 |.iface _ x,_,hb,⟨u,hv,r⟩=>⟨u,hv,rD.s8 h x _ hb r⟩
 |.sn t l,v,hb,⟨_,b,hφ,hv,c,fz,hc⟩=>⟨h.n l hb,b,by rw[(h.mZ l hb).1];exact hφ,hv,h.ty b c t fz hc⟩
theorem l9.s8(h:akG N Y E E'):∀(cs:List AV)(vs:List aPx),yg N cs->l9 E cs vs->l9 E' (vC Y cs) vs
 |[],_,_,r=>r
 |c::cs,_,hb,⟨u,us,hv,r1,r2⟩=>⟨u,us,hv,rD.s8 h c _ hb.1 r1,l9.s8 h cs _ hb.2 r2⟩
theorem q5.s8(h:akG N Y E E'){b:Nat}:∀(cs:List AV)(off:Nat),yg N cs->q5 E b off cs->q5 E' b off (vC Y cs)
 |[],_,_,_=>trivial
 |c::cs,off,hb,⟨⟨hm,u,hu,h1,r1⟩,r2⟩=>
  let ⟨m,c'⟩:=h.mem b off u hm hu
  ⟨⟨m,u,c',h1,rD.s8 h c _ hb.1 r1⟩,q5.s8 h cs _ hb.2 r2⟩
theorem qI.s8(h:akG N Y E E'){sz b:Nat}:∀(rs:List (List AV))(off:Nat),Pe N rs->qI E sz b off rs->qI E' sz b off (JX Y rs)
 |[],_,_,_=>trivial
 |r::rs,off,hb,⟨hl,r1,r2⟩=>⟨by rw[SW];exact hl,q5.s8 h r _ hb.1 r1,qI.s8 h rs _ hb.2 r2⟩
end
structure avb(N:Nat)(Y:Nat->Nat)(E' E:HI):Prop where
 n:N<=E.n
 mZ:∀l,l<N->E.U l=E'.U (Y l)/\E.ln l=E'.ln (Y l)
 mem:∀b o u,¬ E'.mu b o->E'.w.cell? ⟨b,o,none⟩=some u-> ¬ E.mu b o/\E.w.cell? ⟨b,o,none⟩=some u
 ty:tyk E'.w E.w
mutual
def rD.HW(h:avb N Y E' E):∀(x:AV)(v:aPx),x.nb N->rD E' (x.s8 Y) v->rD E x v
 |.any,_,_,_=>trivial
 |.bool _,_,_,r=>r
 |.int _ _,_,_,r=>r
 |.str _,_,_,r=>r
 |.uS _,_,_,r=>r
 |.agg cs,_,hb,⟨vs,hv,hr⟩=>⟨vs,hv,l9.HW h cs _ hb hr⟩
 |.Mt cs,_,hb,⟨vs,hv,hr⟩=>⟨vs,hv,l9.HW h cs _ hb hr⟩
 | .mj t sz rows,_,hb,⟨base,cap,h1,h2,h3,h4,h5,h6⟩=>by
   rw[yP]at h1 h2 h3;refine⟨base,cap,h1,h2,h3,h4,fun a ha uP=>h5 a ha (fun e=>uP ?_),fun a ha=>qI.HW h rows _ hb (h6 a ha)⟩;have:=congrArg List.length e;rw[yP]at this;exact cN this
 |.nW l n,v,hb,⟨_,hsl,r⟩=>⟨cn hb h.n,hsl,fun k hk=>by rw[(h.mZ l hb).2]at hk;rw[(h.mZ l hb).1];exact r k hk⟩
 |.own l i n o sz,v,hb,⟨_,hsl,r⟩=>⟨cn hb h.n,hsl,fun k hk=>by rw[(h.mZ l hb).2]at hk;rw[(h.mZ l hb).1];exact r k hk⟩
 |.ptr l off,v,hb,⟨_,b,hφ,hv⟩=>⟨cn hb h.n,b,by rw[(h.mZ l hb).1];exact hφ,hv⟩
 |.map l,v,hb,⟨_,hv,r,hφ⟩=>⟨cn hb h.n,by rw[(h.mZ l hb).1];exact hv,r,by rw[(h.mZ l hb).1];exact hφ⟩
 |.pp cs,_,hb,⟨b,off,hv,r⟩=>⟨b,off,hv,q5.HW h cs _ hb r⟩
 |.func _ f c,_,hb,⟨f',c',hv,r1,r2⟩=>⟨f',c',hv,l9.HW h f _ hb.1 r1,l9.HW h c _ hb.2 r2⟩
 |.iface _ x,_,hb,⟨u,hv,r⟩=>⟨u,hv,rD.HW h x _ hb r⟩
 |.sn t l,v,hb,⟨_,b,hφ,hv,c,fz,hc⟩=>⟨cn hb h.n,b,by rw[(h.mZ l hb).1];exact hφ,hv,h.ty b c t fz hc⟩
def l9.HW(h:avb N Y E' E):∀(cs:List AV)(vs:List aPx),yg N cs->l9 E' (vC Y cs) vs->l9 E cs vs
 |[],_,_,r=>r
 |c::cs,_,hb,⟨u,us,hv,r1,r2⟩=>⟨u,us,hv,rD.HW h c _ hb.1 r1,l9.HW h cs _ hb.2 r2⟩
def q5.HW(h:avb N Y E' E){b:Nat}:∀(cs:List AV)(off:Nat),yg N cs->q5 E' b off (vC Y cs)->q5 E b off cs
 |[],_,_,_=>trivial
 |c::cs,off,hb,⟨⟨hm,u,hu,h1,r1⟩,r2⟩=>
  let ⟨m,c'⟩:=h.mem b off u hm hu
  ⟨⟨m,u,c',h1,rD.HW h c _ hb.1 r1⟩,q5.HW h cs _ hb.2 r2⟩
def qI.HW(h:avb N Y E' E){sz b:Nat}:∀(rs:List (List AV))(off:Nat),Pe N rs->qI E' sz b off (JX Y rs)->qI E sz b off rs
 |[],_,_,_=>trivial
 |r::rs,off,hb,⟨hl,r1,r2⟩=>⟨by rw[SW]at hl;exact hl,q5.HW h r _ hb.1 r1,qI.HW h rs _ hb.2 r2⟩
end
end
def avc{E E':HI}{N:Nat}{Y:Nat->Nat}(h:akG N Y E E'):∀{es:List (AV×AV)}{xs:List MapEntry},(∀p∈es,p.1.nb N/\p.2.nb N)->uv E es xs->uv E' (es.map fun p=>(p.1.s8 Y,p.2.s8 Y)) xs
 |[],_,_,r=>r
 |(k,v)::_,_,hb,⟨e,s,he,r1,r2,r3⟩=>
  ⟨e,s,he,rD.s8 h k _ (hb (k,v) (by simp)).1 r1,rD.s8 h v _ (hb (k,v) (by simp)).2 r2,avc h (fun p hp=>hb p (by simp [hp])) r3⟩
def apj{E E':HI}{N:Nat}{Y:Nat->Nat}(h:avb N Y E' E):∀{es:List (AV×AV)}{xs:List MapEntry},(∀p∈es,p.1.nb N/\p.2.nb N)->uv E' (es.map fun p=>(p.1.s8 Y,p.2.s8 Y)) xs->uv E es xs
 |[],_,_,r=>r
 |(k,v)::_,_,hb,⟨e,s,he,r1,r2,r3⟩=>
  ⟨e,s,he,rD.HW h k _ (hb (k,v) (by simp)).1 r1,rD.HW h v _ (hb (k,v) (by simp)).2 r2,apj h (fun p hp=>hb p (by simp [hp])) r3⟩
theorem qV.s8(h:akG N Y E E'){x:lw}(hb:uJ N x)(hw:∀b,x.block hd b->E'.w.heap[b]? =E.w.heap[b]?)(r:qV E x hd):qV E' (x.s8 Y) hd:=by
 cases x with
 |cells cs=>
  obtain⟨b,c,t,rfl,h2,rl,h3⟩:=r;exact⟨b,c,t,rfl,by rw[hw b rfl];exact h2,l9.s8 h _ _ hb rl,h3⟩
 |nW wT sz rows=>
  obtain⟨base,cap,rfl,h2,h3,h4,h5⟩:=r;refine⟨base,cap,by rw[yP],by rw[yP];exact h2,h3,?_,fun a0 ha hc=>?_⟩
  ·have key:∀rs:List (List AV),(∀r∈rs,r.length=sz)->∀r∈JX Y rs,r.length=sz:=by
    intro rs;induction rs with
    |nil=>intro _ r hr;simp [JX]at hr
    |cons q rs ih=>
     grind [JX,SW]
   exact key rows h4
  ·obtain⟨h6,c,t,h7,h8,rl,h9⟩:=h5 a0 ha hc;subst ha;rw[yP,adn];exact⟨h6,c,t,by rw[hw _ ⟨rfl,hc⟩];exact h7,h8,l9.s8 h _ _ (N8 hb) rl,h9⟩
 |map es=>
  obtain⟨r',en,cl,rfl,h2,rp⟩:=r;exact⟨r',en,cl,rfl,by rw[hw r' rfl];exact h2,avc h hb rp⟩
 |loop k lE st xE=>
  obtain⟨D,rec,rfl,h1,h2,h3,rl⟩:=r;exact⟨D,rec,rfl,by rw[hw (D+1) (.inl rfl)];exact h1,by rw[hw D (.inr rfl)];exact h2,h3,l9.s8 h _ _ hb rl⟩
 |iter s p=>
  obtain⟨b,rfl,h2⟩:=r;exact⟨b,rfl,by rw[hw b rfl];exact h2⟩
 |L8 s=>exact ada r hw
 |zU=>trivial
def qV.HW(h:avb N Y E' E){x:lw}(hb:uJ N x)(hw: ∀b,(x.s8 Y).block hd b->E.w.heap[b]? =E'.w.heap[b]?)(r:qV E' (x.s8 Y) hd):qV E x hd:=by
 cases x with
 |cells cs=>
  obtain⟨b,c,t,rfl,h2,rl,h3⟩:=r;exact⟨b,c,t,rfl,by rw[hw b rfl];exact h2,l9.HW h _ _ hb rl,h3⟩
 |nW wT sz rows=>
  obtain⟨base,cap,rfl,h2,h3,h4,h5⟩:=r;rw[yP]at h2 hw;refine⟨base,cap,by rw[yP],h2,h3,?_,fun a0 ha hc=>?_⟩
  ·have key:∀rs:List (List AV),(∀r∈JX Y rs,r.length=sz)->∀r∈rs,r.length=sz:=by
    intro rs;induction rs with
    |nil=>intro _ r hr;simp at hr
    |cons q rs ih=>
     grind [JX,SW]
   exact key rows h4
  ·obtain⟨h6,c,t,h7,h8,rl,h9⟩:=h5 a0 ha hc;subst ha;rw[yP]at rl h9;rw[adn]at rl;exact⟨h6,c,t,by rw[hw _ ⟨rfl,hc⟩];exact h7,h8,l9.HW h _ _ (N8 hb) rl,h9⟩
 |map es=>
  obtain⟨r',en,cl,rfl,h2,rp⟩:=r;exact⟨r',en,cl,rfl,by rw[hw r' rfl];exact h2,apj h hb rp⟩
 |loop k lE st xE=>
  obtain⟨D,rec,rfl,h1,h2,h3,rl⟩:=r;exact⟨D,rec,rfl,by rw[hw (D+1) (.inl rfl)];exact h1,by rw[hw D (.inr rfl)];exact h2,h3,l9.HW h _ _ hb rl⟩
 |iter s p=>
  obtain⟨b,rfl,h2⟩:=r;exact⟨b,rfl,by rw[hw b rfl];exact h2⟩
 |L8 s=>exact ada r hw
 |zU=>trivial
def abw{x:lw}{b o:Nat}:(x.s8 Y).Ew h b o↔x.Ew h b o:=by
 cases x with
 |cells cs=>cases h with
  |pointer p=>cases p<;>exact ct
  |_=>exact ct
 |nW wT sz rows=>cases h with
  |slice p n c=>cases p<;>exact ct
  |_=>exact ct
 |map es=>cases h with
  |map p=>cases p<;>exact ct
  |_=>exact ct
 |loop k lE st xE=>cases h with
  |func q _ _=>cases q<;>exact ct
  |_=>exact ct
 |iter s p=>cases h with
  |pointer p=>cases p<;>exact ct
  |_=>exact ct
 |L8 s=>exact ct
 |zU=>exact ct
def GN{x:lw}{b:Nat}:(x.s8 Y).block h b↔x.block h b:=by
 cases x with
 |cells cs=>cases h with
  |pointer p=>cases p<;>exact ct
  |_=>exact ct
 |nW wT sz rows=>cases h with
  |slice p n c=>cases p<;>exact ct
  |_=>exact ct
 |map es=>cases h with
  |map p=>cases p<;>exact ct
  |_=>exact ct
 |loop k lE st xE=>cases h with
  |func q _ _=>cases q<;>exact ct
  |_=>exact ct
 |iter s p=>cases h with
  |pointer p=>cases p<;>exact ct
  |_=>exact ct
 |L8 s=>exact ct
 |zU=>exact ct
theorem KU{x:lw}:oO (some (x.s8 Y))=oO (some x):=by
 cases x<;>simp [oO,lw.s8,yP]
def Z8{x:lw}{b:Nat}(hb:x.block h b):∃o,x.Ew h b o:=by
 cases x with
 |cells cs=>
  cases h with
  |pointer p=>cases p with
   |none=>exact absurd hb id
   |some a=>exact⟨0,hb⟩
  |_=>exact absurd hb id
 |nW wT sz rows=>
  cases h with
  |slice base n cap=>cases base with
   |none=>exact absurd hb id
   |some a=>exact⟨a.off+n*sz,hb,fun _=>cv _⟩
  |_=>exact absurd hb id
 |map es=>
  cases h with
  |map r=>cases r with
   |none=>exact absurd hb id
   |some a=>exact⟨0,hb⟩
  |_=>exact absurd hb id
 |loop k lE st xE=>
  cases h with
  |func q _ _=>cases q with
   |yield r=>exact⟨0,hb⟩
   |_=>exact absurd hb id
  |_=>exact absurd hb id
 |iter s p=>
  cases h with
  |pointer p=>cases p with
   |none=>exact absurd hb id
   |some a=>exact⟨0,hb⟩
  |_=>exact absurd hb id
 |L8 s=>exact⟨0,hb⟩
 |zU=>exact absurd hb id
def aC8{e:yO}(hq:akC op=true)(h:nf P J op=some e):e.nw=[]:=by
 cases op with
 |move x=>cases h;rfl
 |assign x=>cases h;rfl
 |pick c x y=>simp only[nf]at h;split at h<;>cases h;rfl
 |unOp op t x=>simp only[nf]at h;split at h<;>cases h<;>rfl
 |fieldAddr t x i=>simp only[nf]at h;split at h<;>cases h<;>rfl
 |extract x i=>
  simp only[nf]at h
  grind
 |binOp op t x y u=>
  simp only[nf]at h;split at h
  ·cases h;rfl
  ·unfold arR ajF at h;split at h
   ·grind
   unfold adf at h
   grind
 |load t x=>
  simp only[nf]at h;split at h
  ·split at h
   ·split at h
    ·unfold ldV at h
     grind
    ·cases h
   ·cases h
  ·split at h<;>cases h;rfl
  ·grind
  ·unfold ao3 at h
   grind [cD]
  ·cases h
 |store t x y=>
  simp only[nf]at h
  grind
 |field t x i=>
  simp only[nf]at h
  grind
 |index t x i=>
  simp only[nf]at h
  grind
 |indexAddr t x i=>
  simp only[nf]at h
  grind [cD]
 |_=>simp [akC]at hq
def aC9{e:yO}(hq:akC op=true)(h:nf P J op=some e):e.whole=false:=by
 cases op with
 |move x=>cases h;rfl
 |assign x=>cases h;rfl
 |pick c x y=>simp only[nf]at h;split at h<;>cases h;rfl
 |unOp op t x=>simp only[nf]at h;split at h<;>cases h<;>rfl
 |fieldAddr t x i=>simp only[nf]at h;split at h<;>cases h<;>rfl
 |extract x i=>
  simp only[nf]at h
  grind
 |binOp op t x y u=>
  simp only[nf]at h;split at h
  ·cases h;rfl
  ·unfold arR ajF at h;split at h
   ·grind
   unfold adf at h
   grind
 |load t x=>
  simp only[nf]at h;split at h
  ·split at h
   ·split at h
    ·unfold ldV at h
     grind
    ·cases h
   ·cases h
  ·split at h<;>cases h;rfl
  ·grind
  ·unfold ao3 at h
   grind [cD]
  ·cases h
 |store t x y=>
  simp only[nf]at h
  grind
 |field t x i=>
  simp only[nf]at h
  grind
 |index t x i=>
  simp only[nf]at h
  grind
 |indexAddr t x i=>
  simp only[nf]at h
  grind [cD]
 |_=>simp [akC]at hq
mutual
theorem aoN{Y:Nat->Nat}{n:Nat}(hf:∀l,l<n->Y l=l):∀x:AV,x.nb n->x.s8 Y=x
 |.nW l _,h=>by rw[AV.s8,hf l h]
 |.own l _ _ _ _,h=>by rw[AV.s8,hf l h]
 |.ptr l _,h=>by rw[AV.s8,hf l h]
 |.map l,h=>by rw[AV.s8,hf l h]
 |.sn _ l,h=>by rw[AV.s8,hf l h]
 |.agg cs,h=>by rw[AV.s8,KV hf cs h]
 |.Mt cs,h=>by rw[AV.s8,KV hf cs h]
 |.pp cs,h=>by rw[AV.s8,KV hf cs h]
 |.mj _ _ rows,h=>by rw[AV.s8,apk hf rows h]
 |.func _ f c,h=>by rw[AV.s8,KV hf f h.1,KV hf c h.2]
 |.iface _ x,h=>by rw[AV.s8,aoN hf x h]
 |.any,_|.bool _,_|.int _ _,_|.str _,_|.uS _,_=>by rw[AV.s8]
theorem KV{Y:Nat->Nat}{n:Nat}(hf:∀l,l<n->Y l=l):∀xs:List AV,yg n xs->vC Y xs=xs
 |[],_=>rfl
 |x::xs,h=>by rw[vC,aoN hf x h.1,KV hf xs h.2]
theorem apk{Y:Nat->Nat}{n:Nat}(hf:∀l,l<n->Y l=l):∀xs:List (List AV),Pe n xs->JX Y xs=xs
 |[],_=>rfl
 |x::xs,h=>by rw[JX,KV hf x h.1,apk hf xs h.2]
end
theorem aFV(hf:∀l,l<n->Y l=l)(x:lw)(h:uJ n x):x.s8 Y=x:=by
 cases x with
 |cells cs=>simp only[lw.s8,KV hf cs h]
 |nW wT sz rows=>simp only[lw.s8,apk hf rows h]
 |map es=>
  simp only[lw.s8,lw.map.injEq];have h:∀p∈es,p.1.nb n/\p.2.nb n:=h;induction es with
  |nil=>rfl
  |cons p es ih=>
   have hp:=h p (by simp);rw[eb,ih (fun q hq=>h q (by simp [hq])) (fun q hq=>h q (by simp [hq])),aoN hf _ hp.1,aoN hf _ hp.2]
 |loop k lE st xE=>simp only[lw.s8,KV hf lE h]
 |iter s p=>rfl
 |L8 s=>rfl
 |zU=>rfl
def apl {m:Nat}(h:n<=m)(x:lw)(hx:uJ n x):uJ m x:=by
 cases x with
 |cells cs=>exact uT h _ hx
 |nW wT sz rows=>exact as3 h _ hx
 |map es=>exact fun p hp=>⟨AV.am4 h _ (hx p hp).1,AV.am4 h _ (hx p hp).2⟩
 |loop k lE st xE=>exact uT h _ hx
 |iter s p=>trivial
 |L8 s=>trivial
 |zU=>trivial
def tau(n l:Nat):Nat:=if l=n then n+1 else if l=n+1 then n else l
theorem atg(n l:Nat):tau n (tau n l)=l:=by grind [tau]
theorem akH(h:l<n):tau n l=l:=by grind [tau]
theorem aIX(h:l<n+2):tau n l<n+2:=by grind [tau]
def az1{W:Type}{H:List W}{x y z:W}(h:(H++[x]++[y])[l]? =some z):(H++[y]++[x])[tau H.length l]? =some z:=by
 have hl:l<H.length+2:=by grind
 rw[List.append_assoc]at h ⊢;by_cases h1:l<H.length
 ·grind [akH]
 ·rw[cQ (by omega)]at h;by_cases h2:l=H.length
  ·simp_all [tau]
  ·have h3:l=H.length+1:=by omega
   simp_all [tau]
def pW.swap{C:tC}{w:aPB}{s:List AV}{x y:lw}(hdf:axY H.length df)(MN:low<=H.length)(hH:∀z∈H,uJ H.length z)(hx:uJ 0 x)(hy:uJ 0 y)
 (S:pW C U ⟨s,H++[x]++[y],low,df⟩ a w):pW C (fun l=>U (tau H.length l)) ⟨vC (tau H.length) s,H++[y]++[x],low,df⟩ a w:=by
 have aOQ:∀z∈H++[x]++[y],uJ H.length z:=by
  intro z hz;simp only[cO,List.mem_singleton]at hz;rcases hz with(hz|rfl)|rfl
  ·exact hH z hz
  ·exact apl (dN _) _ hx
  ·exact apl (dN _) _ hy
 have ape:∀(l:Nat)(z:lw),(H++[y]++[x])[l]? =some z->(H++[x]++[y])[tau H.length l]? =some z:=fun l z h=>az1 h
 have fwd:∀(l:Nat)(z:lw),(H++[x]++[y])[l]? =some z->(H++[y]++[x])[tau H.length l]? =some z:=fun l z h=>az1 h
 have QT:∀b o,KR (fun l=>U (tau H.length l)) (H++[y]++[x]) b o↔KR U (H++[x]++[y]) b o:=by
  intro b o;constructor
  ·rintro⟨l,z,hz,hm⟩;exact⟨_,z,ape l z hz,hm⟩
  ·rintro⟨l,z,hz,hm⟩;refine⟨_,z,fwd l z hz,?_⟩;simp only[atg];exact hm
 have s8:akG (H.length+2) (tau H.length) (C.env U (H++[x]++[y]) w) (C.env (fun l=>U (tau H.length l)) (H++[y]++[x]) w):=by
  refine⟨fun l hl=>?_,fun l hl=>?_,fun b o u hm hc=>⟨?_,hc⟩,GD _⟩
  all_goals grind [tC.env,aIX,atg]
 have FE:vW C (fun l=>U (tau H.length l)) (H++[y]++[x]) w df a.defers:=S.defers.auM (fun xs vs ⟨f,hf⟩ r=>by
  have:=l9.s8 s8 xs vs (uT (by omega) _ (hdf _ hf)) r
  rwa [KV (fun l hl=>akH hl) xs (hdf _ hf)]at this) (fun _ _ _=>rfl) (fun l z b hz hb=>.inl ⟨_,z,ape l z hz,hb⟩)
 refine {lE:=?_,defers:=FE,qJ:=?_,apart:=?_,wZ:=?_,size:=S.size,old:=S.old,qE:=S.qE,F2:=?_,AH:=S.AH,rest:=S.rest,low:=⟨S.low.1,by grind⟩,mZ:=?_}
 ·refine l9.s8 s8 _ _ ?_ S.lE;have:=l9.nb _ _ S.lE;simpa [tC.env] using this
 ·intro l z hz;have h1:=ape l z hz;have hm:=aOQ z (dh h1);have:=qV.s8 s8 (apl (by omega) _ hm) (fun _ _=>rfl) (S.qJ _ z h1);rw[aFV (fun l hl=>akH hl) z hm]at this;exact this
 ·intro l l' z z' b hz hz' hb uD;have:=S.apart _ _ z z' b (ape l z hz) (ape l' z' hz') hb uD
  grind [atg]
 ·intro l z b o hz hb;exact S.wZ _ z b o (ape l z hz) hb
 ·intro l z b o hz hm;exact S.F2 _ z b o (ape l z hz) hm
 ·intro l hl;have hN:C.N0=low:=S.low.1;have q9:l<H.length:=by omega
  have:=S.mZ l hl
  grind [akH]
def ath{x:lw}(r:qV E x h)(hx: ∀wT sz rows,x= .nW wT sz rows->(∃base n cap,h= .slice base n cap/\cap≠0/\base≠none)\/rows=[]):uJ E.n x:=by
 cases x with
 |cells cs=>obtain⟨_,_,_,_,_,rl,_⟩:=r;exact l9.nb _ _ rl
 |nW wT sz rows=>
  rcases hx wT sz rows rfl with⟨base,n,cap,rfl,hc,hb⟩|rfl
  ·obtain⟨aKY,aKZ,h1,h2,h3,h4,h5⟩:=r;simp only[Value.slice.injEq]at h1;obtain⟨rfl,rfl,rfl⟩:=h1;cases base with
   |none=>exact absurd rfl hb
   |some a0=>
    obtain⟨_,c,t,_,_,rl,_⟩:=h5 a0 rfl hc;have hn:=l9.nb _ _ rl
    have key:∀rows:List (List AV),yg E.n rows.flatten->Pe E.n rows:=by
     intro rows;induction rows with
     |nil=>intro _;trivial
     |cons q rs ih=>
      intro this;simp only[dc]at this
      have split:∀(p q:List AV),yg E.n (p++q)->yg E.n p/\yg E.n q:=by
       intro p;induction p with
       |nil=>intro q h;exact⟨trivial,h⟩
       |cons z p ihp=>intro q h;exact⟨⟨h.1,(ihp q h.2).1⟩,(ihp q h.2).2⟩
      exact⟨(split _ _ this).1,ih (split _ _ this).2⟩
    exact key rows hn
  ·trivial
 |map es=>obtain⟨_,_,_,_,_,rp⟩:=r;exact uv.nb rp
 |loop k lE st xE=>obtain⟨_,_,_,_,_,_,rl⟩:=r;exact l9.nb _ _ rl
 |iter s p=>trivial
 |L8 s=>trivial
 |zU=>trivial
def abx{x:lw}(r:qV E x h):uJ E.n x:=by
 refine ath r ?_;rintro wT sz rows rfl;obtain⟨base,cap,rfl,h2,h3,_⟩:=r;cases base with
 |none=>
  simp_all
 |some a0=>
  by_cases hc:cap=0
  ·simp_all
  grind
def avd(w:aPB)(h:ou P t=some z):yg 0 z:=by
 obtain⟨v,_,hr,_⟩:=al4 (w:=w) h;exact l9.nb _ _ (hr {w,mu:=fun _ _=>False,U:=fun _=>.tuple #[],ln:=fun _=>none,n:=0})
section

theorem aeU(h:adm o=true):∃t,o.op=.alloc t/\o.guard=none/\ako t=false:=by
 grind [adm,Option.isNone_iff_eq_none]
def xS(n:Nat)(z:List AV):yO:={val:=.ptr n 0,nw:=[.cells z]}
def anf(ho:o.op=.alloc t)(hg:o.guard=none/\ako t=false)(hz:ou P t=some z):Cf P lR o J (fun e=>e=xS J.heap.length z):=by
 refine .inr (.inl ⟨?_,?_,xS J.heap.length z,?_,?_,fun _=>ct⟩)
 ·unfold tH;rw[hg.1]
 ·rw[ho];rfl
 ·rw[ho];simp only[nf,hz,Pg,zB,hg.2];rfl
 ·exact trivial
def Ny(ho:o.op=.alloc t)(hg:o.guard=none/\ako t=false)(h:Cf P lR o J S):∃z,ou P t=some z/\∀e,S e↔e=xS J.heap.length z:=by
 rcases h with⟨hw,_⟩|⟨_,_,e,he,_,h⟩|⟨_,f,args,V,hc,_⟩|⟨_,f,args,e,hc,_⟩
 ·grind [tH]
 ·rw[ho]at he;simp only[nf]at he;split at he
  ·rename_i z hz;simp only[Pg,zB,hg.2,kQ,ck]at he;subst he;exact⟨z,hz,h⟩
  ·cases he
 ·rw[ho]at hc;cases hc
 ·rw[ho]at hc;cases hc
theorem KW{p q:Nat}(h:agt lR p q=true):p<q/\(∃op oq tp tq,lR[p]? =some op/\lR[q]? =some oq/\op.op=.alloc tp/\oq.op=.alloc tq/\(op.guard=none/\ako tp=false)/\(oq.guard=none/\ako tq=false)/\ED op=[]/\ED oq=[])/\
 ∀k o,lR[k]? =some o->k≠p->k≠q->akC o.op=true/\sP lR p k=sP lR q k:=by
 unfold agt at h;split at h
 ·rename_i op oq hp hq;simp only[cC,kU,List.isEmpty_iff]at h;obtain⟨⟨⟨⟨⟨h1,h2⟩,h3⟩,h4⟩,h5⟩,h6⟩:=h;obtain⟨tp,a1,a2⟩:=aeU h1
  grind [aeU]
 ·cases h
theorem NH(h1:sP lR i j=false)(h2:agt lR i j=false):anN lR i j=false:=by
 unfold anN;rw[h1,h2];rfl
theorem Jm(h:akC op=true):op≠ .alloc t:=by
 rintro rfl;cases h
theorem DJ(h:akC op=true):GK op=false:=by
 cases op<;>first|rfl|(simp [akC]at h)
end
section region
variable {C:tC}
def ar7(o:aPw)(listed:Array Bool):(o.after.all fun e=> !Region.binds .any e||listed.getD e.on false)=true↔ ∀d∈ED o,listed.getD d false=true:=by
 grind [Array.all_eq_true_iff_forall_mem,ED]
theorem Pm(listed:Array Bool)(i:Nat)(hsz:listed.size=lR.size):i∈Region.ready .any lR listed↔i<lR.size/\listed.getD i false=false/\∃o,lR[i]? =some o/\∀d∈ED o,listed.getD d false=true:=by
 unfold Region.ready;simp only[List.mem_filter,List.mem_range];constructor
 ·rintro⟨h1,h2⟩;rw[cC]at h2;have ho:lR[i]? =some lR[i]:=cT h1;refine⟨h1,?_,lR[i],ho,?_⟩
  ·grind
  ·have h3:=h2.2;rw[ho]at h3;simp only[Option.map_some,dA]at h3;exact(ar7 _ _).1 h3
 ·rintro⟨h1,h2,o,ho,h3⟩;refine⟨h1,?_⟩;rw[cC];constructor
  ·grind
  ·rw[ho];simp only[Option.map_some,dA];exact(ar7 _ _).2 h3
def BE(VV:NG lR=true)(hcl:∀j o,lR[j]? =some o->listed.getD j false=true->∀d∈ED o,listed.getD d false=true){r:Nat}(Xe:lR[i]? =some oi)
 (Jl:∀d∈ED oi,listed.getD d false=true) (hq:sP lR r i=true):listed.getD r false=true:=by
 obtain⟨_,abt⟩:=KT VV;exact ane (L:=fun d=>listed.getD d false=true) (all:=lR.toList) (fun j o hj hL=>hcl j o (by simpa using hj) hL) lR.toList [] (by simp) (by simp) (fun k o hk=>(abt k o (by simpa using hk)).1) i oi (by simpa using Xe) Jl r hq
def aO0(Xe:lR[i]? =some oi)(Jl:∀d∈ED oi,listed.getD d false=true)(hcl:∀j o,lR[j]? =some o->listed.getD j false=true->∀d∈ED o,listed.getD d false=true):
 ∀j o,lR[j]? =some o->(listed.setIfInBounds i true).getD j false=true->∀d∈ED o,(listed.setIfInBounds i true).getD d false=true:=by
 intro j o' hj hL d hd;by_cases e:j=i
 ·grind [getD_set_true]
 ·rw[getD_set_ne false (fun e'=>e e'.symm)]at hL
  grind [getD_set_true]
theorem aia(h:i<listed.size):(listed.setIfInBounds i true).getD i false=true:=by
 simp [Array.getD,h]
structure akI(lR:Array aPw)(R:List Nat)(listed:Array Bool):Prop where
 pw:R.Pairwise (· < ·)
 sz:listed.size=lR.size
 mem:∀i,i∈R↔i<lR.size/\listed.getD i false=false
 cl:∀j o,lR[j]? =some o->listed.getD j false=true->∀d∈ED o,listed.getD d false=true
def akI.next{R:List Nat}(F:akI lR R listed)(Xe:lR[i]? =some oi)(Jl:∀d∈ED oi,listed.getD d false=true):akI lR (R.erase i) (listed.setIfInBounds i true):=by
 refine⟨F.pw.erase i,by simpa using F.sz,fun k=>?_,aO0 Xe Jl F.cl⟩;have hnd:R.Nodup:=F.pw.imp (fun h=>dK h);have hi:i<listed.size:=by have:=(dO.1 Xe).1;rw[F.sz];exact this
 rw[hnd.mem_erase_iff,F.mem k];constructor
 ·rintro⟨uP,h1,h2⟩;refine⟨h1,?_⟩;rw[getD_set_ne false (fun e=>uP e.symm)];exact h2
 ·rintro⟨h1,h2⟩
  have uP:k≠i:=by
   grind [aia]
  refine⟨uP,h1,?_⟩;rw[getD_set_ne false (fun e=>uP e.symm)]at h2;exact h2
def aBd (VV:NG lR=true) {p q:Nat} (htw:agt lR p q=true) (fuel:Nat)
 (ape:∀(f:Nat)(R:List Nat)(listed:Array Bool)(U:Nat->aPx)(J:k9)(a:Act)(w:aPB),f<=fuel->R.length=f->akI lR R listed->(p ∉ R)->pW C U J a w->ain C.P lR (Q .normal) R [] J->wpAnyIn (KS ro) 0 C.P .any lR (QC C Q) f listed a w)
 {oq:aPw} {tq:TypeId} {zq:List AV} (hoq:lR[q]? =some oq) (htq:oq.op=.alloc tq) (hgq:oq.guard=none/\ako tq=false) (hzq:ou C.P tq=some zq):
 ∀(f:Nat)(R:List Nat)(listed:Array Bool)(U U0:Nat->aPx)(J:k9)(a a0:Act)(w w0:aPB),f<=fuel->R.length=f+1->R.Pairwise (· < ·)->listed.size=lR.size->p∈R->q∈R->listed.getD q false=true->
 (∀i,i∈R↔i<lR.size/\(listed.getD i false=false\/i=q))->(∀j o,lR[j]? =some o->listed.getD j false=true->∀d∈ED o,listed.getD d false=true)->
 pW C U (J.app oq.dst (xS J.heap.length zq)) a w->pW C U0 J a0 w0->ain C.P lR (Q .normal) R [] J->wpAnyIn (KS ro) 0 C.P .any lR (QC C Q) f listed a w:=by
 obtain⟨hpq,⟨op,oq',tp,tq',hop,aK0,htp,aOt,hgp,aOu,hdp,hdq⟩,axZ⟩:=KW htw;rw[hoq]at aK0;cases aK0;obtain⟨_,abt⟩:=KT VV;intro f;induction f with
 |zero=>
  intro R listed U U0 J a a0 w w0 hf hlen hpw hsz hpR hqR hlq hR hcl S S0 h;exfalso
  match R,hlen with
  |[x],_=>
   grind
 |succ f ih=>
  intro R listed U U0 J a a0 w w0 hf hlen hpw hsz hpR hqR hlq hR hcl S S0 h;have hnd:R.Nodup:=hpw.imp (fun h=>dK h)
  have hpl:listed.getD p false=false:=by
   grind
  have hps:p<lR.size:=((hR p).1 hpR).1;refine⟨?_,?_⟩
  ·grind [Pm]
  ·intro i hi;rw[Pm listed i hsz]at hi;obtain⟨hi1,hi2,oi,Xe,Jl⟩:=hi;have hiq:i≠q:=by grind
   have hiR:i∈R:=(hR i).2 ⟨hi1,.inl hi2⟩
   have apm:∀r∈R,sP lR r i=false:=by
    intro r hr;cases hq':sP lR r i with
    |false=>rfl
    |true=>
     exfalso;have hl:=BE VV hcl Xe Jl hq';rcases ((hR r).1 hr).2 with h|h
     ·rw[hl]at h;cases h
     ·subst h;by_cases e:i=p
      ·subst e;rw[hop]at Xe;cases Xe;have:=BE VV (listed:=cw lR.size false) (by grind [rj]) hop (by rw[hdp];intro d hd;cases hd) hq'
       simp_all
      ·have:=(axZ i oi Xe e hiq).2;rw[hq']at this;have hl:=BE VV hcl Xe Jl this;rw[hpl]at hl;cases hl
   by_cases eip:i=p
   ·
    subst eip;rw[hop]at Xe;cases Xe
    have hno:∀r∈R,r<i->anN lR r i=false:=by
     grind [NH,KW,Jm]
    obtain⟨o1,E1,ho1,ati,hE1⟩:=au7 VV h hiR hpw hno;rw[hop]at ho1;cases ho1;obtain⟨zp,hzp,hd1⟩:=Ny htp hgp ati;obtain⟨_,h1⟩:=hE1 _ ((hd1 _).2 rfl);have aIY:q∈R.erase i:=(hnd.mem_erase_iff).2 ⟨by omega,hqR⟩
    obtain⟨o2,E2,ho2,aIZ,hE2⟩:=au7 VV h1 aIY (hpw.erase i) (by
     intro r hr q9;have hr':=dH hr;have hri:r≠i:=fun e=>by grind
     refine NH ?_ ?_
     ·cases ho':sP lR r q with
      |false=>rfl
      |true=>
       exfalso;have:=BE VV (listed:=cw lR.size false) (by grind [rj]) hoq (by rw[hdq];intro d hd;cases hd) ho'
       simp_all
     grind [KW,Jm])
    rw[hoq]at ho2;cases ho2;obtain⟨zq',aK1,hd2⟩:=Ny htq hgq aIZ;rw[hzq]at aK1;cases aK1;obtain⟨_,h2⟩:=hE2 _ ((hd2 _).2 rfl);refine RZ S hop (anf htp hgp hzp) ?_;rintro e U' v w' rfl S'
    have hoQ:sP lR i q=false:=by
     cases ho':sP lR i q with
     |false=>rfl
     |true=>
      exfalso;have:=BE VV (listed:=cw lR.size false) (by grind [rj]) hoq (by rw[hdq];intro d hd;cases hd) ho'
      simp_all
    obtain⟨apg,_⟩:=(abt q oq hoq).2 i op hpq hop hoQ;obtain⟨_,ap2,_⟩:=dl apg;have hsl:yg J.heap.length J.lE:=l9.nb _ _ S0.lE
    have hob:∀z∈J.heap,uJ J.heap.length z:=by
     intro z hz;obtain⟨l,hl⟩:=dZ hz;exact abx (S0.qJ l z hl)
    have S2:=pW.swap (s:=((J.app oq.dst (xS J.heap.length zq)).app op.dst (xS (J.app oq.dst (xS J.heap.length zq)).heap.length zp)).lE) (H:=J.heap) (x:=.cells zq) (y:=.cells zp) (low:=J.low) (df:=J.df) (SQ.nb S0.defers.2.2) S0.low.2 hob (avd w0 hzq) (avd w0 hzp) (by
     have e:(J.app oq.dst (xS J.heap.length zq)).app op.dst (xS (J.app oq.dst (xS J.heap.length zq)).heap.length zp)=⟨((J.app oq.dst (xS J.heap.length zq)).app op.dst (xS (J.app oq.dst (xS J.heap.length zq)).heap.length zp)).lE,J.heap++[.cells zq]++[.cells zp],J.low,J.df⟩:=by
      cases oq.dst<;>cases op.dst<;>simp [k9.app,k9.put,xS,pI]
     rw[<-e];exact S')
    have e2:(⟨vC (tau J.heap.length) ((J.app oq.dst (xS J.heap.length zq)).app op.dst (xS (J.app oq.dst (xS J.heap.length zq)).heap.length zp)).lE,J.heap++[.cells zp]++[.cells zq],J.low,J.df⟩:k9)
     =(J.app op.dst (xS J.heap.length zp)).app oq.dst (xS (J.app op.dst (xS J.heap.length zp)).heap.length zq):=by
     have aI0:=KV (Y:=tau J.heap.length) (fun l hl=>akH hl) J.lE hsl
     have ax0:∀(d:Nat)(c:AV)(cs:List AV),vC (tau J.heap.length) (cs.set d c)=(vC (tau J.heap.length) cs).set d (c.s8 (tau J.heap.length)):=by
      intro d c cs;induction cs generalizing d with
      |nil=>simp [vC]
      |cons x cs ih=>cases d with
       |zero=>simp [vC]
       |succ d=>simp [vC,ih]
     have aK2:(J.app oq.dst (xS J.heap.length zq)).heap.length=J.heap.length+1:=by simp [k9.app,xS,pI]
     have aK3:(J.app op.dst (xS J.heap.length zp)).heap.length=J.heap.length+1:=by simp [k9.app,xS,pI]
     have t0:tau J.heap.length J.heap.length=J.heap.length+1:=by simp [tau]
     have t1:tau J.heap.length (J.heap.length+1)=J.heap.length:=by simp [tau]
     rw[aK2,aK3];cases h1:oq.dst with
     |none=>cases h2:op.dst with
      |none=>simp [k9.app,k9.put,xS,pI,aI0]
      |some dp=>grind [k9.app,k9.put,xS,pI,AV.s8]
     |some dq=>cases h2:op.dst with
      |none=>grind [k9.app,k9.put,xS,pI,AV.s8]
      |some dp=>
       grind [k9.app,k9.put,xS,pI,AV.s8,dy]
    rw[e2]at S2
    have hF:akI lR ((R.erase i).erase q) (listed.setIfInBounds i true):=by
     refine⟨(hpw.erase i).erase q,by simpa using hsz,fun k=>?_,aO0 hop Jl hcl⟩;have aNk:(R.erase i).Nodup:=hnd.erase i;rw[aNk.mem_erase_iff,hnd.mem_erase_iff,hR k];constructor
     ·rintro⟨uP,aNl,h1,h2⟩;refine⟨h1,?_⟩;rw[getD_set_ne false (fun e=>aNl e.symm)]
      grind
     ·rintro⟨h1,h2⟩
      have uP:k≠i:=by
       grind [aia]
      rw[getD_set_ne false (fun e=>uP e.symm)]at h2
      grind
    grind
   ·
    obtain⟨hqi,_⟩:=axZ i oi Xe eip hiq
    have hno:∀r∈R,r<i->anN lR r i=false:=by
     intro r hr q9;refine NH (apm r hr) ?_;cases ht:agt lR r i with
     |false=>rfl
     |true=>
      exfalso;obtain⟨_,⟨_,o1,_,t1,_,ho1,_,ht1,_⟩,_⟩:=KW ht;rw[Xe]at ho1;cases ho1;exact Jm hqi ht1
    obtain⟨o1,E1,ho1,ati,hE1⟩:=au7 VV h hiR hpw hno;rw[Xe]at ho1;cases ho1
    have hnw:∀e,E1 e->e.nw=[]:=by
     intro e he;rcases ati with⟨_,h⟩|⟨_,_,e',he',_,h⟩|⟨_,f',args,V,hc,_,_,_⟩|⟨_,f',args,_,hc,_,_⟩
     ·rw[(h e).1 he]
     ·rw[(h e).1 he];exact aC8 hqi he'
     ·exfalso;have:=DJ hqi;unfold pZ at hc;split at hc
      ·rename_i ho';rw[ho']at this;simp [GK]at this
      ·cases hc
     ·exfalso;have:=DJ hqi;unfold pZ at hc;split at hc
      ·rename_i ho';rw[ho']at this;simp [GK]at this
      ·cases hc
    have hwh:∀e,E1 e->e.whole=false:=by
     intro e he;rcases ati with⟨_,h⟩|⟨_,_,e',he',_,h⟩|⟨_,f',args,V,hc,_,_,_⟩|⟨_,f',args,_,hc,_,_⟩
     ·rw[(h e).1 he]
     ·rw[(h e).1 he];exact aC9 hqi he'
     ·exfalso;have:=DJ hqi;unfold pZ at hc;split at hc
      ·rename_i ho';rw[ho']at this;simp [GK]at this
      ·cases hc
     ·exfalso;have:=DJ hqi;unfold pZ at hc;split at hc
      ·rename_i ho';rw[ho']at this;simp [GK]at this
      ·cases hc
    have hap:(∀d,oq.dst=some d->d ∉ oi.looksAt lR)/\(∀d,oi.dst=some d->oq.dst≠some d):=by
     rcases Nat.lt_or_gt_of_ne hiq with q9|hgt
     ·have ho':sP lR i q=false:=by
       cases ho':sP lR i q with
       |false=>rfl
       |true=>
        exfalso;have:=BE VV (listed:=cw lR.size false) (by intro j o _ hj;rw[rj]at hj;cases hj) hoq (by rw[hdq];intro d hd;cases hd) ho';rw[rj]at this;cases this
      obtain⟨hap,_⟩:=(abt q oq hoq).2 i oi q9 Xe ho';obtain⟨x1,x2,x3⟩:=dl hap;exact⟨x3,x2⟩
     ·obtain⟨hap,_⟩:=(abt i oi Xe).2 q oq hgt hoq (apm q hqR);obtain⟨x1,x2,x3⟩:=dl hap;exact⟨x1,fun d hd hd'=>x2 d hd' hd⟩
    have aC5:∀e,E1 e->GL ⟨i,J.heap.length,e⟩ (xS J.heap.length zq)=true:=by
     intro e he;simp [GL,xS,N7,hnw e he,hwh e he]
    have hfw:Cf C.P lR oi (J.app oq.dst (xS J.heap.length zq)) E1:=ati.fwd (j:=i) hap.1 aC5;refine RZ S Xe hfw ?_;intro e U' v w' he S';obtain⟨_,xn⟩:=hE1 e he;have aC6:=au6 (d:=oi.dst) (d':=oq.dst) (j:=i) hap.2 (aC5 e he) (ati.lt he).2 (by simp [xS]);have hle:(J.app oi.dst e).heap.length=J.heap.length:=by simp [k9.app,hnw e he,yo]
    rw[<-aC6]at S'
    have hg:∃U1 a1 w1,pW C U1 (J.app oi.dst e) a1 w1:=by
     rcases ati with⟨_,h⟩|⟨_,_,e',he',hp,h⟩|⟨_,f',args,V,hc,_,_,_⟩|⟨_,f',args,_,hc,_,_⟩
     ·rw[(h e).1 he,Pj];exact⟨U0,_,w0,S0.put oi.dst (v:=undef) rfl⟩
     ·rw[(h e).1 he];obtain⟨_,v1,w1,U1,_,_,S1⟩:=aOY S0 he' hp;exact⟨U1,_,w1,S1⟩
     ·exfalso;have:=DJ hqi;unfold pZ at hc;split at hc
      ·rename_i ho';rw[ho']at this;simp [GK]at this
      ·cases hc
     ·exfalso;have:=DJ hqi;unfold pZ at hc;split at hc
      ·rename_i ho';rw[ho']at this;simp [GK]at this
      ·cases hc
    obtain⟨U1,a1,w1,S1⟩:=hg;rw[<-hle]at S';refine ih (R.erase i) _ U' U1 (J.app oi.dst e) _ a1 w' w1 (by omega) ?_ (hpw.erase i) (by simpa using hsz) ((hnd.mem_erase_iff).2 ⟨fun e'=>eip e'.symm,hpR⟩) ((hnd.mem_erase_iff).2 ⟨fun e'=>hiq e'.symm,hqR⟩) ?_ ?_ (aO0 Xe Jl hcl) S' S1 xn
    ·rw[dQ hiR];omega
    ·exact getD_set_true hlq
    ·intro k;rw[hnd.mem_erase_iff,hR k];constructor
     ·rintro⟨uP,h1,h2⟩;refine⟨h1,?_⟩;rw[getD_set_ne false (fun e=>uP e.symm)];exact h2
     ·rintro⟨h1,h2⟩
      have uP:k≠i:=by
       intro e';subst e';rcases h2 with h2|h2
       ·rw[aia (by rw[hsz];exact hi1)]at h2;cases h2
       ·exact hiq h2
      refine⟨uP,h1,?_⟩;rw[getD_set_ne false (fun e=>uP e.symm)]at h2;exact h2
def aDa (VV:NG lR=true): ∀ (fuel:Nat) (R:List Nat) (listed:Array Bool) (U:Nat->aPx) (J:k9) (a:Act) (w:aPB),R.length=fuel->akI lR R listed->
 pW C U J a w->ain C.P lR (Q .normal) R [] J->wpAnyIn (KS ro) 0 C.P .any lR (QC C Q) fuel listed a w:=by
 obtain⟨_,abt⟩:=KT VV;intro fuel;induction fuel using Nat.strongRecOn with
 |ind fuel ih=>
  intro R listed U J a w hl F S h;have hpw:=F.pw;have hsz:=F.sz;have hR:=F.mem;have hnd:R.Nodup:=hpw.imp (fun h=>dK h);cases fuel with
  |zero=>
   have hR0:R=[]:=cN hl;subst hR0;refine⟨?_,U,J,S,h⟩;rw[List.eq_nil_iff_forall_not_mem];intro i hi;rw[Pm listed i hsz]at hi;have:=(hR i).2 ⟨hi.1,hi.2.1⟩;simp at this
  |succ fuel=>
   refine⟨?_,?_⟩
   ·intro ax1;exfalso;cases R with
    |nil=>simp at hl
    |cons r R=>
     have hr:=(hR r).1 (by simp);have ho:lR[r]? =some lR[r]:=cT hr.1
     have:r∈Region.ready .any lR listed:=by
      rw[Pm listed r hsz];refine⟨hr.1,hr.2,_,ho,fun d hd=>?_⟩;have hdr:=(abt r _ ho).1 d hd;cases hld:listed.getD d false with
      |true=>rfl
      |false=>
       have hdR:=(hR d).2 ⟨by omega,hld⟩;rw[cY]at hpw;simp only[cP]at hdR;rcases hdR with rfl|hdR
       ·omega
       ·have:=hpw.1 d hdR;omega
     rw[ax1]at this;simp at this
   ·intro i hi;rw[Pm listed i hsz]at hi;obtain⟨hi1,hi2,oi,Xe,Jl⟩:=hi;have hiR:=(hR i).2 ⟨hi1,hi2⟩
    have apm:∀r∈R,sP lR r i=false:=by
     intro r hr;cases hq:sP lR r i with
     |false=>rfl
     |true=>
      exfalso;have:=BE VV F.cl Xe Jl hq;have hr':=((hR r).1 hr).2;rw[hr']at this;cases this
    by_cases htw:∃p∈R,agt lR p i=true
    ·obtain⟨p,hpR,htw⟩:=htw;obtain⟨hpi,⟨op,oq,tp,tq,hop,hoq,htp,htq,hgp,hgq,hdp,hdq⟩,axZ⟩:=KW htw;rw[Xe]at hoq;cases hoq;have hpl:=((hR p).1 hpR).2
     obtain⟨o1,E1,ho1,ati,hE1⟩:=au7 VV h hpR hpw (by
      intro r hr q9;refine NH ?_ ?_
      ·cases ho':sP lR r p with
       |false=>rfl
       |true=>
        exfalso;have:=BE VV (listed:=cw lR.size false) (by intro j o _ hj;rw[rj]at hj;cases hj) hop (by rw[hdp];intro d hd;cases hd) ho';rw[rj]at this;cases this
      ·cases ht:agt lR r p with
       |false=>rfl
       |true=>
        exfalso;obtain⟨_,⟨o1,_,t1,_,ho1,_,ht1,_⟩,_⟩:=KW ht;exact Jm (axZ r o1 ho1 (by omega) (by omega)).1 ht1)
     rw[hop]at ho1;cases ho1;obtain⟨zp,hzp,hd1⟩:=Ny htp hgp ati;obtain⟨_,h1⟩:=hE1 _ ((hd1 _).2 rfl);have aIY:i∈R.erase p:=(hnd.mem_erase_iff).2 ⟨by omega,hiR⟩
     obtain⟨o2,E2,ho2,aIZ,hE2⟩:=au7 VV h1 aIY (hpw.erase p) (by
      intro r hr q9;have hr':=dH hr;have hrp:r≠p:=fun e=>by subst e;exact(hnd.not_mem_erase) hr
      refine NH (apm r hr') ?_;cases ht:agt lR r i with
      |false=>rfl
      |true=>
       exfalso;obtain⟨_,⟨o1,_,t1,_,ho1,_,ht1,_⟩,_⟩:=KW ht;exact Jm (axZ r o1 ho1 hrp (by omega)).1 ht1)
     rw[Xe]at ho2;cases ho2;obtain⟨zq,hzq,_⟩:=Ny htq hgq aIZ;refine RZ S Xe (anf htq hgq hzq) ?_;rintro e U' v w' rfl S';refine aBd VV htw fuel (fun f R' aFW U' J' a' w' hf hl' F' _ S' h'=>ih f (by omega) R' aFW U' J' a' w' hl' F' S' h') Xe htq hgq hzq fuel R _ U' U J _ a w' w (cv _) hl hpw (by simpa using hsz) hpR hiR (aia (by rw[hsz];exact hi1)) ?_ (aO0 Xe Jl F.cl) S' S h;intro k;rw[hR k];by_cases hk:k=i
     ·subst hk;constructor
      ·rintro⟨h1,_⟩;exact⟨h1,.inr rfl⟩
      ·rintro⟨h1,_⟩;exact⟨h1,hi2⟩
     ·rw[getD_set_ne false (fun e=>hk e.symm)];constructor
      ·rintro⟨h1,h2⟩;exact⟨h1,.inl h2⟩
      ·rintro⟨h1,h2|h2⟩
       ·exact⟨h1,h2⟩
       ·exact absurd h2 hk
    ·have hno:∀r∈R,r<i->anN lR r i=false:=by
      intro r hr _;refine NH (apm r hr) ?_;cases ht:agt lR r i with
      |false=>rfl
      |true=>exact absurd ⟨r,hr,ht⟩ htw
     obtain⟨o,E,ho,hst,hE⟩:=au7 VV h hiR hpw hno;refine RZ S ho hst ?_;intro e U' v w' he S';obtain⟨_,xn⟩:=hE e he;refine ih fuel (by omega) (R.erase i) _ U' _ _ w' ?_ (F.next Xe Jl) S' xn;rw[dQ hiR];omega
def ax2{w:aPB}{id:Nat}(hm:C.P.follows .mixedOrders=true)(VV:NG lR=true)(h:ain C.P lR (Q .normal) (cG lR.size) [] J)(S:pW C U J a w):
 (Code.region id lR true).wpIn (KS ro) 0 C.P (QC C Q) a w:=by
 refine wpIn_region_any hm ?_;refine aDa VV lR.size (cG lR.size) _ U J a _ (by simp) ⟨dw,by simp,?_,?_⟩ (S.drew _) h
 ·intro i;simp only[List.mem_range];constructor
  ·intro hi;exact⟨hi,rj _ _⟩
  ·exact fun h=>h.1
 ·intro j o hj hL;rw[rj]at hL;cases hL
end region
section
variable {c:Nat}
def apn(P:aPA)(f:aPz)(args:List AV)(H:List lw)(x:AV)(H':List lw):Prop:=∀J':k9,J'.heap=H->ER P f args J' (fun o H2=>o=.panic x/\H2=H')
def ave(P:aPA)(lR:Array aPw)(c:Nat)(H:List lw)(x:AV)(H':List lw)(j:Nat)(o:aPw)(J:k9)(v:AV):Prop:=
 J.heap=H/\((j=c/\tH lR o J=some true/\∃f args,pZ J o.op=some (f,args)/\apn P f args H x H')\/
   sP lR c j=true\/
   (j≠c/\∃e:yO,e.up=[]/\e.nw=[]/\e.val=v/\Cf P lR o J (fun e'=>e'=e)))
def ax3(P:aPA)(lR:Array aPw)(c:Nat)(H:List lw)(x:AV)(H':List lw):List Nat->k9->Prop
 |[],_=>True
 |j::rest,J=>∃o v,lR[j]? =some o/\ave P lR c H x H' j o J v/\ax3 P lR c H x H' rest (J.put o.dst v)
theorem Xg(J:k9)(d:Option Tmp)(v:AV):(J.put d v).heap=J.heap:=by cases d<;>rfl
theorem aDb{y:aPC}(h:∀t,d=some t->y≠ .tmp t):(J.put d v).ev y=J.ev y:=by
 have:=axX (J:=J) (dst:=d) (e:={val:=v}) h
 rwa [Pj]at this
theorem ar8{t:Nat}(h:∀t',d=some t'->t≠t'):(J.put d v).lE[t]? =J.lE[t]? :=by
 have:=amb (J:=J) (dst:=d) (e:={val:=v}) h
 rwa [Pj]at this
theorem aDc {d':Option Tmp}{v':AV}(h:∀t,d=some t->d'≠some t):(J.put d v).put d' v'=(J.put d' v').put d v:=by
 cases d with
 |none=>cases d'<;>rfl
 |some t=>cases d' with
  |none=>rfl
  |some t'=>
   grind [k9.put,dy]
def ave.move(h:ave P lR c H x H' j o J v)(hh:J'.heap=J.heap)(hev:∀y∈o.op.operands,J'.ev y=J.ev y)(hw:tH lR o J'=tH lR o J):ave P lR c H x H' j o J' v:=by
 obtain⟨h0,h⟩:=h;refine⟨hh.trans h0,?_⟩;rcases h with⟨h1,h2,f,args,h3,h4⟩|h1|⟨h1,e,h2,h3,h4,h5⟩
 ·grind [Pl]
 ·exact .inr (.inl h1)
 ·exact .inr (.inr ⟨h1,e,h2,h3,h4,h5.local hev hw (fun _ _=>⟨⟨fun _ _=>by rw[hh],fun _=>by rw[hh]⟩,fun _=>hh⟩)⟩)
def aIs(VV:NG lR=true){i:Nat}: ∀{R:List Nat}{J:k9},ax3 P lR c H x H' R J->i∈R->R.Pairwise (· < ·)->(∀r∈R,r<i->sP lR r i=false)->
 ∃o v,lR[i]? =some o/\ave P lR c H x H' i o J v/\ax3 P lR c H x H' (R.erase i) (J.put o.dst v)
 |[],_,_,hi,_,_=>by simp at hi
 |r::R,J,⟨or',vr,hor,hst,h⟩,hi,hpw,au8=>by
  by_cases e:r=i
  ·grind
  ·have hiR:i∈R:=by
    grind
   rw[cY]at hpw;have hri:r<i:=hpw.1 i hiR;obtain⟨oi,v,Xe,aNm,hr⟩:=aIs VV h hiR hpw.2 (fun q hq q9=>au8 q (by simp [hq]) q9);obtain⟨_,abt⟩:=KT VV;obtain⟨apg,_⟩:=(abt i oi Xe).2 r or' hri hor (au8 r (by simp) hri);obtain⟨a1,a2,a3⟩:=dl apg;refine⟨oi,v,Xe,aNm.move (Xg _ _ _).symm (fun y hy=>?_) (SB fun k b d hg hd=>?_),?_⟩
   ·grind [aDb,SC]
   ·grind [ar8,aOZ]
   ·have uP:(r::R).erase i=r::R.erase i:=dY (by simpa using e);rw[uP];refine⟨or',vr,hor,hst.move (Xg _ _ _) (fun y hy=>?_) (SB fun k b d hg hd=>?_),?_⟩
    ·grind [aDb,SC]
    ·grind [ar8,aOZ]
    grind [aDc]
def apo:List aPw->List AV->List AV
 |[],s=>s
 |o::os,s=>apo os (match o.dst with|some d=>s.set d .any|none=>s)
def avf(lR:Array aPw)(c:Nat):Bool:=(match lR[c]? with|some o=>GK o.op|none=>false)&&
 (cG lR.size).all fun i=>if i<c then sP lR i c else if i=c then true else sP lR c i
def aBe{c:Nat}(h:avf lR c=true):(∀i,i<c->i<lR.size->sP lR i c=true)/\(∀i,c<i->i<lR.size->sP lR c i=true)/\∃o,lR[c]? =some o/\GK o.op=true:=by
 grind [avf]
def ado(lR:Array aPw)(s:List AV):List AV:=apo lR.toList s
def ame: ∀(L:List aPw)(s:List AV)(d:Nat)(v:AV),(∃o∈L,o.dst=some d)->apo L (s.set d v)=apo L s
 |[],_,_,_,⟨_,h,_⟩=>by simp at h
 |o::L,s,d,v,h=>by
  simp only[apo];cases hd:o.dst with
  |none=>
   simp only;refine ame L s d v ?_
   grind
  |some t=>
   simp only;by_cases e:t=d
   ·subst e;rw[List.set_set]
   ·rw[dy _ _ (fun h=>e h.symm)];refine ame L _ d v ?_
    grind
theorem avg(ho:lR[i]? =some o)(v:AV):ado lR (J.put o.dst v).lE=ado lR J.lE:=by
 cases hd:o.dst with
 |none=>rfl
 |some d=>
  refine ame _ _ d v ⟨o,?_,hd⟩
  grind
def l9.aDd:∀{cs:List AV}{vs:List aPx}(d:Nat),l9 E cs vs->l9 E (cs.set d .any) vs
 |[],_,_,h=>h
 |_::_,_,0,⟨v,us,rfl,_,r⟩=>⟨v,us,rfl,trivial,r⟩
 |_::_,_,d+1,⟨v,us,rfl,h1,r⟩=>⟨v,us,rfl,h1,l9.aDd d r⟩
def amf{E:HI}:∀(L:List aPw){cs:List AV}{vs:List aPx},l9 E cs vs->l9 E (apo L cs) vs
 |[],_,_,h=>h
 |o::L,cs,vs,h=>by
  simp only[apo];cases o.dst with
  |none=>exact amf L h
  |some d=>exact amf L (l9.aDd d h)
end
section region
variable {C:tC}
def pW.ado{U:Nat->aPx}{J:k9}{a:Act}{w:aPB}(S:pW C U J a w)(lR:Array aPw):pW C U {J with lE:=ado lR J.lE} a w:={S with lE:=amf _ S.lE,defers:=S.defers}
def aDe(VV:NG lR=true){c:Nat}{s0:List AV}(hQ:Q (.panic x) {lE:=ado lR s0,heap:=H',low,df}):
 ∀(fuel:Nat)(R:List Nat)(listed:Array Bool)(U:Nat->aPx)(J:k9)(a:Act)(w:aPB),R.length=fuel->akI lR R listed->c∈R->
 pW C U J a w->ado lR J.lE=ado lR s0->J.low=low->J.df=df->ax3 C.P lR c H x H' R J->wpAnyIn (KS ro) 0 C.P .any lR (QC C Q) fuel listed a w:=by
 obtain⟨_,abt⟩:=KT VV;intro fuel;induction fuel with
 |zero=>
  grind
 |succ fuel ih=>
  intro R listed U J a w hl F hc S hs MN hdf h;have hpw:=F.pw;have hsz:=F.sz;have hR:=F.mem;have hnd:R.Nodup:=hpw.imp (fun h=>dK h);refine⟨?_,?_⟩
  ·intro ax1;exfalso;cases R with
   |nil=>simp at hl
   |cons r R=>
    have hr:=(hR r).1 (by simp);have ho:lR[r]? =some lR[r]:=cT hr.1
    have:r∈Region.ready .any lR listed:=by
     rw[Pm listed r hsz]
     grind [cY]
    grind
  ·intro i hi;rw[Pm listed i hsz]at hi;obtain⟨hi1,hi2,oi,Xe,Jl⟩:=hi;have hiR:=(hR i).2 ⟨hi1,hi2⟩
   have apm:∀r∈R,sP lR r i=false:=by
    intro r hr;cases hq:sP lR r i with
    |false=>rfl
    |true=>
     exfalso;have:=BE VV F.cl Xe Jl hq
     grind
   obtain⟨o,v,ho,⟨hH,hst⟩,xn⟩:=aIs VV h hiR hpw (fun r hr _=>apm r hr);rw[Xe]at ho;cases ho;rcases hst with⟨rfl,hw,f,args,aDf,aI1⟩|au8|⟨uP,e,hup,hnw,hval,hS⟩
   ·unfold wpOpIn;simp only[Xe];rw[Dy S hw];simp only[kW];have BB:=aI1 J hH;obtain⟨vs,xF,hr⟩:=Pk S aDf BB.1;refine⟨fun _ _=>trivial,?_⟩;rw[dz _ _ _ (SV aDf),xF,dr];refine⟨fun h=>by simp [KS,cz]at h,N5.2 ?_⟩;refine(BB.2 C U a w rfl S vs hr).mono fun en w' ⟨o',U',H2,⟨ho',hH2⟩,S',wm⟩=>?_
    subst ho' hH2;cases en with
    |returned v=>exact wm.elim
    |panicked chain=>
     obtain⟨u,hu,hr⟩:=wm;refine⟨U',{lE:=ado lR s0,heap:=H2,low,df},x,u,?_,hQ,hu,hr⟩;have:=S'.ado lR
     grind
    |outgrown=>exact wm.elim
   ·rw[apm c hc]at au8;cases au8
   ·refine RZ S Xe hS ?_;rintro e' U' v' w' rfl S'
    have aNn:J.app oi.dst e'=J.put oi.dst v:=by
     rw[show J.app oi.dst e'=J.app oi.dst {val:=v} by simp [k9.app,hup,hnw,hval],Pj]
    rw[aNn]at S';refine ih (R.erase i) _ U' _ _ w' ?_ (F.next Xe Jl) ((hnd.mem_erase_iff).2 ⟨fun e=>uP e.symm,hc⟩) S' ?_ ?_ ?_ xn
    ·grind
    ·rw[avg Xe];exact hs
    ·rw[<-MN];cases oi.dst<;>rfl
    ·rw[<-hdf];cases oi.dst<;>rfl
def ax4{w:aPB}{id c:Nat}(hm:C.P.follows .mixedOrders=true)(VV:NG lR=true)(hc:c<lR.size)(h:ax3 C.P lR c J.heap x H' (cG lR.size) J)
 (hQ:Q (.panic x) {J with lE:=ado lR J.lE,heap:=H'}) (S:pW C U J a w):(Code.region id lR true).wpIn (KS ro) 0 C.P (QC C Q) a w:=by
 refine wpIn_region_any hm ?_;refine aDe VV hQ lR.size (cG lR.size) _ U J a _ (by simp) ⟨dw,by simp,?_,?_⟩ (by simpa using hc) (S.drew _) rfl rfl rfl h
 all_goals grind [rj]
def ar9(P:aPA)(lR:Array aPw)(c:Nat)(Q:qK->k9->Prop)(J:k9):Prop:=
 ∃o f args x H',lR[c]? =some o/\tH lR o J=some true/\pZ J o.op=some (f,args)/\apn P f args J.heap x H'/\Q (.panic x) {J with lE:=ado lR J.lE,heap:=H'}
def aBf(VV:NG lR=true){c k:Nat}(avh:avf lR c=true)(hk:lR.size=c+(k+1)):
 ∀(f:Nat)(R:List Nat)(listed:Array Bool)(U:Nat->aPx)(J:k9)(a:Act)(w:aPB),R.length+k=f->(∀r∈R,r<c)->akI lR (R++cU c (k+1)) listed->pW C U J a w->ain C.P lR (ar9 C.P lR c Q) R [] J->wpAnyIn (KS ro) 0 C.P .any lR (QC C Q) (f+1) listed a w:=by
 obtain⟨_,abt⟩:=KT VV;obtain⟨hb,ha,BB⟩:=aBe avh;intro f;induction f using Nat.strongRecOn with
 |ind f ih=>
  intro R listed U J a w hl hRc F S h;have hpw:=F.pw;have hsz:=F.sz;have hR:=F.mem;have aK4:R.Pairwise (· < ·):=(List.pairwise_append.1 hpw).1;have hnd:R.Nodup:=aK4.imp (fun h=>dK h);have aIt:c∈R++cU c (k+1):=cO.2 (.inr (by rw[List.mem_range'_1];omega));refine⟨?_,?_⟩
  ·intro ax1;exfalso;generalize R++cU c (k+1)=L at hpw hR aIt;cases L with
   |nil=>simp at aIt
   |cons r L=>
    have hr:=(hR r).1 (by simp);have ho:lR[r]? =some lR[r]:=cT hr.1
    have:r∈Region.ready .any lR listed:=by
     rw[Pm listed r hsz];refine⟨hr.1,hr.2,_,ho,fun d hd=>?_⟩
     grind [cY]
    grind
  ·intro i hi;rw[Pm listed i hsz]at hi;obtain⟨hi1,hi2,oi,Xe,Jl⟩:=hi;have hiR:=(hR i).2 ⟨hi1,hi2⟩
   have apm:∀r∈R++cU c (k+1),sP lR r i=false:=by
    intro r hr;cases hq:sP lR r i with
    |false=>rfl
    |true=>
     exfalso;have:=BE VV F.cl Xe Jl hq
     grind
   rcases cO.1 hiR with aI2|hiC
   ·have hno:∀r∈R,r<i->anN lR r i=false:=fun r hr _=>NH (apm r (cO.2 (.inl hr))) (by
     cases ht:agt lR r i with
     |false=>rfl
     |true=>
      exfalso;obtain⟨_,_,axZ⟩:=KW ht;obtain⟨oc,hoc,hcc⟩:=BB;have h1:=hRc r hr;have h2:=hRc i aI2;rw[DJ (axZ c oc hoc (by omega) (by omega)).1]at hcc;cases hcc)
    obtain⟨o,E,ho,hst,hE⟩:=au7 VV h aI2 aK4 hno;have aDg:=List.length_pos_of_mem aI2;obtain⟨f',rfl⟩:∃f',f=f'+1:=⟨f-1,by omega⟩;refine RZ S ho hst ?_;intro e U' v w' he S';obtain⟨_,xn⟩:=hE e he;refine ih f' (by omega) (R.erase i) _ U' _ _ w' ?_ (fun r hr=>hRc r (dH hr)) ?_ S' xn
    ·grind
    ·have:=F.next Xe Jl
     grind
   ·rw[List.mem_range'_1] at hiC;rcases Nat.eq_or_lt_of_le hiC.1 with e|q9
    ·subst e
     have hR0:R=[]:=by
      cases R with
      |nil=>rfl
      |cons r R=>
       exfalso;have h1:=apm r (by simp)
       grind
     subst hR0;obtain⟨o,fn,args,x,H',ho,hw,aDf,aI1,hQ⟩:ar9 C.P lR c Q J:=h;rw[Xe]at ho;cases ho;unfold wpOpIn;simp only[Xe];rw[Dy S hw];simp only[kW];have BB:=aI1 J rfl;obtain⟨vs,xF,hr⟩:=Pk S aDf BB.1;refine⟨fun _ _=>trivial,?_⟩;rw[dz _ _ _ (SV aDf),xF,dr];refine⟨fun h=>by simp [KS,cz]at h,N5.2 ?_⟩;refine(BB.2 C U a w rfl S vs hr).mono fun en w' ⟨o',U',H2,⟨ho',hH2⟩,S',wm⟩=>?_
     subst ho' hH2;cases en with
     |returned v=>exact wm.elim
     |panicked chain=>
      obtain⟨u,hu,hr⟩:=wm;exact⟨U',{J with lE:=ado lR J.lE,heap:=H2},x,u,S'.ado lR,hQ,hu,hr⟩
     |outgrown=>exact wm.elim
    grind
def ax5{w:aPB}{id c:Nat}(hm:C.P.follows .mixedOrders=true)(VV:NG lR=true)(hc:c<lR.size)(avh:avf lR c=true)(h:ain C.P lR (ar9 C.P lR c Q) (cG c) [] J)
 (S:pW C U J a w):(Code.region id lR true).wpIn (KS ro) 0 C.P (QC C Q) a w:=by
 refine wpIn_region_any hm ?_;obtain⟨k,hk⟩:∃k,lR.size=c+(k+1):=⟨lR.size-c-1,by omega⟩
 have amg:cG c++cU c (k+1)=cG lR.size:=by
  rw[cM,cM,hk]
  grind
 have hF:akI lR (cG c++cU c (k+1)) (cw lR.size false):=by
  rw[amg];refine⟨dw,by simp,?_,?_⟩
  all_goals grind [rj]
 have key:∀w',pW C U J a w'->wpAnyIn (KS ro) 0 C.P .any lR (QC C Q) lR.size (cw lR.size false) a w':=by
  intro w' S';have:=aBf (ro:=ro) (Q:=Q) VV avh hk (c+k) (cG c) (cw lR.size false) U J a w' (by simp) (by simp) hF S' h
  grind
 exact key _ (S.drew _)
def Xh(tr:List Tr):Bool:=tr.all fun t=>t.e.up.isEmpty&&t.e.nw.isEmpty
def aby (P:aPA) (lR:Array aPw) (c:Nat):List aPw->Nat->k9->Prop
 |[],_,_=>True
 |o::rest,j,J=>match sP lR c j with
  |true=>aby P lR c rest (j+1) (J.put o.dst (.uS undef))
  |false=>match tH lR o J with
   |none=>False
   |some false=>aby P lR c rest (j+1) (J.put o.dst (.uS undef))
   |some true=>pZ J o.op=none/\match nf P J o.op with
    |some e=>(e.pre/\e.up=[]/\e.nw=[])/\aby P lR c rest (j+1) (J.put o.dst e.val)
    |none=>False
theorem SE{P:aPA}{c:Nat}{H H':List lw}{x:AV}:∀(rest:List aPw)(j:Nat)(J:k9),lR.toList.drop j=rest->c<j->J.heap=H->aby P lR c rest j J->ax3 P lR c H x H' (cU j rest.length) J
 |[],_,_,_,_,_,_=>trivial
 |o::rest,j,J,hd,hcj,hH,h=>by
  have ho:lR[j]? =some o:=by
   have:=congrArg (fun l:List aPw=>l[0]?) hd;simpa using this
  have xn:lR.toList.drop (j+1)=rest:=by
   grind [dM]
  simp only[dR,dD];simp only[aby]at h;split at h
  ·rename_i hor;exact⟨o,.uS undef,ho,⟨hH,.inr (.inl hor)⟩,SE rest (j+1) _ xn (by omega) (by rw[Xg];exact hH) h⟩
  ·split at h
   ·exact h.elim
   ·rename_i hw;exact⟨o,.uS undef,ho,⟨hH,.inr (.inr ⟨by omega,{val:=.uS undef},rfl,rfl,rfl,.inl ⟨hw,fun _=>ct⟩⟩)⟩,SE rest (j+1) _ xn (by omega) (by rw[Xg];exact hH) h⟩
   ·rename_i hw;obtain⟨hc,h⟩:=h;split at h
    ·rename_i e he;obtain⟨⟨hp,hu,hn⟩,h⟩:=h;exact⟨o,e.val,ho,⟨hH,.inr (.inr ⟨by omega,e,hu,hn,rfl,.inr (.inl ⟨hw,hc,e,he,hp,fun _=>ct⟩)⟩)⟩,SE rest (j+1) _ xn (by omega) (by rw[Xg];exact hH) h⟩
    ·exact h.elim
end region
def qK.then(next:k9->Prop)(Q:qK->k9->Prop):qK->k9->Prop
 |.normal,J=>next J
 |e,J=>Q e J
def qK.inBlock(id:Nat)(Q:qK->k9->Prop):qK->k9->Prop
 |.exit id',J=>if id'=id then Q .normal J else Q (.exit id') J
 |e,J=>Q e J
def qK.noGoto(Q:qK->k9->Prop):qK->k9->Prop
 |.goto _,_=>False
 |e,J=>Q e J
def yO.amh(e:yO):Bool:=e.rd.isEmpty&&e.up.isEmpty&&e.nw.isEmpty&& !e.whole
def R2(tr:List Tr)(j n:Nat)(e:yO):List Tr:=bif e.amh then tr else tr++[⟨j,n,e⟩]
def adp(lR:Array aPw)(tr:List Tr)(j:Nat)(e:yO):Prop:=e.amh=true\/Ij lR tr j e=true
def akJ (P:aPA) (lR:Array aPw) (Q:qK->k9->Prop):List aPw->Nat->List Tr->k9->Prop
 |[],_,_,J=>Q .normal J
 |o::rest,j,tr,J=>match tH lR o J with
  |none=>False
  |some b=>(b=true->match pZ J o.op with
    |some (f,args)=>(∃r,N6 P f args (fun v=>v=r)/\akJ P lR Q rest (j+1) tr (J.put o.dst r))\/
      (∃e,L9 P f args J e/\adp lR tr j e/\akJ P lR Q rest (j+1) (R2 tr j J.heap.length e) (J.app o.dst e))\/
      ∃x H',apn P f args J.heap x H'/\(avf lR j=true\/(Xh tr=true/\aby P lR j rest (j+1) (J.put o.dst (.uS undef))))/\Q (.panic x) {J with lE:=ado lR J.lE,heap:=H'}
    |none=>match nf P J o.op with
     |some e=>e.pre/\adp lR tr j e/\akJ P lR Q rest (j+1) (R2 tr j J.heap.length e) (J.app o.dst e)
     |none=>False)/\
   (b=false->akJ P lR Q rest (j+1) tr (J.put o.dst (.uS undef)))
def aDh(P:aPA)(g:aPC)(ps:Array Tmp)(aPp body:aPy)(Q:qK->k9->Prop)(J:k9):Prop:=
 ∀(C:tC)(U:Nat->aPx)(a:Act)(w:aPB),C.P=P->pW C U J a w->(Code.rangeFunc g ps aPp body).wpIn (KS none) 0 P (QC C Q) a w
def Cg:aPy->Bool
 |.region _ lR _=>lR.toList.all fun o=> !azX o.op
 |.seq x y=>Cg x&&Cg y
 |.cond _ x y=>Cg x&&Cg y
 |.block _ x=>Cg x
 |.loop x=>Cg x
 |.scope x=>Cg x
 |.rangeFunc _ _ _ _=>false
 |_=>true
def awp(P:aPA):aPy->(qK->k9->Prop)->k9->Prop
 |.skip,Q,J=>Q .normal J
 |.region _ lR false,Q,J=>Z7 P lR lR.toList Q J
 |.region _ lR true,Q,J=>(P.follows .mixedOrders=true/\NG lR=true)/\akJ P lR Q lR.toList 0 [] J
 |.seq x y,Q,J=>awp P x (qK.then (fun J1=>∃J2,N4 J1 J2/\awp P y Q J2) Q) J
 | .cond c x y,Q,J=>match J.ev c with
   |.bool b=>(b=true->awp P x Q J)/\(b=false->awp P y Q J)
   |_=>False
 |.block id x,Q,J=>awp P x (qK.inBlock id Q) J
 |.loop x,Q,J=>∃(I:Nat->k9->Prop)(n:Nat)(J':k9),N4 J J'/\I n J'/\
     ∀n J,I n J->awp P x (qK.then (fun J1=>∃n' J',n'<n/\N4 J1 J'/\I n' J') Q) J
 |.exit id,Q,J=>Q (.exit id) J
 |.scope x,Q,J=>awp P x (qK.noGoto Q) J
 |.label _,Q,J=>Q .normal J
 |.ret,Q,J=>Q .ret J
 |.goto _,_,_=>False
 |.rangeFunc g ps aPp body,Q,J=>aDh P g ps aPp body Q J
 |.refuse _,_,_=>False
theorem akK{t:Tr}{e:yO}(h:e.amh=true):GL t e=true:=by
 grind [yO.amh,GL,N7]
theorem ami{t:Tr}{e:yO}(h:t.e.amh=true):GL t e=true:=by
 grind [yO.amh,GL,N7]
def ang{e:yO}(h:Xh (R2 tr j n e)=true):Xh tr=true/\e.up=[]/\e.nw=[]:=by
 grind [R2,yO.amh,Xh]
def aFX(P:aPA)(lR:Array aPw)(Q:qK->k9->Prop)(j m:Nat)(tr:List Tr)(J:k9):Prop:=
 Xh tr=true/\∃c x H',j<=c/\c<j+m/\ax3 P lR c J.heap x H' (cU j m) J/\Q (.panic x) {J with lE:=ado lR J.lE,heap:=H'}
theorem aFX.step {m:Nat}{tr':List Tr}(ho:lR[j]? =some o)(ht:Xh tr'=true->Xh tr=true/\∃e:yO,e.up=[]/\e.nw=[]/\e.val=v/\Cf P lR o J (fun e'=>e'=e))
 (h:aFX P lR Q (j+1) m tr' (J.put o.dst v)):aFX P lR Q j (m+1) tr J:=by
 obtain⟨h1,c,x,H',h2,h3,h4,h5⟩:=h;obtain⟨k1,k2⟩:=ht h1;refine⟨k1,c,x,H',by omega,by omega,?_,?_⟩
 ·rw[dD];rw[Xg]at h4;exact⟨o,v,ho,⟨rfl,.inr (.inr ⟨by omega,k2⟩)⟩,h4⟩
 ·rw[avg ho]at h5;cases hd:o.dst<;>rw[hd]at h5<;>exact h5
theorem avi{e:yO}(hu:e.up=[])(hn:e.nw=[]):J.app d e=J.put d e.val:=by
 rw[show J.app d e=J.app d {val:=e.val,rd:=e.rd,pre:=e.pre} by simp [k9.app,hu,hn]];exact Pj _ _ _ _ _
def agx(P:aPA)(lR:Array aPw)(Q:qK->k9->Prop)(j n:Nat)(tr:List Tr)(J:k9):Prop:=
 ∃m K,ain P lR K (cU j m) tr J/\((m=n/\K=Q .normal)\/(m<n/\avf lR (j+m)=true/\K=ar9 P lR (j+m) Q))
theorem agx.step{e:yO}(ho:lR[j]? =some o)(hst:Cf P lR o J (fun e'=>e'=e))(hc:Ij lR tr j e=true)
 (h:agx P lR Q (j+1) n (tr++[⟨j,J.heap.length,e⟩]) (J.app o.dst e)):agx P lR Q j (n+1) tr J:=by
 obtain⟨m,K,h,hK⟩:=h;refine⟨m+1,K,?_,?_⟩
 ·rw[dD];exact⟨o,_,ho,hst,fun e' he=>by subst he;exact⟨hc,h⟩⟩
 grind
def MO{P:aPA}{lR:Array aPw}{Q:qK->k9->Prop}: ∀(rest:List aPw)(j:Nat)(tr tr':List Tr)(J:k9),lR.toList.drop j=rest->(∀t∈tr',t∈tr\/t.e.amh=true)->
 akJ P lR Q rest j tr J->agx P lR Q j rest.length tr' J\/aFX P lR Q j rest.length tr J
 |[],_,_,_,_,_,_,h=>.inl ⟨0,Q .normal,h,.inl ⟨rfl,rfl⟩⟩
 |o::rest,j,tr,tr',J,hd,htr,h=>by
  have ho:lR[j]? =some o:=by
   have:=congrArg (fun l:List aPw=>l[0]?) hd;simpa using this
  have xn:lR.toList.drop (j+1)=rest:=by
   grind [dM]
  have az2:∀e,adp lR tr j e->Ij lR tr' j e=true:=by
   intro e he;unfold Ij;rw[List.all_eq_true];intro t ht;rcases he with he|he
   all_goals grind [akK,Ij,ami]
  have aIu:∀n e,∀t∈tr'++[⟨j,n,e⟩],t∈R2 tr j n e\/t.e.amh=true:=by
   grind [R2]
  have aOn:∀x:AV,({val:=x}:yO).amh=true:=fun _=>rfl
  have aDi:∀n x,∀t∈tr'++[⟨j,n,{val:=x}⟩],t∈tr\/t.e.amh=true:=by
   grind
  simp only[akJ]at h;simp only[dR];split at h
  ·exact h.elim
  ·rename_i b hb;cases b with
   |false=>
    have hst:Cf P lR o J (fun e=>e={val:=.uS undef}):=.inl ⟨hb,fun _=>ct⟩;rcases MO rest (j+1) tr (tr'++[⟨j,J.heap.length,{val:=.uS undef}⟩]) _ xn (aDi _ _) (h.2 rfl)with hl|hr
    ·exact .inl (agx.step ho hst (az2 _ (.inl rfl)) (by rw[Pj];exact hl))
    ·exact .inr (hr.step ho fun ht=>⟨ht,_,rfl,rfl,rfl,hst⟩)
   |true=>
    have h:=h.1 rfl;split at h
    ·rename_i f args hc;rcases h with⟨r,hf,hK⟩|⟨e,hf,hcp,hK⟩|⟨x,H',hp,hsp|⟨ht,hri⟩,hQ⟩
     ·have hst:Cf P lR o J (fun e=>e={val:=r}):=.inr (.inr (.inl ⟨hb,f,args,_,hc,hf,⟨r,rfl⟩,fun e=>⟨fun he=>⟨r,rfl,he⟩,fun ⟨r',h1,h2⟩=>by rw[h2,h1]⟩⟩));rcases MO rest (j+1) tr (tr'++[⟨j,J.heap.length,{val:=r}⟩]) _ xn (aDi _ _) hK with hl|hr
      ·exact .inl (agx.step ho hst (az2 _ (.inl rfl)) (by rw[Pj];exact hl))
      ·exact .inr (hr.step ho fun ht=>⟨ht,_,rfl,rfl,rfl,hst⟩)
     ·have hst:Cf P lR o J (fun e'=>e'=e):=.inr (.inr (.inr ⟨hb,f,args,e,hc,hf,fun _=>ct⟩));rcases MO rest (j+1) _ (tr'++[⟨j,J.heap.length,e⟩]) _ xn (aIu _ _) hK with hl|hr
      ·grind [agx.step]
      ·right;have ht:=hr.1;obtain⟨t1,t2,t3⟩:=ang ht;rw[avi t2 t3]at hr;exact hr.step ho fun _=>⟨t1,e,t2,t3,rfl,hst⟩
     ·exact .inl ⟨0,ar9 P lR j Q,(⟨o,f,args,x,H',ho,hb,hc,hp,hQ⟩:ar9 P lR j Q J),.inr ⟨by omega,hsp,rfl⟩⟩
     ·right;refine⟨ht,j,x,H',cv _,by omega,?_,hQ⟩;rw[dD];refine⟨o,.uS undef,ho,⟨rfl,.inl ⟨rfl,hb,f,args,hc,hp⟩⟩,?_⟩
      grind [SE,Xg]
    ·rename_i hc;split at h
     ·rename_i e he;have hst:Cf P lR o J (fun e'=>e'=e):=.inr (.inl ⟨hb,hc,e,he,h.1,fun _=>ct⟩);rcases MO rest (j+1) _ (tr'++[⟨j,J.heap.length,e⟩]) _ xn (aIu _ _) h.2.2 with hl|hr
      ·grind [agx.step]
      ·right;have ht:=hr.1;obtain⟨t1,t2,t3⟩:=ang ht;rw[avi t2 t3]at hr;exact hr.step ho fun _=>⟨t1,e,t2,t3,rfl,hst⟩
     ·exact h.elim
section sound
variable {C:tC}
def az3{next:k9->Prop}{aIv:Act->aPB->Prop}(h:∀U J a w,pW C U J a w->next J->aIv a w){e:Exit}{w:aPB}
 (hq:QC C (qK.then next Q) e a w):Exit.then aIv (QC C Q) e a w:=by
 cases e with
 |normal=>obtain⟨U,J,S,hn⟩:=hq;exact h U J a w S hn
 |exit id=>exact hq
 |goto l=>exact hq
 |ret=>exact hq
 |panic chain=>exact hq
 |outgrown=>exact hq
def ax6{id:Nat}{e:Exit}{w:aPB}(hq:QC C (qK.inBlock id Q) e a w):Exit.inBlock id (QC C Q) e a w:=by
 cases e with
 |exit id'=>
  obtain⟨U,J,S,h⟩:=hq;simp only[qK.inBlock]at h;simp only[Exit.inBlock];split at h
  ·rename_i e;rw[if_pos e];exact⟨U,J,S,h⟩
  ·rename_i e;rw[if_neg e];exact⟨U,J,S,h⟩
 |normal=>exact hq
 |goto l=>exact hq
 |ret=>exact hq
 |panic chain=>exact hq
 |outgrown=>exact hq
def aBg{e:Exit}{w:aPB}(hq:QC C (qK.noGoto Q) e a w):Exit.noGoto (QC C Q) e a w:=by
 cases e with
 |goto l=>obtain⟨U,J,S,h⟩:=hq;exact h.elim
 |normal=>exact hq
 |exit id=>exact hq
 |ret=>exact hq
 |panic chain=>exact hq
 |outgrown=>exact hq
def atj{Q:Exit->Act->aPB->Prop}{w:aPB}(I:Nat->Act->aPB->Prop)(n₀:Nat)(h₀:I n₀ a w)
 (round:∀m a w,I m a w->c.wpIn F n P (Exit.then (fun a' w'=>∃m',m'<m/\I m' a' w') Q) a w):(Code.loop c).wpIn F n P Q a w:=by
 refine wpIn_loop (fun a w=>∃m,I m a w) (fun a w=>leastOf (fun m=>I m a w)) ⟨n₀,h₀⟩ ?_;intro a w hI;refine wpIn_mono (round _ a w (leastOf_spec hI).1) ?_;intro e a' w' hq;cases e with
 |normal=>
  obtain⟨m',q9,hI'⟩:=hq;exact⟨⟨m',hI'⟩,Nat.lt_of_le_of_lt ((leastOf_spec ⟨m',hI'⟩).2 m' hI') q9⟩
 |exit id=>exact hq
 |goto l=>exact hq
 |ret=>exact hq
 |panic chain=>exact hq
 |outgrown=>exact hq
def N9{b:Frame}{w:aPB}:step P (lone (b.atR a (.code (.scope c)::k)) cs w)=.next (lone (b.atR a (.code c::.inScope c::k)) cs w):=
 step_lone_go (by simp [stepG,stepG.exec,Frame.atR])
def aq3{b:Frame}{w:aPB}:step P (lone (b.atR a (.inScope c::k)) cs w)=.next (lone (b.atR a k) cs w):=
 step_lone_go (by simp [stepG,stepG.exec,Frame.atR])
def amj{Q:Exit->Act->aPB->Prop}{w:aPB}(h:c.wpIn F n P (Exit.noGoto Q) a w):(Code.scope c).wpIn F n P Q a w:=by
 intro b k cs hro hb hr;have h0:(lone (b.atR a (.code (.scope c)::k)) cs w).fenced P F:=fenced_calm (fr:=b.atR a (.code (.scope c)::k)) hb hr rfl;obtain⟨e,a₁,w₁,hq,aq4⟩:=h b (.inScope c::k) cs hro hb hr;cases e with
 |normal=>exact⟨.normal,a₁,w₁,hq,.head h0 N9 (StepsIn.trans aq4 (.one (fenced_calm (fr:=b.atR a₁ (.inScope c::k)) hb hr rfl) aq3))⟩
 |exit id=>
  have hx:exitTo id (.inScope c::k)=exitTo id k:=by simp [exitTo]
  exact⟨.exit id,a₁,w₁,hq,fun k' hk=>.head h0 N9 (aq4.1 k' (by rw[hx];exact hk)),
   fun hr' hk=>let ⟨k₁,h1,h2⟩:=aq4.2 hr' (by rw[hx];exact hk);⟨k₁,h1,.head h0 N9 h2⟩⟩
 |goto l=>exact hq.elim
 |ret=>exact⟨.ret,a₁,w₁,hq,.of_steps (.one h0 N9) aq4⟩
 |panic ch=>exact⟨_,a₁,w₁,hq,.of_steps (.one h0 N9) aq4⟩
 |outgrown=>exact⟨_,a₁,w₁,hq,.of_steps (.one h0 N9) aq4⟩
def Ch{ro:Option Nat}: ∀(c:aPy)(Q:qK->k9->Prop)(U:Nat->aPx)(J:k9)(a:Act)(w:aPB),(ro=none\/Cg c=true)->awp C.P c Q J->pW C U J a w->c.wpIn (KS ro) 0 C.P (QC C Q) a w
 |.skip,Q,U,J,a,w,_,h,S=>wpIn_skip ⟨U,J,S,h⟩
 | .region id lR false,Q,U,J,a,w,hn,h,S=>by
   have:=aky (ro:=ro) rfl lR.toList 0 hn (by simp) U J a w h S
   grind [wpIn_region,cM]
 | .region id lR true,Q,U,J,a,w,_,h,S=>by
   obtain⟨⟨hm,VV⟩,h⟩:=h;rcases MO lR.toList 0 [] [] J (by simp) (by simp) h with⟨m,K,this,⟨hm',rfl⟩|⟨hm',hsp,rfl⟩⟩|⟨_,c,x,H',_,hc,hI,hQ⟩
   ·refine ax2 hm VV ?_ S
    grind [cM]
   ·rw[Nat.zero_add]at this hsp;exact ax5 hm VV (by simpa using hm') hsp (by rw[cM];exact this) S
   ·refine ax4 (c:=c) (x:=x) (H':=H') hm VV (by simpa using hc) ?_ hQ S
    grind [cM]
 | .seq x y,Q,U,J,a,w,hn,h,S=>
   wpIn_seq (wpIn_mono (Ch x _ U J a w (hn.imp id fun h=>(cC _ _ ▸ h:Cg x=true/\Cg y=true).1) h S) fun _ _ _ hq=>az3 (fun U' J' a' w' S' h'=>by
    obtain⟨J2,Mv,h2⟩:=h';obtain⟨U2,S2⟩:=Mv C U' a' w' S';exact Ch y Q U2 J2 a' w' (hn.imp id fun h=>(cC _ _ ▸ h:Cg x=true/\Cg y=true).2) h2 S2) hq)
 | .cond c x y,Q,U,J,a,w,hn,h,S=>by
   simp only[awp]at h;have hc:=S.ev c;split at h
   ·rename_i b hb;rw[hb]at hc;simp only[rD]at hc;refine wpIn_cond hc ?_;cases b with
    |true=>exact Ch x Q U J a w (hn.imp id fun h=>(cC _ _ ▸ h:Cg x=true/\Cg y=true).1) (h.1 rfl) S
    |false=>exact Ch y Q U J a w (hn.imp id fun h=>(cC _ _ ▸ h:Cg x=true/\Cg y=true).2) (h.2 rfl) S
   ·exact h.elim
 |.block id x,Q,U,J,a,w,hn,h,S=>wpIn_block (wpIn_mono (Ch x _ U J a w hn h S) fun _ _ _ hq=>ax6 hq)
 | .loop x,Q,U,J,a,w,hn,h,S=>by
   obtain⟨I,n,J',Mv,hI,aI3⟩:=h;obtain⟨U',S'⟩:=Mv C U a w S;refine atj (fun n a w=>∃U J,I n J/\pW C U J a w) n ⟨U',J',hI,S'⟩ ?_;rintro n a w ⟨U,J,hI,S⟩;refine wpIn_mono (Ch x _ U J a w hn (aI3 n J hI) S) fun _ _ _ hq=>az3 ?_ hq
   rintro U1 J1 a1 w1 S1 ⟨n',J2,q9,Mv,hI'⟩;obtain⟨U2,S2⟩:=Mv C U1 a1 w1 S1
   grind
 |.exit id,Q,U,J,a,w,_,h,S=>wpIn_exit ⟨U,J,S,h⟩
 |.scope x,Q,U,J,a,w,hn,h,S=>amj (wpIn_mono (Ch x _ U J a w hn h S) fun _ _ _ hq=>aBg hq)
 |.label l,Q,U,J,a,w,_,h,S=>wpIn_label ⟨U,J,S,h⟩
 |.ret,Q,U,J,a,w,_,h,S=>wpIn_ret ⟨U,J,S,h⟩
 |.goto l,Q,U,J,a,w,_,h,S=>h.elim
 | .rangeFunc f p x y,Q,U,J,a,w,hn,h,S=>by
   rcases hn with rfl|hn
   ·exact h C U a w rfl S
   ·cases hn
 |.refuse s,Q,U,J,a,w,_,h,S=>h.elim
def pW.akL{D:Nat}{ds:List Deferred}{w:aPB}(S:pW C U J {tmps,defers:=⟨.collected D,#[]⟩::ds} w):
 w.heap[D]? =some (.deferred (some []))/\pW C U J {tmps,defers:=ds} (w.putObj D (.deferred none)):=by
 obtain⟨hnd,amg,hrd⟩:=S.defers;have hmk:akq (⟨.collected D,#[]⟩:Deferred)=true:=rfl;simp only[dU,hmk,kW,Bool.not_true,dm,if_false]at hnd hrd;obtain⟨D',hD,h1,h2,h3⟩:=amg _ (db) rfl;simp only[Deferred.mk.injEq,Target.collected.injEq,and_true]at hD;subst hD;refine⟨h1,?_⟩;have Ii:∀b,b≠D->(w.putObj D (.deferred none)).heap[b]? =w.heap[b]? :=fun b hb=>World.putObj_heap_other hb
 have wU:∀b o,(w.putObj D (.deferred none)).cell? ⟨b,o,none⟩=w.cell? ⟨b,o,none⟩:=by
  grind [World.cell?,World.putObj_heap_same]
 have hty:tyk w (w.putObj D (.deferred none)):=as2 h1 (by intro c t fz h;cases h) Ii
 have le:(C.env U J.heap w).Le J.heap.length (C.env U J.heap (w.putObj D (.deferred none))):=
  tC.GF (cv _) (fun _ _=>⟨rfl,rfl⟩) (fun b o u hm hc=>⟨hm,by rw[wU];exact hc⟩)
 have FE:vW C U J.heap (w.putObj D (.deferred none)) J.df ds:=by
  rw[dV]at hnd;refine⟨hnd.2,fun d hd hm=>?_,hrd.mono le⟩
  grind
 refine {lE:=l9.mono le _ _ (l9.nb _ _ S.lE) S.lE,defers:=FE,qJ:=?_,apart:=S.apart,wZ:=S.wZ,size:=by grind [World.putObj_size],old:=fun b o hb hm=>by rw[wU];exact S.old b o hb hm,qE:=?_,F2:=S.F2,AH:=?_,rest:=S.rest,low:=S.low,mZ:=S.mZ}
 ·intro l x hx;exact qV.mono (S.qJ l x hx) le (fun b hb=>Ii b (fun e=>by subst e;exact h3 l x hx hb))
 ·intro b hb hm;rw[Ii b (by omega)];exact S.qE b hb hm
 ·intro x hx hm0;rw[<-S.AH x hx hm0]
  grind [World.frozen?]
def pW.az4{fn:Func}{R:aPD->aPB->Prop}{tm:Array aPx}(hu:u≠ .run)(hdf:J.df=[]):∀(ds:List Deferred)(w:aPB),pW C U J {tmps,defers:=ds} w->
 (∀w',pW C U J {tmps,defers:=[]} w'->LeavesIn cz 0 C.P fn tm R [] u w')->LeavesInM cz 0 C.P fn tm R ds u w
 |[],w,S,h=>h w S
 |d::ds,w,S,h=>by
  have hm:akq d=true:=by
   have:=S.defers.2.2;rw[hdf]at this;have ajJ:(d::ds).filter (fun d=> !akq d)=[]:=this;rw[List.filter_eq_nil_iff]at ajJ;simpa using ajJ d (db)
  obtain⟨D,hD,_⟩:=S.defers.2.1 d (db) hm;subst hD;obtain⟨h1,S'⟩:=S.akL;exact⟨hu,.inl ⟨D,_,rfl,run_takeDeferred h1,pW.az4 hu hdf ds _ S' h⟩⟩
end sound
def apq (P:aPA) (J:k9):ResultVar->Option AV
 |.tmp t=>some (J.lE.getD t .any)
 | .cell d t=>match o9 P t,J.lE.getD d .any with
   |some (g,n),.ptr l off=>match J.heap[l]? with
    |some (.cells cs)=>l3 g n (cs.drop off)
    |_=>none
   |_,_=>none
def ES(P:aPA)(J:k9):List ResultVar->Option (List AV)
 |[]=>some []
 |r::rs=>match apq P J r,ES P J rs with
  |some x,some xs=>some (x::xs)
  |_,_=>none
def VW(P:aPA)(J:k9)(rs:List ResultVar):Option AV:=
 match ES P J rs with
 |some [x]=>some x
 |some xs=>some (.Mt xs)
 |none=>none
section results
variable {C:tC} {w:aPB}
def atk(S:pW C U J a w){r:ResultVar}(h:apq C.P J r=some x):
 ∃v,(match r with|.tmp t=>pure (a.tmps.getD t undef)|.cell d t=>(do loadVar t (<-asAddr (a.tmps.getD d undef))):Sem aPx).run C.P w=.ok v w/\rD (C.env U J.heap w) x v:=by
 cases r with
 |tmp t=>
  simp only[apq,ck]at h;subst h;exact⟨_,rfl,S.ev (.tmp t)⟩
 |cell d t=>
  simp only[apq]at h;have hd:=S.ev (.tmp d);simp only[k9.ev]at hd;split at h
  ·rename_i g n l off ht hp;rw[hp]at hd;split at h
   ·rename_i cs hl;obtain⟨u,hu,ru⟩:=auX S ht hl h hd;obtain⟨_,b,_,hv⟩:=hd;refine⟨u,?_,ru⟩;have hv':a.tmps.getD d undef=.pointer (some ⟨b,off,none⟩):=hv
    grind [asAddr,Instr.loadAt,Instr.sureAddr]
   ·cases h
  ·cases h
def ai0(S:pW C U J a w):∀{rs:List ResultVar}{xs:List AV},ES C.P J rs=some xs->
 ∃vs:List aPx,(rs.mapM fun|.tmp t=>pure (a.tmps.getD t undef)|.cell d t=>(do loadVar t (<-asAddr (a.tmps.getD d undef))):Sem (List aPx)).run C.P w=.ok vs w/\l9 (C.env U J.heap w) xs vs
 |[],_,h=>by simp only[ES,ck]at h;subst h;exact⟨[],rfl,rfl⟩
 |r::rs,xs,h=>by
  simp only[ES]at h;split at h
  ·rename_i x ys h1 h2;cases h;obtain⟨v,hv,rv⟩:=atk S h1;obtain⟨vs,hvs,rvs⟩:=ai0 S h2;refine⟨v::vs,?_,v,vs,rfl,rv,rvs⟩
   simp_all
  ·cases h
def SY(S:pW C U J a w){fn:Func}(h:VW C.P J fn.results.toList=some x):∃v,(results fn a.tmps).run C.P w=.ok v w/\rD (C.env U J.heap w) x v:=by
 unfold VW at h
 have key:∀xs,ES C.P J fn.results.toList=some xs->∃vs:List aPx,(results fn a.tmps).run C.P w=.ok (if hh:vs.toArray.size=1 then vs.toArray[0] else .tuple vs.toArray) w/\l9 (C.env U J.heap w) xs vs:=by
  intro xs hx;obtain⟨vs,hvs,rvs⟩:=ai0 S hx;refine⟨vs,?_,rvs⟩;unfold results;rw[Array.mapM_eq_mapM_toList];simp only[Sem.run_bind,Sem.run_map,Sem.run_pure];generalize hq:Sem.run C.P (List.mapM _ fn.results.toList) w=q;have hq':q=.ok vs w:=by rw[<-hq];exact hvs
  subst hq';simp
 split at h
 ·grind [l9]
 ·rename_i xs uP hx;cases h;obtain⟨vs,hv,rl⟩:=key _ hx;refine⟨_,hv,?_⟩;have hlen:=rl.length
  have hn1: ¬ vs.toArray.size=1:=by
   intro h1;have h2:xs.length=1:=by simp at h1;omega
   match xs,h2 with
   |[y],_=>exact uP y rfl
  rw[dif_neg hn1];exact⟨vs.toArray,rfl,rl⟩
 ·cases h
end results
def aoO{V:AV->Prop}(h:N6 P f avj V)(hs:tQ args avj)(hn:yg 0 args):N6 P f args V:=by
 obtain⟨he,_,hc⟩:=h;exact⟨he,hn,fun C U w hP h0 hN hM vs hr=>hc C U w hP h0 hN hM vs (hs _ _ hr)⟩
def aBh(V:AV->Prop)(H:List lw):Option AV->Prop
 |some x=>(frz 0 H x).nb 0/\∃r,Pc (frz 0 H x) r/\V r
 |none=>False
def aFY(P:aPA)(rs:List ResultVar)(V:AV->Prop):qK->k9->Prop
 |.normal,J=>J.df=[]/\aBh V J.heap (VW P J rs)
 |.ret,J=>J.df=[]/\aBh V J.heap (VW P J rs)
 |_,_=>False
def avk{fn:Func}{V:AV->Prop}(hf:P.funcs[f]? =some fn)(hb:fn.body=some c)(uP:(fn.name != "runtime.NumGoroutine")=true)(LY:yg 0 args)
 (h:awp P c (aFY P fn.results.toList V) {lE:=args++cH (fn.ntmps-args.length) .any,heap:=[]}):N6 P f args V:=by
 refine⟨?_,LY,fun C U w hP h0 hN hM vs hr=>?_⟩
 ·grind [Bs]
 ·subst hP;refine(callsIn_wide (n:=0)).1 (callsIn_of_wp_marks hf hb trivial ?_);have hsz:vs.size=args.length:=by have:=hr.length;simpa using this
  have S:pW C U {lE:=args++cH (fn.ntmps-args.length) .any,heap:=[]} {tmps:=vs++cw (fn.ntmps-vs.size) undef,defers:=[]} w:=by
   refine {lE:=?_,defers:=vW.nil,qJ:=by simp,apart:=by simp,wZ:=by simp,size:=by rw[h0];exact cv _,old:=fun b o _ _=>by rw[h0],qE:=fun b _ _=>by rw[h0],F2:=by simp,AH:=fun x _ _=>by rw[h0],rest:=by rw[h0];exact⟨rfl,rfl⟩,low:=⟨hN,cv _⟩,mZ:=fun l hl=>by grind};simp only[dj,dx];refine hr.append ?_;rw[hsz];have:=l9.JR (E:=C.env U [] w) (cH (fn.ntmps-args.length) undef);simpa using this
  refine wpIn_mono (Ch (ro:=none) c _ U _ _ w (.inl rfl) h S) ?_;intro e a' w' hq
  have CF:∀U' J',pW C U' J' a' w'->J'.df=[]/\aBh V J'.heap (VW C.P J' fn.results.toList)->
   LeavesInM cz 0 C.P fn a'.tmps (fun e w'=>∃r v U',V r/\e=.returned v/\rD (C.env U' [] w') r v/\w.heap.size<=w'.heap.size/\(∀b,b<w.heap.size->w'.heap[b]? =w.heap[b]?)/\
    (∀x,x.block<w.heap.size->w'.frozen? x=w.frozen? x)/\w'.output=w.output/\w'.os=w.os) a'.defers .returning w':=by
   intro U' J' S' ⟨hdf,Z9⟩;refine pW.az4 (by simp) hdf _ _ S' (fun w' S'=>?_);cases hx:VW C.P J' fn.results.toList with
   |none=>rw[hx]at Z9;exact Z9.elim
   |some x=>
   rw[hx]at Z9;obtain⟨hn,r0,aim,hV⟩:=Z9;obtain⟨v,hv,rv⟩:=SY S' hx;refine⟨v,hv,_,v,U',hV,rfl,aim _ _ (by have:=amd S' (S'.aIr (by rw[<-S'.low.1];exact hN)) x v;rw[<-S'.low.1,hN]at this;exact this hn rv),?_,?_,?_,?_⟩
   ·rw[<-h0];exact S'.size
   ·intro b hb;rw[<-h0];exact S'.qE b (by rw[h0];exact hb) (fun o=>hM b o)
   ·intro y hy;rw[<-h0];exact S'.AH y (by rw[h0];exact hy) (fun o=>hM y.block o)
   ·rw[<-h0];exact S'.rest
  cases e with
  |normal=>obtain⟨U',J',S',hq⟩:=hq;exact CF U' J' S' hq
  |ret=>obtain⟨U',J',S',hq⟩:=hq;exact CF U' J' S' hq
  |exit id=>obtain⟨_,_,_,hq⟩:=hq;exact hq.elim
  |goto l=>obtain⟨_,_,_,hq⟩:=hq;exact hq.elim
  |panic chain=>obtain⟨_,_,_,_,_,hq,_⟩:=hq;exact hq.elim
  |outgrown=>exact hq.elim
section co

def Co1.sub(h:Pc x y)(hn:y.nb n):Co1 H n x y:=.inl ⟨h,hn⟩
def Co.any:Co H n x .any:=.inl (.inl ⟨Pc.any _,trivial⟩)
theorem Co.same(h:x.nb n):Co H n x x:=.inl (.inl ⟨Pc.refl _,h⟩)
def Co.sub(h:Pc x y)(hn:y.nb n):Co H n x y:=.inl (.inl ⟨h,hn⟩)
theorem GM.nil:GM H n [] []:=rfl
theorem GM.cons(h:Co H n x y)(hs:GM H n xs ys):GM H n (x::xs) (y::ys):=⟨y,ys,rfl,h,hs⟩
theorem CoH.nil{xs:List lw}:CoH H n xs []:=by cases xs<;>trivial
theorem GM.same(h:yg n xs):GM H n xs xs:=by
 induction xs with
 |nil=>rfl
 |cons x xs ih=>exact GM.cons (Co.same h.1) (ih h.2)
end co
def agy{X:AV}(h:N6 P f avj (fun r=>r=X))(hs:GM J.heap n args avj):ER P f args J (fun o H=>o=.ret X/\H=J.heap):=by
 obtain⟨he,hc⟩:=akA (J:=J) (K:=fun o H=>o=.ret X/\H=J.heap) h (fun r hr=>⟨by rw[hr],rfl⟩);exact⟨he,fun C U a w hP S vs hr=>hc C U a w hP S vs (GM.aNj S hs hr)⟩
def stP:Option aPy->LoopState
 |none=>.ready
 |some _=>.done
theorem atl(c:Option aPy):stP c≠ .busy:=by cases c<;>simp [stP]
section
variable {C:tC} {w:aPB}
def pW.aDj(S:pW C U J a w)(k:Bz)(rec:Loop)(hs:l9 (C.env U J.heap w) lE rec.tmps.toList)
 (aft:rec.params=k.ps/\rec.assign=k.assign/\rec.body=k.body/\rec.state=.ready/\rec.pending=none/\rec.defers=w.heap.size):
 pW C (fun l=>if l=J.heap.length then .func (.yield (w.heap.size+1)) #[] #[] else U l) {J with heap:=J.heap++[.loop k lE .ready 0]} a ((w.alloc (.deferred (some []))).alloc (.loop rec)):=by
 let U':Nat->aPx:=fun l=>if l=J.heap.length then .func (.yield (w.heap.size+1)) #[] #[] else U l
 let w':=(w.alloc (.deferred (some []))).alloc (.loop rec)
 have hφ:∀l,l<J.heap.length->U' l=U l:=fun l hl=>by grind
 have hφn:U' J.heap.length=.func (.yield (w.heap.size+1)) #[] #[]:=by simp [U']
 have hsz:w'.heap.size=w.heap.size+2:=by
  show(World.more (World.more w _) _).heap.size=_;rw[aPa,aPa]
 have hold:∀b,b<w.heap.size->w'.heap[b]? =w.heap[b]? :=by
  intro b hb;show(World.more (World.more w _) _).heap[b]? =_
  grind [CL]
 have hD:w'.heap[w.heap.size]? =some (.deferred (some [])):=by
  show(World.more (World.more w _) _).heap[_]? =_
  grind [World.more]
 have hL:w'.heap[w.heap.size+1]? =some (.loop rec):=by
  have:=ML (World.more w (.deferred (some []))) (.loop rec);rw[aPa]at this;exact this
 have qe:∀(l:Nat)(x:lw),(J.heap++[.loop k lE .ready 0])[l]? =some x->(l<J.heap.length/\J.heap[l]? =some x)\/(l=J.heap.length/\x=.loop k lE .ready 0):=by
  grind
 have wU:∀b o,b<w.heap.size->w'.cell? ⟨b,o,none⟩=w.cell? ⟨b,o,none⟩:=by
  grind [World.cell?]
 have LY:∀b,(lw.loop k lE .ready 0).block (U' J.heap.length) b->w.heap.size<=b:=by
  intro b hb;rw[hφn]at hb;rcases hb with rfl|hb<;>omega
 have QT:∀b o,KR U' (J.heap++[.loop k lE .ready 0]) b o->w.heap.size<=b\/KR U J.heap b o:=by
  rintro b o ⟨l,x,hx,hm⟩;rcases qe l x hx with⟨hl,hx⟩|⟨rfl,rfl⟩
  ·rw[hφ l hl]at hm;exact .inr ⟨l,x,hx,hm⟩
  grind [lw.qL]
 have le:(C.env U J.heap w).Le J.heap.length (C.env U' (J.heap++[.loop k lE .ready 0]) w'):=by
  refine tC.GF (by simp) (fun l hl=>⟨hφ l hl,by rw[cJ hl]⟩) (fun b i u hm hc=>?_)
  grind [Kk]
 have FE:vW C U' (J.heap++[.loop k lE .ready 0]) w' J.df a.defers:=by
  refine S.defers.step le (fun b hb _=>hold b hb) (fun l x b hx hb=>?_)
  grind
 refine {lE:=l9.mono le _ _ (l9.nb _ _ S.lE) S.lE,defers:=FE,qJ:=?_,apart:=?_,wZ:=?_,size:=by show _<=w'.heap.size;have:=S.size;omega,old:=?_,qE:=?_,F2:=?_,AH:=?_,rest:=S.rest,low:=⟨S.low.1,by have:=S.low.2;simp;omega⟩,mZ:=?_}
 ·intro l x hx;show qV _ x (U' l);rcases qe l x hx with⟨hl,hx⟩|⟨rfl,rfl⟩
  ·have r0:=S.qJ l x hx;rw[hφ l hl];exact qV.mono r0 le (fun b hb=>hold b (r0.tT hb))
  ·rw[hφn];exact⟨w.heap.size,rec,rfl,hL,hD,aft,l9.mono le _ _ (l9.nb _ _ hs) hs⟩
 ·intro l l' x x' b hx EC hb uD;have hb:x.block (U' l) b:=hb;have uD:x'.block (U' l') b:=uD;rcases qe l x hx with⟨hl,hx⟩|⟨rfl,rfl⟩<;>rcases qe l' x' EC with⟨hl',EC⟩|⟨rfl,rfl⟩
  ·rw[hφ l hl]at hb;rw[hφ l' hl']at uD;exact S.apart l l' x x' b hx EC hb uD
  ·rw[hφ l hl]at hb;have h1:=(S.qJ l x hx).tT hb
   grind [tC.env]
  ·rw[hφ l' hl']at uD;have h1:=(S.qJ l' x' EC).tT uD
   grind [tC.env]
  ·rfl
 ·intro l x b o hx hb;have hb:x.block (U' l) b:=hb;rcases qe l x hx with⟨hl,hx⟩|⟨rfl,rfl⟩
  ·rw[hφ l hl]at hb;exact S.wZ l x b o hx hb
  ·intro hA;have h1:=C.hA _ _ hA;have h2:=LY b hb;have:=S.size;omega
 ·intro b i hb hm;rw[wU b i (cn hb S.size)];exact S.old b i hb hm
 ·intro b hb hm;rw[hold b (cn hb S.size)];exact S.qE b hb hm
 ·intro l x b o hx hm hb;have hm:x.Ew (U' l) b o:=hm;rcases qe l x hx with⟨hl,hx⟩|⟨rfl,rfl⟩
  ·rw[hφ l hl]at hm;exact S.F2 l x b o hx hm hb
  ·have h2:=LY b (lw.qL hm);have:=S.size;omega
 ·intro x hx hm0;have h1:=AJ (World.more w (.deferred (some []))) (.loop rec) (by intro c t lo hi h;cases h) x;have h2:=AJ w (.deferred (some [])) (by intro c t lo hi h;cases h) x;exact(h1.trans h2).trans (S.AH x hx hm0)
 ·intro l hl;have q9:l<J.heap.length:=by have:=S.low;omega
  have:=S.mZ l hl
  grind
def pW.atm(S:pW C U J a w){D:Nat}{k:Bz}{st st':LoopState}{Q4:Int}{rec:Loop}(hl:J.heap[l]? =some (.loop k lE st xE))(hφ:U l= .func (.yield (D+1)) #[] #[])
 (hw:w.heap[D+1]? =some (.loop rec)):pW C U {J with heap:=J.heap.set l (.loop k lE st' Q4)} a (w.putObj (D+1) (.loop {rec with state:=st',pending:=sG k.js Q4})):=by
 have q9:l<J.heap.length:=(cm.1 hl).1;have aC0:=(dO.1 hw).1
 have qe:∀(j:Nat)(x:lw),(J.heap.set l (.loop k lE st' Q4))[j]? =some x->(j=l/\x=.loop k lE st' Q4)\/(j≠l/\J.heap[j]? =some x):=by
  grind
 have hbb:(lw.loop k lE st xE).block (U l) (D+1):=by rw[hφ];exact .inl rfl
 have hmb:∀o,(lw.loop k lE st xE).Ew (U l) (D+1) o:=by intro o;rw[hφ];exact .inl rfl
 have Ii:∀b,b≠D+1->(w.putObj (D+1) (.loop {rec with state:=st',pending:=sG k.js Q4})).heap[b]? =w.heap[b]? :=fun b hb=>World.putObj_heap_other hb
 have wU:∀b o,(w.putObj (D+1) (.loop {rec with state:=st',pending:=sG k.js Q4})).cell? ⟨b,o,none⟩=w.cell? ⟨b,o,none⟩:=by
  grind [World.cell?,World.putObj_heap_same]
 have Mu:∀b,(lw.loop k lE st' Q4).block (U l) b->(lw.loop k lE st xE).block (U l) b:=by intro b hb;rw[hφ]at hb ⊢;exact hb
 have auV:∀b o,(lw.loop k lE st' Q4).Ew (U l) b o->(lw.loop k lE st xE).Ew (U l) b o:=by intro b o hb;rw[hφ]at hb ⊢;exact hb
 have QT:∀b o,KR U (J.heap.set l (.loop k lE st' Q4)) b o->KR U J.heap b o:=by
  rintro b o ⟨j,x,hx,hm⟩;rcases qe j x hx with⟨rfl,rfl⟩|⟨_,hx⟩
  ·exact⟨j,_,hl,auV b o hm⟩
  ·exact⟨j,x,hx,hm⟩
 have hlen:∀j:Nat,oO (J.heap.set l (.loop k lE st' Q4))[j]? =oO J.heap[j]? :=by
  intro j;by_cases e:j=l
  ·subst e;rw[dW q9,hl];rfl
  grind
 have hty:=as2 (w':=w.putObj (D+1) (.loop {rec with state:=st',pending:=sG k.js Q4})) hw (by intro c t fz h;cases h) Ii
 have le:(C.env U J.heap w).Le J.heap.length (C.env U (J.heap.set l (.loop k lE st' Q4)) (w.putObj (D+1) (.loop {rec with state:=st',pending:=sG k.js Q4}))):=
  tC.GF (by simp) (fun j _=>⟨rfl,hlen j⟩) (fun b o u hm hc=>⟨fun h=>hm (h.imp (QT b o) id),by rw[wU];exact hc⟩)
 have FE:vW C U (J.heap.set l (.loop k lE st' Q4)) (w.putObj (D+1) (.loop {rec with state:=st',pending:=sG k.js Q4})) J.df a.defers:=by
  refine S.defers.step le (fun b _ hno=>Ii b (fun e=>by subst e;exact hno l _ hl hbb)) (fun j x b hx hb=>?_)
  grind
 refine {lE:=l9.mono le _ _ (l9.nb _ _ S.lE) S.lE,defers:=FE,qJ:=?_,apart:=?_,wZ:=?_,size:=by rw[World.putObj_size];exact S.size,old:=fun b o hb hm=>by rw[wU];exact S.old b o hb hm,qE:=?_,F2:=?_,AH:=?_,rest:=S.rest,low:=⟨S.low.1,by simpa using S.low.2⟩,mZ:=?_}
 ·intro j x hx;rcases qe j x hx with⟨rfl,rfl⟩|⟨uP,hx⟩
  ·obtain⟨D',agz,e1,g1,g2,g3,rl⟩:=S.qJ j _ hl;rw[hφ]at e1;simp only[dG,Fn.yield.injEq,cV,and_true]at e1;subst e1
   have hwr:agz=rec:=by
    have g1:w.heap[D+1]? =some (.loop agz):=g1;rw[hw]at g1;cases g1;rfl
   subst hwr;refine⟨D,_,hφ,World.putObj_heap_same aC0,?_,⟨g3.1,g3.2.1,g3.2.2.1,rfl,rfl,g3.2.2.2.2.2⟩,l9.mono le _ _ (l9.nb _ _ rl) rl⟩;show(w.putObj (D+1) _).heap[D]? =_;rw[Ii D (by omega)];exact g2
  ·exact qV.mono (S.qJ j x hx) le (fun b hb=>Ii b (fun e=>by subst e;exact uP (S.apart j l x _ (D+1) hx hl hb hbb)))
 ·intro j j' x x' b hx EC hb uD;rcases qe j x hx with⟨rfl,rfl⟩|⟨uP,Z6⟩<;>rcases qe j' x' EC with⟨e2,rfl⟩|⟨aqX,WH⟩
  ·exact e2.symm
  ·exact S.apart j j' _ x' b hl WH (Mu b hb) uD
  ·rw[e2]at uD ⊢;exact S.apart j l x _ b Z6 hl hb (Mu b uD)
  ·exact S.apart j j' x x' b Z6 WH hb uD
 ·intro j x b o hx hb;rcases qe j x hx with⟨rfl,rfl⟩|⟨_,hx⟩
  ·exact S.wZ j _ b o hl (Mu b hb)
  ·exact S.wZ j x b o hx hb
 ·intro b hb hm;rw[Ii b (fun e=>by subst e;exact hm 0 (S.F2 l _ (D+1) 0 hl (hmb 0) hb))];exact S.qE b hb hm
 ·intro j x b o hx hm hb;rcases qe j x hx with⟨rfl,rfl⟩|⟨_,hx⟩
  ·exact S.F2 j _ b o hl (auV b o hm) hb
  ·exact S.F2 j x b o hx hm hb
 ·intro x hx hm0;rw[<-S.AH x hx hm0]
  grind [World.frozen?,World.putObj_heap_same]
 ·intro j hj;have:=S.mZ j hj;rw[hlen j];exact this
def pW.endLoop(S:pW C U J a w){D:Nat}{k:Bz}{st:LoopState}(hl:J.heap[l]? =some (.loop k lE st xE))(hφ:U l= .func (.yield (D+1)) #[] #[])(hD:C.w0.heap.size<=D):
 pW C U {J with heap:=J.heap.set l .zU} {a with defers:=⟨.collected D,#[]⟩::a.defers} w:=by
 have q9:l<J.heap.length:=(cm.1 hl).1;have MN:C.N0<=l\/l<C.N0:=by omega
 have aK5:∀b o,KR U (J.heap.set l .zU) b o->KR U J.heap b o:=by
  rintro b o ⟨j,x,hx,hm⟩;by_cases e:j=l
  ·grind [lw.Ew]
  ·rw[dJ (fun h=>e h.symm)]at hx;exact⟨j,x,hx,hm⟩
 have qe:∀(j:Nat)(x:lw),(J.heap.set l .zU)[j]? =some x->(j=l/\x=.zU)\/(j≠l/\J.heap[j]? =some x):=by
  grind
 have hlen:∀j:Nat,oO (J.heap.set l .zU)[j]? =oO J.heap[j]? :=by
  intro j;by_cases e:j=l
  ·subst e;rw[dW q9,hl];rfl
  grind
 have le:(C.env U J.heap w).Le J.heap.length (C.env U (J.heap.set l .zU) w):=
  tC.GF (by simp) (fun j _=>⟨rfl,hlen j⟩) (fun b o u hm hc=>⟨fun h=>hm (h.imp (aK5 b o) id),hc⟩)
 have hbD:(lw.loop k lE st xE).block (U l) D:=by rw[hφ];exact .inr rfl
 have FE:vW C U (J.heap.set l .zU) w J.df (⟨.collected D,#[]⟩::a.defers):=by
  obtain⟨hnd,amg,hrd⟩:=S.defers;have hmk:akq (⟨.collected D,#[]⟩:Deferred)=true:=rfl;refine⟨?_,fun d hd hm=>?_,?_⟩
  ·grind
  ·rcases cP.1 hd with rfl|hd
   ·refine⟨D,rfl,?_,hD,fun j x hx hb=>?_⟩
    ·obtain⟨D',agz,e1,g1,g2,_⟩:=S.qJ l _ hl;rw[hφ]at e1;simp only[dG,Fn.yield.injEq,cV,and_true]at e1;subst e1;exact g2
    ·rcases qe j x hx with⟨rfl,rfl⟩|⟨uP,hx⟩
     ·simp [lw.block]at hb
     ·exact uP (S.apart j l x _ D hx hl hb hbD)
   grind [lw.block]
  ·simp only[dU,hmk,Bool.not_true,dm,if_false];exact hrd.mono le
 refine {lE:=l9.mono le _ _ (l9.nb _ _ S.lE) S.lE,defers:=FE,qJ:=?_,apart:=?_,wZ:=?_,size:=S.size,old:=S.old,qE:=S.qE,F2:=?_,AH:=S.AH,rest:=S.rest,low:=⟨S.low.1,by simpa using S.low.2⟩,mZ:=?_}
 ·intro j x hx;rcases qe j x hx with⟨rfl,rfl⟩|⟨_,hx⟩
  ·trivial
  ·exact qV.mono (S.qJ j x hx) le (fun _ _=>rfl)
 ·intro j j' x x' b hx EC hb uD;rcases qe j x hx with⟨rfl,rfl⟩|⟨_,hx⟩
  ·simp [lw.block]at hb
  ·rcases qe j' x' EC with⟨rfl,rfl⟩|⟨_,EC⟩
   ·simp [lw.block]at uD
   ·exact S.apart j j' x x' b hx EC hb uD
 ·intro j x b o hx hb;rcases qe j x hx with⟨rfl,rfl⟩|⟨_,hx⟩
  ·simp [lw.block]at hb
  ·exact S.wZ j x b o hx hb
 ·intro j x b o hx hm hb;rcases qe j x hx with⟨rfl,rfl⟩|⟨_,hx⟩
  ·simp [lw.Ew]at hm
  ·exact S.F2 j x b o hx hm hb
 ·intro j hj;have:=S.mZ j hj;rw[hlen j];exact this
def aK6(Q:qK->k9->Prop)(J:k9):Option aPy->Prop
 |none=>Q .normal J
 |some .ret=>Q .ret J
 |some (.exit id)=>Q (.exit id) J
 |_=>False
def avl{g:aPC}{ps:Array Tmp}{aPp body:aPy}{js:List (Int×aPy)}{first cap:List AV}(hg:J.ev g= .func (.func f) first cap)
 (BB:ER P f (first++[.map J.heap.length]++cap) {J with lE:=J.lE++[.map J.heap.length],heap:=J.heap++[.loop ⟨ps,aPp,body,js⟩ J.lE .ready 0]}
   (fun o H'=>∃r k s xE,o=.ret r/\H'[J.heap.length]? =some (.loop k s (stP (sG k.js xE)) xE)/\aK6 Q {J with heap:=H'.set J.heap.length .zU} (sG k.js xE))):aDh P g ps aPp body Q J:=by
 intro C U a w hP S;subst hP;refine wpIn_rangeFunc ?_;intro fn _;have hx:=S.ev g;rw[hg]at hx;obtain⟨f',c',hx,rf,rc⟩:=hx
 let lp:Loop:={state:=.ready,pending:=none,fn,tmps:=a.tmps,params:=ps,assign:=aPp,body,defers:=w.heap.size}
 let w1:=(w.alloc (.deferred (some []))).alloc (.loop lp)
 let aOR:aPx:=.func (.yield (w.heap.size+1)) #[] #[]
 have S1:=S.aDj ⟨ps,aPp,body,js⟩ lp S.lE ⟨rfl,rfl,rfl,rfl,rfl,rfl⟩
 have rY:rD (C.env (fun l=>if l=J.heap.length then aOR else U l) (J.heap++[.loop ⟨ps,aPp,body,js⟩ J.lE .ready 0]) w1) (.map J.heap.length) aOR:=by
  refine⟨by simp [tC.env],by simp [tC.env,aOR],w.heap.size+1,?_⟩;simp [tC.env,aOR,hdl]
 have S2:pW C (fun l=>if l=J.heap.length then aOR else U l) {J with lE:=J.lE++[.map J.heap.length],heap:=J.heap++[.loop ⟨ps,aPp,body,js⟩ J.lE .ready 0]} {a with tmps:=a.tmps.push aOR} w1:=by
  refine {S1 with lE:=?_,defers:=S1.defers};simp only[cR];exact S1.lE.append ⟨aOR,[],rfl,rY,rfl⟩
 have hle:(C.env U J.heap w).Le J.heap.length (C.env (fun l=>if l=J.heap.length then aOR else U l) (J.heap++[.loop ⟨ps,aPp,body,js⟩ J.lE .ready 0]) w1):=by
  refine tC.GF (ht:=(akp _ rfl).trans (akp _ rfl)) (by simp) (fun l hl=>⟨by rw[if_neg (by omega)],by rw[cJ hl]⟩) (fun b i u hm hc=>?_);have hb:=Kk hc
  have hold:w1.heap[b]? =w.heap[b]? :=by
   show(World.more (World.more w _) _).heap[b]? =_
   grind [World.more]
  refine⟨fun h=>?_,by grind [World.cell?]⟩;rcases h with⟨l,x,hx,hm'⟩|h
  ·by_cases hl:l<J.heap.length
   ·rw[cJ hl]at hx;have hm':x.Ew (if l=J.heap.length then aOR else U l) b i:=hm';rw[if_neg (by omega)]at hm';exact hm (.inl ⟨l,x,hx,hm'⟩)
   ·have hl':l=J.heap.length:=by
     grind
    subst hl';simp at hx;subst hx;have hm':(lw.loop ⟨ps,aPp,body,js⟩ J.lE .ready 0).Ew (if J.heap.length=J.heap.length then aOR else U J.heap.length) b i:=hm';rw[if_pos rfl]at hm';rcases hm' with rfl|h<;>omega
  ·exact hm (.inr h)
 have aO1:l9 (C.env (fun l=>if l=J.heap.length then aOR else U l) (J.heap++[.loop ⟨ps,aPp,body,js⟩ J.lE .ready 0]) w1) (first++[.map J.heap.length]++cap) (f'++ #[aOR]++c').toList:=by
  have hY:l9 (C.env (fun l=>if l=J.heap.length then aOR else U l) (J.heap++[.loop ⟨ps,aPp,body,js⟩ J.lE .ready 0]) w1) [.map J.heap.length] [aOR]:=⟨aOR,[],rfl,rY,rfl⟩;simp only[dj];exact((l9.mono hle _ _ (l9.nb _ _ rf) rf).append hY).append (l9.mono hle _ _ (l9.nb _ _ rc) rc)
 obtain⟨he,hc⟩:=BB
 have Q5: ∃fnc,C.P.funcs[f]? =some fnc/\fnc.name≠ "runtime.NumGoroutine" /\fnc.body≠none:=by
  grind [Bs]
 obtain⟨fnc,hf,aK7,ar2⟩:=Q5;refine⟨w.heap.size+1,[⟨.collected w.heap.size,#[]⟩],w1,{target:=.fn (.func f) c',args:=f'++ #[aOR]},w1,f,f'++ #[aOR]++c',w1,?_,?_,fun _ _=>trivial,?_,fun h=>by simp [KS,cz]at h,?_⟩
 ·exact run_enterLoop_outer _ _ _ _ _
 ·have hev:a.eval g=.func (.func f) f' c':=hx;have hY2:a.eval (.const aOR)=aOR:=rfl;simp [resolve,hev,Deferred.ofValue];rfl
 ·simp [invoke,callFunc,hf,aK7,ar2]
 ·refine N5.2 ((hc C _ _ w1 rfl S2 _ aO1).mono ?_);rintro e w' ⟨o,U2,H',⟨r,k,s,xE,rfl,hH,hj⟩,S3,wm⟩;cases e with
  |panicked chain=>exact wm.elim
  |outgrown=>exact wm.elim
  |returned v=>
   have aDk:U2 J.heap.length=aOR:=by
    have hsl:=S3.lE;have hlen:a.tmps.toList.length=J.lE.length:=S.lE.length;have:=hsl.drop J.lE.length;simp only[cR]at this;rw[da rfl,da hlen]at this;obtain⟨u,us,he2,r1,_⟩:=this;simp only[cK]at he2;obtain⟨rfl,_⟩:=he2;exact r1.2.1.symm
   have S4:pW C U2 {J with heap:=H'} a w':=by
    have hsl:=S3.lE;have hlen:a.tmps.toList.length=J.lE.length:=S.lE.length;have:=hsl.take J.lE.length;simp only[cR]at this;rw[cZ rfl,cZ hlen]at this;exact {S3 with lE:=this,defers:=S3.defers}
   obtain⟨D,agz,e1,g1,g2,g3,_⟩:=S4.qJ _ _ hH;rw[aDk]at e1;simp only[aOR,dG,Fn.yield.injEq,cV,and_true]at e1;subst e1;have g1:w'.heap[w.heap.size+1]? =some (.loop agz):=g1;have Z9:=run_endLoop (P:=C.P) g1 (by grind [atl]);rw[g3.2.2.2.2.1]at Z9;refine⟨sG k.js xE,_,Z9,?_⟩
   have S5:pW C U2 {J with heap:=H'.set J.heap.length .zU} {a with defers:=⟨.collected w.heap.size,#[]⟩::a.defers} (w'.putObj (w.heap.size+1) (.loop {agz with state:=.exhausted,pending:=sG k.js xE})):=by
    have h5:=S4.atm (st':=.exhausted) (Q4:=xE) hH aDk g1
    have h6:=h5.endLoop (l:=J.heap.length) (D:=w.heap.size) (k:=k) (lE:=s) (st:=.exhausted) (xE:=xE) (by
     grind) aDk S.size
    simp_all
   generalize sG k.js xE=pc at*;cases pc with
   |none=>exact⟨U2,_,S5,hj⟩
   |some c=>
    cases c with
    |ret=>exact wpIn_ret ⟨U2,_,S5,hj⟩
    |exit id=>exact wpIn_exit ⟨U2,_,S5,hj⟩
    |_=>exact hj.elim
end
inductive CO where
 |ret (e:yO)
 |pan (x:AV) (H:List lw)
structure mg(R:Type) where
 P:aPA
 body:aPy
 cl:aPz->List AV->List lw->Option (AV×List lw)
 cd:aPz->List AV->Option AV
 vc:List Nat->k9->Option k9
 cut:List Nat->k9->Option k9
 n:Nat
 out:k9->Option R
 cy:Nat->List AV->List lw->Option (AV×List lw):=fun _ _ _=>none
 pR:qK->k9->Option R:=fun _ _=>none
 js:List Nat->List (Int×aPy):=fun _=>[]
 AK:aPz->Bool:=fun _=>false
 ce:aPz->List AV->List lw->Option yO:=fun _ _ _=>none
 zV:aPz->Bool:=fun _=>false
 cp:aPz->List AV->List lw->Option (yJ×List lw):=fun _ _ _=>none
 AI:aPz->Bool:=fun _=>false
 co:aPz->List AV->List lw->Option CO:=fun _ _ _=>none
 ua:AV->k9->Option R:=fun _ _=>none
def qq(p:Prop)(x:Option R):Option R:= @ite _ p (Classical.propDecidable p) x none
theorem pH{x:Option R}{r:R}:qq p x=some r↔p/\x=some r:=by
 grind [qq]
def ax7{x:Option R}:qq True x=x:=by simp [qq]
theorem aib {q:Prop}{x:Option R}:qq (p/\q) x=qq p (qq q x):=by
 grind [qq]
def asa[Decidable p]{x:Option R}:qq p x=bif decide p then x else none:=by
 grind [qq]
def apr(x:aPC)(b:Bool)(J:k9):k9:=
 match x with
 |.tmp t=>{J with lE:=J.lE.set t (.bool b)}
 |_=>J
def az5{x:aPC}(h:J.ev x=.bool b):apr x b J=J:=by
 cases x with
 |tmp t=>
  simp only[k9.ev,List.getD]at h;cases hg:J.lE[t]? with
  |none=>rw[hg]at h;simp at h
  |some v=>
   rw[hg]at h;simp only[dA]at h;subst h;obtain⟨q9,he⟩:=cm.1 hg;simp only[apr];rw[<-he,dX]
 |_=>rfl
def zW(lR:Array aPw)(o:aPw)(b:Bool)(J:k9):k9:=
 match o.guard with
 |none=>J
 |some (j,want)=>match (lR[j]?).bind (·.dst)with
  |some d=>match J.lE[d]? with
   |some (.bool _)=>{J with lE:=J.lE.set d (.bool (b==want))}
   |_=>J
  |none=>J
def atn(h:tH lR o J=some b):zW lR o b J=J:=by
 unfold tH at h;unfold zW;split
 ·rfl
 ·rename_i j want hg;simp only[hg]at h;split
  ·rename_i d hd;simp only[hd]at h;split
   ·rename_i c hc;simp only[hc,ck]at h;have:(b==want)=c:=by subst h;cases c<;>cases want<;>rfl
    rw[this];obtain⟨q9,he⟩:=cm.1 hc;rw[<-he,dX]
   ·rfl
  ·rfl
section

def zx (M:mg R) (lR:Array aPw):List aPw->k9->Option (qK×k9)
 |[],J=>some (.normal,J)
 |o::rest,J=>match tH lR o J with
  |none=>none
  |some b=>bif b then (match pZ (zW lR o true J) o.op with
    |some (f,args)=>bif M.zV f then(match M.cp f args (zW lR o true J).heap with
      |some (.ret r,H')=>zx M lR rest (k9.put {zW lR o true J with heap:=H'} o.dst r)
      |some (.panic x,H')=>some (.panic x,{zW lR o true J with heap:=H'})
      |none=>none)
     else match M.cl f args (zW lR o true J).heap with
     |some (r,H')=>zx M lR rest (k9.put {zW lR o true J with heap:=H'} o.dst r)
     |none=>none
    |none=>match Gf (zW lR o true J) o.op with
     |some (l,args)=>match M.cy l args (zW lR o true J).heap with
      |some (r,H')=>zx M lR rest (k9.put {zW lR o true J with heap:=H'} o.dst r)
      |none=>none
     |none=>match nf M.P (zW lR o true J) o.op with
      |some e=>qq e.pre (zx M lR rest ((zW lR o true J).app o.dst e))
      |none=>match LZ (zW lR o true J) o.op with
       |some p=>zx M lR rest ((zW lR o true J).dfr p o.dst)
       |none=>match abr (zW lR o true J) o.op with
        |some x=>some (.panic x,zW lR o true J)
        |none=>none)
   else zx M lR rest ((zW lR o false J).put o.dst (.uS undef))
def Pn (M:mg R) (lR:Array aPw):List aPw->Nat->List Tr->k9->Option (qK×k9)
 |[],_,_,J=>some (.normal,J)
 |o::rest,j,tr,J=>match tH lR o J with
  |none=>none
  |some b=>bif b then(match pZ (zW lR o true J) o.op with
    |some (f,args)=>bif M.AI f then(match M.co f args (zW lR o true J).heap with
      |some (.ret e)=>qq (e.pre/\adp lR tr j e) (Pn M lR rest (j+1) (R2 tr j (zW lR o true J).heap.length e) ((zW lR o true J).app o.dst e))
      |some (.pan x H')=>qq (avf lR j=true\/(Xh tr=true/\aby M.P lR j rest (j+1) ((zW lR o true J).put o.dst (.uS undef)))) (some (.panic x,{zW lR o true J with lE:=ado lR (zW lR o true J).lE,heap:=H'}))
      |none=>none)
     else bif M.AK f then(match M.ce f args (zW lR o true J).heap with
      |some e=>qq (e.pre/\adp lR tr j e) (Pn M lR rest (j+1) (R2 tr j (zW lR o true J).heap.length e) ((zW lR o true J).app o.dst e))
      |none=>none)
     else match M.cd f args with
     |some r=>Pn M lR rest (j+1) tr ((zW lR o true J).put o.dst r)
     |none=>none
    |none=>match nf M.P (zW lR o true J) o.op with
     |some e=>qq (e.pre/\adp lR tr j e) (Pn M lR rest (j+1) (R2 tr j (zW lR o true J).heap.length e) ((zW lR o true J).app o.dst e))
     |none=>none)
   else Pn M lR rest (j+1) tr ((zW lR o false J).put o.dst (.uS undef))
def lqN(vc:k9->Option k9)(body:k9->Option (qK×k9)):Nat->k9->Option (qK×k9)
 |0,_=>none
 |m+1,J=>match body J with
  |some (.normal,J')=>(vc J').bind (lqN vc body m)
  |r=>r
def avm(J:k9):Option aPy->Option (qK×k9)
 |none=>some (.normal,J)
 |some .ret=>some (.ret,J)
 |some (.exit id)=>some (.exit id,J)
 |_=>none
def aFZ(J:k9)(H':List lw):Option lw->Option (qK×k9)
 |some (.loop lk _ st xE)=>qq (st=stP (sG lk.js xE)) (avm {J with heap:=H'.set J.heap.length .zU} (sG lk.js xE))
 |_=>none
def aDl(M:mg R)(lk:Bz)(J:k9):AV->Option (qK×k9)
 | .func (.func f) first cap=>match M.cl f (first++[.map J.heap.length]++cap) (J.heap++[.loop lk J.lE .ready 0]) with
   |some (_,H')=>aFZ J H' H'[J.heap.length]?
   |none=>none
 |_=>none
def exec(M:mg R):aPy->List Nat->k9->Option (qK×k9)
 |.skip,_,J=>some (.normal,J)
 |.region _ lR false,_,J=>zx M lR lR.toList J
 |.region _ lR true,_,J=>qq (M.P.follows .mixedOrders=true/\NG lR=true) (Pn M lR lR.toList 0 [] J)
 | .seq x y,p,J=>match exec M x (0::p) J with
   |some (.normal,J')=>(M.cut (1::p) J').bind (exec M y (1::p))
   |r=>r
 | .cond c x y,p,J=>match J.ev c with
   |.bool b=>bif b then exec M x (0::p) (apr c true J)else exec M y (1::p) (apr c false J)
   |_=>none
 | .block id x,p,J=>match exec M x (0::p) J with
   |some (.exit id',J')=>if id'=id then some (.normal,J')else some (.exit id',J')
   |r=>r
 |.loop x,p,J=>(M.vc p J).bind (lqN (M.vc p) (exec M x (0::p)) M.n)
 |.exit id,_,J=>some (.exit id,J)
 |.scope x,p,J=>exec M x (0::p) J
 |.label _,_,J=>some (.normal,J)
 |.ret,_,J=>some (.ret,J)
 |.goto _,_,_=>none
 |.rangeFunc g ps aPp body,p,J=>aDl M ⟨ps,aPp,body,M.js p⟩ J (J.ev g)
 |.refuse _,_,_=>none
structure KX(M:mg R):Prop where
 cl:∀f args J r H',M.cl f args J.heap=some (r,H')->ER M.P f args J (fun o Kl=>o=.ret r/\Kl=H')
 cd:∀f args r,M.cd f args=some r->N6 M.P f args (fun v=>v=r)
 vc:∀p J J',M.vc p J=some J'->N4 J J'
 cut:∀p J J',M.cut p J=some J'->N4 J J'
 cy:∀l args J r H',M.cy l args J.heap=some (r,H')->RY M.P l args J (fun o Kl=>o=.ret r/\Kl=H')
 ce:∀f args J e,M.ce f args J.heap=some e->L9 M.P f args J e
 cp:∀f args J o H',M.cp f args J.heap=some (o,H')->ER M.P f args J (fun o' Kl=>o'=o/\Kl=H')
 co:∀f args J,(∀e,M.co f args J.heap=some (.ret e)->L9 M.P f args J e)/\∀x H',M.co f args J.heap=some (.pan x H')->apn M.P f args J.heap x H'
def uG:∀(f:aPz)(args:List AV)(J:k9)(o:yJ)(H':List lw),(fun _ _ _=>none:aPz->List AV->List lw->Option (yJ×List lw)) f args J.heap=some (o,H')->ER P f args J (fun o' Kl=>o'=o/\Kl=H'):=by
 intro f args J o H' h;cases h
def uw:∀(f:aPz)(args:List AV)(J:k9),(∀e,(fun _ _ _=>none:aPz->List AV->List lw->Option CO) f args J.heap=some (.ret e)->L9 P f args J e)/\∀x H',(fun _ _ _=>none:aPz->List AV->List lw->Option CO) f args J.heap=some (.pan x H')->apn P f args J.heap x H':=by
 grind
def ER.mono {K':yJ->List lw->Prop}(h:ER P f args J K)(hk:∀o H,K o H->K' o H):ER P f args J K':=by
 obtain⟨he,hc⟩:=h;refine⟨he,fun C U a w hP S vs hr=>(hc C U a w hP S vs hr).mono ?_⟩
 grind
def RY.mono {K':yJ->List lw->Prop}(h:RY P l args J K)(hk:∀o H,K o H->K' o H):RY P l args J K':=by
 obtain⟨he,hc⟩:=h;refine⟨he,fun C U a w hP S vs hr D rec h1 h2=>(hc C U a w hP S vs hr D rec h1 h2).mono ?_⟩
 grind
def uh:∀(l:Nat)(args:List AV)(J:k9)(r:AV)(H':List lw),(fun _ _ _=>none:Nat->List AV->List lw->Option (AV×List lw)) l args J.heap=some (r,H')->RY P l args J (fun o Kl=>o=.ret r/\Kl=H'):=by
 intro l args J r H' h;cases h
def FF {M:mg R} (G:KX M) {lR:Array aPw} {Q:qK->k9->Prop}: ∀ (rest:List aPw) (J J':k9) (e:qK),zx M lR rest J=some (e,J')->Q e J'->Z7 M.P lR rest Q J
 |[],J,J',e,h,hq=>by simp only[zx,ck,cq]at h;obtain⟨rfl,rfl⟩:=h;exact hq
 |o::rest,J,J',en,h,hq=>by
  simp only[zx]at h;simp only[Z7];cases hw:tH lR o J with
  |none=>simp only[hw]at h;cases h
  |some b=>
   simp only[hw]at h;have hg:=atn hw;cases b with
   |false=>
    refine⟨fun h=>(by cases h),fun _=>?_⟩;simp only[kQ,hg]at h;exact FF G rest _ J' _ h hq
   |true=>
    refine⟨fun _=>?_,fun h=>by cases h⟩;simp only[kP,hg]at h;cases hc:pZ J o.op with
    |some p=>
     obtain⟨f,args⟩:=p;simp only[hc]at h ⊢;cases hi:M.zV f with
     |true=>
      simp only[hi,kP]at h;cases ha:M.cp f args J.heap with
      |none=>simp only[ha]at h;cases h
      |some q=>
       obtain⟨r,H'⟩:=q;refine(G.cp f args J r H' ha).mono ?_;cases r with
       |ret r=>
        simp only[ha]at h;rintro o' Kl ⟨rfl,rfl⟩;exact FF G rest _ J' _ h hq
       |panic x=>
        grind
     |false=>
      simp only[hi,kQ]at h;cases ha:M.cl f args J.heap with
      |none=>simp only[ha]at h;cases h
      |some q=>
       obtain⟨r,H'⟩:=q;simp only[ha]at h;refine(G.cl f args J r H' ha).mono ?_;rintro o' Kl ⟨rfl,rfl⟩;exact FF G rest _ J' _ h hq
    |none=>
     simp only[hc]at h ⊢;cases hy:Gf J o.op with
     |some p=>
      obtain⟨l,args⟩:=p;simp only[hy]at h ⊢;cases ha:M.cy l args J.heap with
      |none=>simp only[ha]at h;cases h
      |some q=>
       obtain⟨r,H'⟩:=q;simp only[ha]at h;refine(G.cy l args J r H' ha).mono ?_;rintro o' Kl ⟨rfl,rfl⟩;exact FF G rest _ J' _ h hq
     |none=>
      simp only[hy]at h ⊢;cases he:nf M.P J o.op with
      |none=>
       simp only[he]at h ⊢;cases hd:LZ J o.op with
       |some p=>
        simp only[hd]at h ⊢;exact FF G rest _ J' _ h hq
       |none=>
        grind
      |some e=>
       simp only[he]at h;rw[pH]at h;exact⟨h.1,FF G rest _ J' _ h.2 hq⟩
def Oa {M:mg R} (G:KX M) {lR:Array aPw} {Q:qK->k9->Prop}: ∀ (rest:List aPw) (j:Nat) (tr:List Tr) (J J':k9) (e:qK),Pn M lR rest j tr J=some (e,J')->Q e J'->akJ M.P lR Q rest j tr J
 |[],_,_,J,J',e,h,hq=>by simp only[Pn,ck,cq]at h;obtain⟨rfl,rfl⟩:=h;exact hq
 |o::rest,j,tr,J,J',en,h,hq=>by
  simp only[Pn]at h;simp only[akJ];cases hw:tH lR o J with
  |none=>simp only[hw]at h;cases h
  |some b=>
   simp only[hw]at h;have hg:=atn hw;cases b with
   |false=>
    refine⟨fun h=>(by cases h),fun _=>?_⟩;simp only[kQ,hg]at h;exact Oa G rest _ _ _ J' _ h hq
   |true=>
    refine⟨fun _=>?_,fun h=>(by cases h)⟩;simp only[kP,hg]at h;cases hc:pZ J o.op with
    |some p=>
     obtain⟨f,args⟩:=p;simp only[hc]at h ⊢;cases hic:M.AI f with
     |true=>
      simp only[hic,kP]at h;cases ha:M.co f args J.heap with
      |none=>simp only[ha]at h;cases h
      |some q=>
       cases q with
       |ret e=>
        simp only[ha]at h;rw[pH]at h;exact .inr (.inl ⟨e,(G.co f args J).1 e ha,h.1.2,Oa G rest _ _ _ J' _ h.2 hq⟩)
       |pan x H'=>
        simp only[ha]at h;rw[pH]at h;obtain⟨h1,h⟩:=h;simp only[ck,cq]at h;obtain⟨rfl,rfl⟩:=h;exact .inr (.inr ⟨x,H',(G.co f args J).2 x H' ha,h1,hq⟩)
     |false=>
     simp only[hic,kQ]at h;cases hi:M.AK f with
     |true=>
      simp only[hi,kP]at h;cases ha:M.ce f args J.heap with
      |none=>simp only[ha]at h;cases h
      |some e=>
       simp only[ha]at h;rw[pH]at h;exact .inr (.inl ⟨e,G.ce f args J e ha,h.1.2,Oa G rest _ _ _ J' _ h.2 hq⟩)
     |false=>
     simp only[hi,kQ]at h;cases ha:M.cd f args with
     |none=>simp only[ha]at h;cases h
     |some r=>
      simp only[ha]at h;exact .inl ⟨r,G.cd f args r ha,Oa G rest _ _ _ J' _ h hq⟩
    |none=>
     simp only[hc]at h ⊢;cases he:nf M.P J o.op with
     |none=>simp only[he]at h;cases h
     |some e=>
      simp only[he]at h;rw[pH]at h;exact⟨h.1.1,h.1.2,Oa G rest _ _ _ J' _ h.2 hq⟩
def aps{vc:k9->Option k9}{body:k9->Option (qK×k9)}(hb: ∀J l J',body J≠some (.goto l,J')): ∀(m:Nat)(J:k9)(l:Nat)(J':k9),lqN vc body m J≠some (.goto l,J')
 |0,_,_,_=>by simp [lqN]
 |m+1,J,l,J'=>by
  intro h;simp only[lqN]at h;cases hx:body J with
  |none=>simp only[hx]at h;cases h
  |some r=>
   obtain⟨e1,J1⟩:=r;cases e1 with
   |normal=>
    simp only[hx]at h;cases hn:vc J1 with
    |none=>grind
    |some J2=>simp only[hn,cW]at h;exact aps hb m J2 l J' h
   |goto l'=>exact hb _ _ _ hx
   |_=>grind
theorem ax8{M:mg R}:∀(rest:List aPw)(J:k9)(l:Nat)(J':k9),zx M lR rest J≠some (.goto l,J'):=by
 intro rest;induction rest with
 |nil=>grind [zx]
 |cons o rest ih=>
  intro J l J' h;simp only[zx]at h
  grind [pH]
theorem aDm{M:mg R}:∀(rest:List aPw)(j:Nat)(tr:List Tr)(J:k9)(l:Nat)(J':k9),Pn M lR rest j tr J≠some (.goto l,J'):=by
 intro rest;induction rest with
 |nil=>grind [Pn]
 |cons o rest ih=>
  grind [Pn,pH]
theorem aDn{c:Option aPy}:avm J c≠some (.goto l,J'):=by
 intro h;unfold avm at h;split at h<;>simp at h
def aF0{M:mg R}{lk:Bz}:aDl M lk J v≠some (.goto l,J'):=by
 intro h;unfold aDl at h;split at h
 ·split at h
  ·unfold aFZ at h
   grind [pH,aDn]
  ·cases h
 ·cases h
theorem Za(M:mg R):∀(c:aPy)(p:List Nat)(J:k9)(l:Nat)(J':k9),exec M c p J≠some (.goto l,J')
 |.skip,_,_,_,_=>by simp [exec]
 |.label _,_,_,_,_=>by simp [exec]
 |.ret,_,_,_,_=>by simp [exec]
 |.exit id,_,_,_,_=>by simp [exec]
 |.region _ lR false,_,_,_,_=>by grind [exec,ax8]
 | .region _ lR true,_,_,_,_=>by
   grind [exec,pH,aDm]
 | .seq x y,p,J,l,J'=>by
   intro h;simp only[exec]at h;cases hx:exec M x (0::p) J with
   |none=>simp only[hx]at h;cases h
   |some r=>
    obtain⟨e1,J1⟩:=r;cases e1 with
    |normal=>
     simp only[hx]at h;cases hc:M.cut (1::p) J1 with
     |none=>grind
     |some J2=>simp only[hc,cW]at h;exact Za M y _ _ _ _ h
    |goto l'=>exact Za M x _ _ _ _ hx
    |_=>grind
 | .cond c x y,p,J,l,J'=>by
   intro h;simp only[exec]at h;cases hv:J.ev c with
   |bool b=>
    simp only[hv]at h;cases b with
    |true=>exact Za M x _ _ _ _ h
    |false=>exact Za M y _ _ _ _ h
   |_=>simp only[hv]at h;cases h
 | .block id x,p,J,l,J'=>by
   intro h;simp only[exec]at h;cases hx:exec M x (0::p) J with
   |none=>simp only[hx]at h;cases h
   |some r=>
    obtain⟨e1,J1⟩:=r;cases e1 with
    |exit id'=>
     grind
    |goto l'=>exact Za M x _ _ _ _ hx
    |_=>grind
 | .loop x,p,J,l,J'=>by
   intro h;simp only[exec]at h;cases hn:M.vc p J with
   |none=>grind
   |some J1=>
    simp only[hn,cW]at h;exact aps (fun _ _ _=>Za M x _ _ _ _) _ _ _ _ h
 | .scope x,p,J,l,J'=>by
   intro h;simp only[exec]at h;exact Za M x _ _ _ _ h
 |.goto _,_,_,_,_=>by simp [exec]
 |.rangeFunc g ps aPp body,_,_,_,_=>by simp only[exec];exact aF0
 |.refuse _,_,_,_,_=>by simp [exec]
def DK {M:mg R} (G:KX M): ∀ (c:aPy) (p:List Nat) (Q:qK->k9->Prop) (J:k9) (e:qK) (J':k9),exec M c p J=some (e,J')->Q e J'->awp M.P c Q J
 |.skip,_,Q,J,e,J',h,hq=>by simp only[exec,ck,cq]at h;obtain⟨rfl,rfl⟩:=h;exact hq
 |.label _,_,Q,J,e,J',h,hq=>by simp only[exec,ck,cq]at h;obtain⟨rfl,rfl⟩:=h;exact hq
 |.ret,_,Q,J,e,J',h,hq=>by simp only[exec,ck,cq]at h;obtain⟨rfl,rfl⟩:=h;exact hq
 |.exit id,_,Q,J,e,J',h,hq=>by simp only[exec,ck,cq]at h;obtain⟨rfl,rfl⟩:=h;exact hq
 | .region _ lR false,_,Q,J,e,J',h,hq=>by
   simp only[exec]at h;exact FF G _ _ _ _ h hq
 | .region _ lR true,_,Q,J,e,J',h,hq=>by
   simp only[exec]at h;rw[pH]at h;obtain⟨hp,h⟩:=h;exact⟨hp,Oa G _ _ _ _ _ _ h hq⟩
 | .seq x y,p,Q,J,e,J',h,hq=>by
   simp only[exec]at h;cases hx:exec M x (0::p) J with
   |none=>simp only[hx]at h;cases h
   |some r=>
    obtain⟨e1,J1⟩:=r;refine DK G x (0::p) _ J e1 J1 hx ?_;cases e1 with
    |normal=>
     simp only[hx]at h;cases hc:M.cut (1::p) J1 with
     |none=>grind
     |some J2=>
      simp only[hc,cW]at h;exact⟨J2,G.cut _ _ _ hc,DK G y (1::p) Q J2 e J' h hq⟩
    |_=>
     simp only[hx,ck,cq]at h;obtain⟨rfl,rfl⟩:=h;exact hq
 | .cond c x y,p,Q,J,e,J',h,hq=>by
   simp only[exec]at h;simp only[awp];cases hv:J.ev c with
   |bool b=>
    simp only[hv]at h ⊢;cases b with
    |true=>simp only[kP,az5 hv]at h;exact⟨fun _=>DK G x (0::p) Q J e J' h hq,fun h=>(by cases h)⟩
    |false=>simp only[kQ,az5 hv]at h;exact⟨fun h=>(by cases h),fun _=>DK G y (1::p) Q J e J' h hq⟩
   |_=>simp only[hv]at h;cases h
 | .block id x,p,Q,J,e,J',h,hq=>by
   simp only[exec]at h;cases hx:exec M x (0::p) J with
   |none=>simp only[hx]at h;cases h
   |some r=>
    obtain⟨e1,J1⟩:=r;refine DK G x (0::p) _ J e1 J1 hx ?_;cases e1 with
    |exit id'=>
     grind [qK.inBlock]
    |_=>
     simp only[hx,ck,cq]at h;obtain⟨rfl,rfl⟩:=h;exact hq
 | .loop x,p,Q,J,e,J',h,hq=>by
   simp only[exec]at h;cases hn:M.vc p J with
   |none=>grind
   |some J1=>
    simp only[hn,cW]at h;refine⟨fun m J2=>lqN (M.vc p) (exec M x (0::p)) m J2=some (e,J'),M.n,J1,G.vc _ _ _ hn,h,?_⟩;intro m J2 h2;cases m with
    |zero=>simp only[lqN]at h2;cases h2
    |succ m=>
     simp only[lqN]at h2;cases hx:exec M x (0::p) J2 with
     |none=>simp only[hx]at h2;cases h2
     |some r=>
      obtain⟨e1,J3⟩:=r;refine DK G x (0::p) _ J2 e1 J3 hx ?_;cases e1 with
      |normal=>
       simp only[hx]at h2;cases hn2:M.vc p J3 with
       |none=>grind
       |some J4=>
        simp only[hn2,cW]at h2;exact⟨m,J4,Nat.lt_succ_self _,G.vc _ _ _ hn2,h2⟩
      |_=>
       simp only[hx,ck,cq]at h2;obtain⟨rfl,rfl⟩:=h2;exact hq
 | .scope x,p,Q,J,e,J',h,hq=>by
   simp only[exec]at h;refine DK G x (0::p) _ J e J' h ?_;cases e with
   |goto l=>grind [Za]
   |_=>exact hq
 |.goto _,_,_,_,_,_,h,_=>by simp only[exec]at h;cases h
 | .rangeFunc g ps aPp body,p,Q,J,e,J',h,hq=>by
   simp only[exec]at h;simp only[awp];unfold aDl at h;split at h
   ·rename_i f first cap hv
    split at h
    ·rename_i r H' hc;refine avl hv ((G.cl f _ {J with lE:=J.lE++[.map J.heap.length],heap:=J.heap++[.loop ⟨ps,aPp,body,M.js p⟩ J.lE .ready 0]} r H' hc).mono ?_);rintro o' Kl ⟨rfl,rfl⟩;unfold aFZ at h;split at h
     ·rename_i k s st xE hH;rw[pH]at h;obtain⟨hst,h⟩:=h;subst hst;refine⟨r,k,s,xE,rfl,hH,?_⟩;generalize sG k.js xE=pc at*;unfold avm at h;split at h
      ·simp only[ck,cq]at h;obtain⟨rfl,rfl⟩:=h;exact hq
      ·simp only[ck,cq]at h;obtain⟨rfl,rfl⟩:=h;exact hq
      ·simp only[ck,cq]at h;obtain⟨rfl,rfl⟩:=h;exact hq
      ·cases h
     ·cases h
    ·cases h
   ·cases h
 |.refuse _,_,_,_,_,_,h,_=>by simp only[exec]at h;cases h
end
def aF1(C:tC)(U:Nat->aPx)(H:List lw)(w:aPB):Prop:=pW C U {lE:=[],heap:=H,low:=H.length} {tmps:= #[],defers:=[]} w
def FnG(P:aPA)(f:aPz)(args:List AV)(H:List lw)(V:yJ->List lw->Prop):Prop:=
 Bs P f=true/\yg H.length args/\(∀x∈H,uJ H.length x)/\∀(C:tC)(U:Nat->aPx)(w:aPB),C.P=P->C.w0=w->C.N0=H.length->(∀l,l<H.length->C.U0 l=U l/\C.ln0 l=oO H[l]?)->(∀b o,C.M0 b o↔KR U H b o)->
  aF1 C U H w->∀vs:Array aPx,l9 (C.env U H w) args vs.toList->
  Calls P f vs w fun e w'=>∃o U' H',V o H'/\pW C U' {lE:=[],heap:=H',low:=H.length} {tmps:= #[],defers:=[]} w'/\o.rep (C.env U' H' w') e
def vf:List lw->List Nat->List lw->List lw
 |H,l::ls,x::xs=>vf (H.set l x) ls xs
 |H,_,_=>H
def rA(Y:List Nat)(n:Nat)(l:Nat):Nat:=if l<Y.length then Y.getD l 0 else n+(l-Y.length)
def A6(Y:List Nat)(H H':List lw):List lw:=
 vf H Y (H'.map (lw.s8 (rA Y H.length)))++(H'.drop Y.length).map (lw.s8 (rA Y H.length))
theorem BF:∀(H:List lw)(ls:List Nat)(xs:List lw),(vf H ls xs).length=H.length
 |_,[],_=>by simp [vf]
 |_,_::_,[]=>by simp [vf]
 |H,l::ls,x::xs=>by rw[vf,BF,List.length_set]
theorem L0:∀(ls:List Nat)(H:List lw)(xs:List lw)(k:Nat),k ∉ ls->(vf H ls xs)[k]? =H[k]?
 |[],_,_,_,_=>by simp [vf]
 |_::_,_,[],_,_=>by simp [vf]
 |l::ls,H,x::xs,k,h=>by
  simp only[cP,not_or]at h;rw[vf,L0 ls _ xs k h.2,dJ (fun e=>h.1 e.symm)]
theorem abz:∀(ls:List Nat)(H:List lw)(xs:List lw)(i k:Nat)(x:lw),ls.Nodup->ls[i]? =some k->xs[i]? =some x->k<H.length->(vf H ls xs)[k]? =some x
 |[],_,_,_,_,_,_,h,_,_=>by simp at h
 |_::_,_,[],_,_,_,_,_,h,_=>by simp at h
 |l::ls,H,y::ys,0,k,x,hnd,h,hx,hk=>by
  grind [vf,L0]
 |l::ls,H,y::ys,i+1,k,x,hnd,h,hx,hk=>by
  simp at h hx;rw[dV]at hnd;rw[vf];exact abz ls _ ys i k x hnd.2 h hx (by rw[List.length_set];exact hk)
def apt:List Nat->Nat->Option Nat
 |[],_=>none
 |x::xs,k=>if x=k then some 0 else(apt xs k).map (· +1)
theorem akM:∀(Y:List Nat)(l k:Nat),Y.Nodup->Y[l]? =some k->apt Y k=some l
 |[],_,_,_,h=>by simp at h
 |x::xs,0,k,_,h=>by simp at h;subst h;simp [apt]
 |x::xs,l+1,k,hnd,h=>by
  simp at h;rw[dV]at hnd;have uP:x≠k:=fun e=>hnd.1 (e ▸ dh h)
  simp [apt,uP,akM xs l k hnd.2 h]
theorem apu:∀(Y:List Nat)(k:Nat),k ∉ Y->apt Y k=none
 |[],_,_=>rfl
 |x::xs,k,h=>by
  simp only[cP,not_or]at h;have uP:x≠k:=fun e=>h.1 e.symm
  simp [apt,uP,apu xs k h.2]
section call
variable {C:tC} {w:aPB}
structure agA(T:aPx->aPB->Array aPx->(aPD->aPB->Prop)->Prop):Prop where
 mono:∀h w vs R R',(∀e w',R e w'->R' e w')->T h w vs R->T h w vs R'
def FnT(P:aPA)(T:aPx->aPB->Array aPx->(aPD->aPB->Prop)->Prop)(args:List AV)(H:List lw)(V:yJ->List lw->Prop):Prop:=
 yg H.length args/\(∀x∈H,uJ H.length x)/\∀(C:tC)(U:Nat->aPx)(w:aPB),C.P=P->C.w0=w->C.N0=H.length->(∀l,l<H.length->C.U0 l=U l/\C.ln0 l=oO H[l]?)->(∀b o,C.M0 b o↔KR U H b o)->
  aF1 C U H w->∀vs:Array aPx,l9 (C.env U H w) args vs.toList->
  T (U 0) w vs fun e w'=>∃o U' H',V o H'/\pW C U' {lE:=[],heap:=H',low:=H.length} {tmps:= #[],defers:=[]} w'/\o.rep (C.env U' H' w') e
def Zb(P:aPA)(T:aPx->aPB->Array aPx->(aPD->aPB->Prop)->Prop)(l:Nat)(args:List AV)(J:k9)(K:yJ->List lw->Prop):Prop:=
 ∀ (C:tC) (U:Nat->aPx) (a:Act) (w:aPB),C.P=P->pW C U J a w-> ∀vs:Array aPx,l9 (C.env U J.heap w) args vs.toList->
   T (U l) w vs fun e w'=>∃o U' H',K o H'/\pW C U' {J with heap:=H'} a w'/\o.rep (C.env U' H' w') e
def akN{T:aPx->aPB->Array aPx->(aPD->aPB->Prop)->Prop}(hT:agA T){l0:Nat}{VX:List AV}{V:yJ->List lw->Prop}(h:FnT P T args H V)(Y:List Nat)(hlen:Y.length=H.length)(hnd:Y.Nodup)
 (hz:∀U:Nat->aPx,T (U (rA Y J.heap.length 0))=T (U l0))
 (aO1:tQ VX (vC (rA Y J.heap.length) args)) (aOQ:∀(i:Nat)(k:Nat)(x:lw),Y[i]? =some k->H[i]? =some x->J.heap[k]? =some (x.s8 (rA Y J.heap.length)))
 (hK:∀o H',V o H'->K (o.s8 (rA Y J.heap.length)) (A6 Y J.heap H')):Zb P T l0 VX J K:=by
 obtain⟨aNo,Mw,hc⟩:=h;intro C U a w hP S vs hr
 let ρf:Nat->Nat:=rA Y J.heap.length
 have hρ:∀l,l<H.length->Y[l]? =some (ρf l):=by
  grind [rA]
 let φc:Nat->aPx:=fun l=>U (ρf l)
 have apv:∀(l:Nat)(x:lw),H[l]? =some x->J.heap[ρf l]? =some (x.s8 ρf):=fun l x hx=>aOQ l _ x (hρ l (cm.1 hx).1) hx
 have aOv:∀l,l<H.length->ρf l<J.heap.length:=by
  intro l hl;have:=apv l H[l] (cj hl)
  grind
 have hinj:∀l l',l<H.length->l'<H.length->ρf l=ρf l'->l=l':=by
  grind [List.getElem_inj]
 have apw:∀b o,KR φc H b o->KR U J.heap b o:=by
  rintro b o ⟨l,x,hx,hm⟩;exact⟨ρf l,_,apv l x hx,abw.2 hm⟩
 have hA0:∀b o,((KR U J.heap b o\/C.A b o)/\ ¬ KR φc H b o)->b<w.heap.size:=by
  rintro b o ⟨⟨l,x,hx,hm⟩|hA,_⟩
  ·exact(S.qJ l x hx).tT (lw.qL hm)
  ·exact cn (C.hA b o hA) S.size
 let C':tC:=tC.mk C.P w (KR φc H) (fun b o=>(KR U J.heap b o\/C.A b o)/\ ¬ KR φc H b o) hA0 ⟨fun b o h=>let ⟨v,h1,h2,h3⟩:=S.know.cell b o h;⟨v,h1,h2,fun hm=>h3 (apw b o hm)⟩,fun b h=>⟨fun o hm=>(S.know.row b h).1 o (apw b o hm),(S.know.row b h).2⟩⟩ H.length φc (fun l=>oO H[l]?)
 have aK8:∀b o,(KR φc H b o\/C'.A b o)↔(KR U J.heap b o\/C.A b o):=by
  grind
 have un:avb H.length ρf (C.env U J.heap w) (C'.env φc H w):=by
  refine⟨cv _,fun l hl=>⟨rfl,?_⟩,fun b o u hm wU=>⟨fun hh=>hm ((aK8 b o).1 hh),wU⟩,GD _⟩
  grind [tC.env,KU]
 have Mu:∀(l:Nat)(x:lw)(b:Nat),H[l]? =some x->x.block (φc l) b->∃y:lw,J.heap[ρf l]? =some y/\y.block (U (ρf l)) b:=fun l x b hx hb=>⟨_,apv l x hx,GN.2 hb⟩
 have agr:∀(l:Nat)(x:lw)(b:Nat),H[l]? =some x->x.block (φc l) b->∀o,KR U J.heap b o->KR φc H b o:=by
  rintro l x b hx hb o ⟨k,y,hy,hm⟩;obtain⟨z,hz,hzb⟩:=Mu l x b hx hb;have hk:=S.apart k (ρf l) y z b hy hz (lw.qL hm) hzb;subst hk;have hf:=apv l x hx;rw[hy]at hf;cases hf;exact⟨l,x,hx,abw.1 hm⟩
 have hS':aF1 C' φc H w:=by
  refine {lE:=rfl,defers:=vW.nil,qJ:=?_,apart:=?_,wZ:=?_,size:=cv _,old:=fun _ _ _ _=>rfl,qE:=fun _ _ _=>rfl,F2:=?_,AH:=fun _ _ _=>rfl,rest:=⟨rfl,rfl⟩,low:=⟨rfl,cv _⟩,mZ:=fun l hl=>.inl ⟨rfl,.inl rfl⟩}
  ·intro l x hx;exact qV.HW un (Mw x (dh hx)) (fun _ _=>rfl) (S.qJ (ρf l) _ (apv l x hx))
  ·intro l l' x x' b hx EC hb uD;obtain⟨z,hz,hzb⟩:=Mu l x b hx hb;obtain⟨z',hz',aI4⟩:=Mu l' x' b EC uD;exact hinj l l' (cm.1 hx).1 (cm.1 EC).1 (S.apart _ _ z z' b hz hz' hzb aI4)
  ·rintro l x b o hx hb ⟨hA|hA,hn⟩
   ·exact hn (agr l x b hx hb o hA)
   ·obtain⟨z,hz,hzb⟩:=Mu l x b hx hb;exact S.wZ _ z b o hz hzb hA
  ·intro l x b o hx hm _;exact⟨l,x,hx,hm⟩
 have hr':l9 (C'.env φc H w) args vs.toList:=l9.HW un _ _ aNo (aO1 _ _ hr);have BB:=hc C' φc w hP rfl rfl (fun l _=>⟨rfl,rfl⟩) (fun _ _=>ct) hS' vs hr';rw[show φc 0=U (rA Y J.heap.length 0)from rfl,hz U]at BB;refine hT.mono _ _ _ _ _ ?_ BB;rintro e w' ⟨o,U',H',hV,S',wm⟩;have aOw:H.length<=H'.length:=S'.low.2
 let n:=J.heap.length
 have az0:∀k,k<n->(∃l,l<H.length/\ρf l=k)\/k ∉ Y:=by
  grind [dZ]
 let ix:Nat->Option Nat:=apt Y
 have hix:∀l,l<H.length->ix (ρf l)=some l:=by
  grind [akM]
 have aOx:∀k,k ∉ Y->ix k=none:=by
  grind [apu]
 let U2:Nat->aPx:=fun k=>if k<n then(match ix k with|some l=>U' l|none=>U k)else U' (H.length+(k-n))
 have apx:∀l,l<H'.length->U2 (ρf l)=U' l:=by
  intro l hl;by_cases h1:l<H.length
  ·grind
  ·have h2:ρf l=n+(l-H.length):=by
    grind [rA]
   simp only[U2];rw[if_neg (by omega),h2];congr 1;omega
 have avn:∀k,k<n->k ∉ Y->U2 k=U k:=by
  grind
 let H2:List lw:=A6 Y J.heap H'
 have aI5:∀(l:Nat)(hl:l<H'.length),H2[ρf l]? =some ((H'[l]).s8 ρf):=by
  intro l hl;simp only[H2,A6];by_cases h1:l<H.length
  ·grind [BF,abz]
  ·have h2:ρf l=n+(l-H.length):=by
    grind [rA]
   rw[h2,cQ (by rw[BF];omega),BF];rw[List.getElem?_map,List.getElem?_drop,hlen];have e:H.length+(n+(l-H.length)-J.heap.length)=l:=by simp only[n];omega
   grind
 have aNp:∀k,k<n->k ∉ Y->H2[k]? =J.heap[k]? :=by
  grind [A6,BF,L0]
 have aNq:H2.length=n+(H'.length-H.length):=by
  grind [A6,BF]
 have hH2:∀(k:Nat)(y:lw),H2[k]? =some y->(∃l,∃hl:l<H'.length,k=ρf l/\y=(H'[l]).s8 ρf)\/(k<n/\k ∉ Y/\J.heap[k]? =some y):=by
  intro k y hy;have hk:k<H2.length:=(cm.1 hy).1;by_cases h1:k<n
  ·rcases az0 k h1 with⟨l,hl,rfl⟩|hm
   all_goals grind
  ·left;have hl:H.length+(k-n)<H'.length:=by omega
   grind [rA]
 have aIw:∀b o,KR U2 H2 b o->KR U' H' b o\/∃(k:Nat)(y:lw),k<n/\k ∉ Y/\J.heap[k]? =some y/\y.Ew (U k) b o:=by
  rintro b o ⟨k,y,hy,hm⟩;rcases hH2 k y hy with⟨l,hl,rfl,rfl⟩|⟨h1,h2,h3⟩
  ·left;rw[apx l hl]at hm;exact⟨l,_,cj hl,abw.1 hm⟩
  grind
 have avh:∀(k:Nat)(y:lw)(b:Nat),k<n->k ∉ Y->J.heap[k]? =some y->y.block (U k) b->∀o,¬ KR φc H b o:=by
  rintro k y b hk hm hy hb o ⟨l,x,hx,hmu⟩;obtain⟨z,hz,hzb⟩:=Mu l x b hx (lw.qL hmu);have e:=S.apart k (ρf l) y z b hy hz hb hzb
  grind
 have aoP:∀(l:Nat)(hl:l<H'.length)(b:Nat),(H'[l]).block (U' l) b->b<w.heap.size->∃(k:Nat)(x:lw),H[k]? =some x/\x.block (φc k) b:=by
  intro l hl b hb q9;obtain⟨o,hmu⟩:=Z8 hb;obtain⟨k,x,hx,hmx⟩:=S'.F2 l _ b o (cj hl) hmu q9
  grind [lw.qL]
 have le:(C.env U J.heap w).Le n (C.env U2 H2 w'):=by
  refine⟨by simp only[tC.env];omega,fun k hk=>?_,fun b o' u hm wU=>?_,S'.ty⟩
  ·rcases az0 k hk with⟨l,hl,rfl⟩|hm
   ·have hn:=S'.mZ l hl;simp only[tC.env];rw[apx l (by omega),aI5 l (by omega),KU,apv l H[l] (cj hl),KU];have h1:oO H'[l]? =oO (some H'[l]):=by grind
    have h2:C'.ln0 l=oO (some H[l]):=by grind
    rw[h1,h2]at hn;exact hn
   grind [tC.env]
  ·have hb:=Kk wU;simp only[tC.env]at hb hm ⊢;have hnc: ¬ KR φc H b o':=fun hh=>hm (.inl (apw b o' hh))
   refine⟨?_,by rw[S'.old b o' hb hnc];exact wU⟩;rintro(hh|hh)
   ·rcases aIw b o' hh with⟨l,x,hx,hmu⟩|⟨k,y,_,_,hy,hmu⟩
    ·exact hnc (S'.F2 l x b o' hx hmu hb)
    ·exact hm (.inl ⟨k,y,hy,hmu⟩)
   ·exact hm (.inr hh)
 have s8:akG H'.length ρf (C'.env U' H' w') (C.env U2 H2 w'):=by
  refine⟨fun l hl=>?_,fun l hl=>?_,fun b o' u hm wU=>⟨?_,wU⟩,GD _⟩
  ·have:=aI5 l hl;exact(cm.1 this).1
  ·grind [tC.env,KU]
  ·simp only[tC.env]at hm ⊢;rintro(hh|hh)
   ·rcases aIw b o' hh with h1|⟨k,y,hk,hkm,hy,hmu⟩
    ·exact hm (.inl h1)
    ·exact hm (.inr ⟨.inl ⟨k,y,hy,hmu⟩,avh k y b hk hkm hy (lw.qL hmu) o'⟩)
   ·refine hm (.inr ⟨.inr hh,?_⟩);rintro⟨l,x,hx,hmu⟩;obtain⟨z,hz,hzb⟩:=Mu l x b hx (lw.qL hmu);exact S.wZ _ z b o' hz hzb hh
 have S2:pW C U2 {J with heap:=H2} a w':=by
  have FE:vW C U2 H2 w' J.df a.defers:=by
   refine S.defers.step le (fun b hb hno=>S'.qE b hb (fun o' hh=>?_)) (fun k x b hx hb=>?_)
   ·obtain⟨l,x,hx,hmu⟩:=hh
    grind [lw.qL]
   ·by_cases hbs:b<w.heap.size
    ·rcases hH2 k x hx with⟨l,hl,rfl,rfl⟩|⟨h1,h2,h3⟩
     ·rw[apx l hl]at hb;obtain⟨q,z,hz',hzb⟩:=aoP l hl b (GN.1 hb) hbs
      grind
     grind
    ·exact .inr (by omega)
  refine {lE:=l9.mono le _ _ (l9.nb _ _ S.lE) S.lE,defers:=FE,qJ:=?_,apart:=?_,wZ:=?_,size:=Nat.le_trans S.size S'.size,old:=?_,qE:=?_,F2:=?_,AH:=fun x hx hm0=>(S'.AH x (cn hx S.size) (fun o' hh=>by obtain⟨l,x',EC,hmu⟩:=apw x.block o' hh;exact hm0 o' (S.F2 l x' _ o' EC hmu hx))).trans (S.AH x hx hm0),rest:=⟨S'.rest.1.trans S.rest.1,S'.rest.2.trans S.rest.2⟩,low:=⟨S.low.1,by have:=S.low.2;show J.low<=H2.length;omega⟩,mZ:=?_}
  ·intro k y hy;rcases hH2 k y hy with⟨l,hl,rfl,rfl⟩|⟨h1,h2,h3⟩
   ·rw[apx l hl];have r0:=S'.qJ l _ (cj hl);exact qV.s8 s8 (abx r0) (fun _ _=>rfl) r0
   ·rw[avn k h1 h2];have r0:=S.qJ k y h3;exact qV.mono r0 le (fun b hb=>S'.qE b (r0.tT hb) (avh k y b h1 h2 h3 hb))
  ·intro k k' x x' b hx EC hb uD;rcases hH2 k x hx with⟨l,hl,rfl,rfl⟩|⟨h1,h2,h3⟩<;>rcases hH2 k' x' EC with⟨l',hl',rfl,rfl⟩|⟨h1',h2',h3'⟩
   ·rw[apx l hl]at hb;rw[apx l' hl']at uD;have:=S'.apart l l' _ _ b (cj hl) (cj hl') (GN.1 hb) (GN.1 uD);rw[this]
   ·rw[apx l hl]at hb;rw[avn k' h1' h2']at uD;exfalso;obtain⟨q,z,hz,hzb⟩:=aoP l hl b (GN.1 hb) ((S.qJ k' x' h3').tT uD);obtain⟨o'',hmu⟩:=Z8 hzb;exact avh k' x' b h1' h2' h3' uD o'' ⟨q,z,hz,hmu⟩
   ·rw[apx l' hl']at uD;rw[avn k h1 h2]at hb;exfalso;obtain⟨q,z,hz,hzb⟩:=aoP l' hl' b (GN.1 uD) ((S.qJ k x h3).tT hb);obtain⟨o'',hmu⟩:=Z8 hzb;exact avh k x b h1 h2 h3 hb o'' ⟨q,z,hz,hmu⟩
   ·rw[avn k h1 h2]at hb;rw[avn k' h1' h2']at uD;exact S.apart k k' x x' b h3 h3' hb uD
  ·intro k x b o' hx hb;rcases hH2 k x hx with⟨l,hl,rfl,rfl⟩|⟨h1,h2,h3⟩
   ·rw[apx l hl]at hb;intro hA;have hbs:b<w.heap.size:=cn (C.hA b o' hA) S.size;obtain⟨q,z,hz,hzb⟩:=aoP l hl b (GN.1 hb) hbs;obtain⟨z',hz',aI4⟩:=Mu q z b hz hzb;exact S.wZ _ z' b o' hz' aI4 hA
   ·rw[avn k h1 h2]at hb;exact S.wZ k x b o' h3 hb
  ·intro b o' hb hm;have uD:b<w.heap.size:=cn hb S.size
   have hnc: ¬ KR φc H b o':=by
    intro hh;obtain⟨k,y,hy,hmu⟩:=apw b o' hh;exact hm (S.F2 k y b o' hy hmu hb)
   exact(S'.old b o' uD hnc).trans (S.old b o' hb hm)
  ·intro b hb hm;have uD:b<w.heap.size:=cn hb S.size
   have hnc:∀o',¬ KR φc H b o':=by
    intro o' hh;obtain⟨k,y,hy,hmu⟩:=apw b o' hh;exact hm o' (S.F2 k y b o' hy hmu hb)
   exact(S'.qE b uD hnc).trans (S.qE b hb hm)
  ·intro k x b o' hx hmu hb;rcases hH2 k x hx with⟨l,hl,rfl,rfl⟩|⟨h1,h2,h3⟩
   ·rw[apx l hl]at hmu;obtain⟨q,z,hz,hmz⟩:=S'.F2 l _ b o' (cj hl) (abw.1 hmu) (cn hb S.size);obtain⟨k2,y2,hy2,aNr⟩:=apw b o' ⟨q,z,hz,hmz⟩;exact S.F2 k2 y2 b o' hy2 aNr hb
   ·rw[avn k h1 h2]at hmu;exact S.F2 k x b o' h3 hmu hb
  ·intro k hk;have hkn:k<n:=by have:=S.low;simp only[n];omega
   have hn:=S.mZ k hk;show(U2 k=_/\_)\/_;rcases az0 k hkn with⟨l,hl,rfl⟩|hm
   ·have hn':=S'.mZ l hl;rw[apx l (by omega),aI5 l (by omega),KU];rw[apv l H[l] (cj hl),KU]at hn;have h1:oO H'[l]? =oO (some H'[l]):=by rw[cj (by omega)]
    have h2:C'.ln0 l=oO (some H[l]):=by show oO H[l]? =_;rw[cj hl]
    have h3:C'.U0 l=U (ρf l):=rfl;rw[h1,h2,h3]at hn';rcases hn' with⟨ha,hb|hb⟩|⟨⟨q,hq,q9⟩,hp,hmp⟩
    ·rw[ha,hb];exact hn
    ·rw[hb];rcases hn with⟨hc1,_⟩|⟨⟨q,hq,_⟩,hp,hmp⟩
     ·exact .inl ⟨by rw[ha];exact hc1,.inr rfl⟩
     ·exact .inr ⟨⟨q,hq,fun k' RV=>by cases RV⟩,hp,hmp⟩
    ·right;rcases hn with⟨hc1,hc2|hc2⟩|⟨⟨q2,hq2,aNs⟩,hp2,aNt⟩
     ·rw[hq]at hc2;exact⟨⟨q,hc2.symm,q9⟩,by rw[<-hc1];exact⟨hp,hmp⟩⟩
     ·rw[hq]at hc2;cases hc2
     ·exact⟨⟨q2,hq2,fun k' RV=>by have:=q9 k' RV;have:=aNs q hq;omega⟩,hp2,aNt⟩
   ·rw[avn k hkn hm,aNp k hkn hm];exact hn
 refine⟨o.s8 ρf,U2,H2,hK o H' hV,S2,?_⟩;cases o with
 |ret r=>
  cases e with
  |returned v=>exact rD.s8 s8 r v (rD.nb _ _ wm) wm
  |panicked chain=>exact wm.elim
  |outgrown=>exact wm.elim
 |panic x=>
  cases e with
  |returned v=>exact wm.elim
  |panicked chain=>
   obtain⟨v,hv,hr⟩:=wm;exact⟨v,hv,rD.s8 s8 x v (rD.nb _ _ hr) hr⟩
  |outgrown=>exact wm.elim
def ajK:agA (fun _ w vs R=>Calls P f vs w R):=⟨fun _ _ _ _ _ hr h=>Calls.mono h hr⟩
def avo:agA (Xc P):=⟨fun _ _ _ _ _ hr h D rec h1 h2=>(h D rec h1 h2).mono hr⟩
def ato {VX:List AV}{V:yJ->List lw->Prop}(h:FnG P f args H V)(Y:List Nat)(hlen:Y.length=H.length)(hnd:Y.Nodup)
 (aO1:tQ VX (vC (rA Y J.heap.length) args)) (aOQ:∀(i:Nat)(k:Nat)(x:lw),Y[i]? =some k->H[i]? =some x->J.heap[k]? =some (x.s8 (rA Y J.heap.length)))
 (hK:∀o H',V o H'->K (o.s8 (rA Y J.heap.length)) (A6 Y J.heap H')):ER P f VX J K:=
 ⟨h.1,akN (T:=fun _ w vs R=>Calls P f vs w R) (l0:=0) ajK h.2 Y hlen hnd (fun _=>rfl) aO1 aOQ hK⟩
end call
def qV.aK9{x:lw}(r:qV E x hd)(h:E.Le N E')(hn:uJ N x)(hs:E'.w=E.w:=by rfl):qV E' x hd:=by
 cases x with
 |cells cs=>obtain⟨b,c,t,h1,h2,rl,h3⟩:=r;exact⟨b,c,t,h1,by rw[hs];exact h2,l9.mono h _ _ hn rl,h3⟩
 |nW wT sz rows=>
  obtain⟨base,cap,h1,h2,h3,h4,h5⟩:=r;refine⟨base,cap,h1,h2,h3,h4,fun a0 ha hc=>?_⟩;obtain⟨h6,c,t,h7,h8,rl,h9⟩:=h5 a0 ha hc;exact⟨h6,c,t,by rw[hs];exact h7,h8,l9.mono h _ _ (N8 hn) rl,h9⟩
 |map es=>obtain⟨r',en,cl,h1,h2,rp⟩:=r;exact⟨r',en,cl,h1,by rw[hs];exact h2,uv.mono h hn rp⟩
 |loop k lE st xE=>obtain⟨D,rec,h1,h2,h3,h4,rl⟩:=r;exact⟨D,rec,h1,by rw[hs];exact h2,by rw[hs];exact h3,h4,l9.mono h _ _ hn rl⟩
 |iter s p=>obtain⟨b,h1,h2⟩:=r;exact⟨b,h1,by rw[hs];exact h2⟩
 |L8 s=>exact ada r (fun b _=>by rw[hs])
 |zU=>trivial
def ajL(J:k9)(x r:AV)(H':List lw):Prop:=
 ∀ (C:tC) (U:Nat->aPx) (a:Act) (w:aPB),pW C U J a w-> ∀v,rD (C.env U J.heap w) x v->
   ∃U',pW C U' {lE:=[],heap:=H',low:=J.low} {tmps:= #[],defers:=[]} w/\rD (C.env U' H' w) r v
def adq(low l k:Nat):Nat:=if k<low then k else if k=l then low else low+1+k
section aF2

theorem avp(hl:l<low):(H.take low)[l]? =H[l]? :=by rw[List.getElem?_take,if_pos hl]
def ax9{y:lw}(hl:J.heap[l]? =some y)(MN:J.low<=l)(LY: ∀z∈J.heap.take J.low,uJ J.low z)(hy:uJ J.low y)(hr:(x.s8 (adq J.low l)).nb (J.low+1)):
 ajL J x (x.s8 (adq J.low l)) (J.heap.take J.low++[y]):=by
 intro C U a w S v hv;have aNu:=S.low.2;have hHl:(J.heap.take J.low).length=J.low:=by rw[List.length_take];omega
 let H':=J.heap.take J.low++[y]
 let U':Nat->aPx:=fun k=>if k=J.low then U l else U k
 have hφ':∀k,k<J.low->U' k=U k:=fun k hk=>by simp only[U'];rw[if_neg (by omega)]
 have hφl:U' J.low=U l:=by simp [U']
 have az6:∀k,k<J.low->H'[k]? =J.heap[k]? :=by
  intro k hk;simp only[H'];rw[cJ (by omega),avp hk]
 have aIx:H'[J.low]? =some y:=by
  simp only[H'];rw[cQ (by omega),hHl,Nat.sub_self];rfl
 have aDo:H'.length=J.low+1:=by simp only[H',List.length_append,hHl,dR,List.length_nil]
 have qe:∀(k:Nat)(z:lw),H'[k]? =some z->(k<J.low/\J.heap[k]? =some z)\/(k=J.low/\z=y):=by
  intro k z hz;have hk:k<J.low+1:=by rw[<-aDo];exact(cm.1 hz).1
  by_cases e:k=J.low
  ·subst e;rw[aIx]at hz;cases hz;exact .inr ⟨rfl,rfl⟩
  ·left;rw[az6 k (by omega)]at hz;exact⟨by omega,hz⟩
 let old:Nat->Nat:=fun k=>if k=J.low then l else k
 have hold:∀(k:Nat)(z:lw),H'[k]? =some z->J.heap[old k]? =some z/\U' k=U (old k):=by
  intro k z hz;rcases qe k z hz with⟨h1,h2⟩|⟨rfl,rfl⟩
  ·simp only[old];rw[if_neg (by omega)];exact⟨h2,hφ' k h1⟩
  ·simp only[old,kW];exact⟨hl,hφl⟩
 have aF3:∀k k',k<J.low+1->k'<J.low+1->old k=old k'->k=k':=by
  intro k k' hk RV he;simp only[old]at he;split at he<;>split at he<;>omega
 have QT:∀b o,KR U' H' b o->KR U J.heap b o:=by
  rintro b o ⟨k,z,hz,hm⟩;obtain⟨h1,h2⟩:=hold k z hz;rw[h2]at hm;exact⟨old k,z,h1,hm⟩
 have le:(C.env U J.heap w).Le J.low (C.env U' H' w):=by
  refine⟨by simp only[tC.env];omega,fun k hk=>.inl ⟨hφ' k hk,.inl (by simp only[tC.env];rw[az6 k hk])⟩,fun b o u hm hc=>⟨fun h=>hm (h.imp (QT b o) id),hc⟩,GD _⟩
 refine⟨U',{lE:=rfl,defers:=vW.nil,qJ:=?_,apart:=?_,wZ:=?_,size:=S.size,old:=S.old,qE:=S.qE,F2:=?_,AH:=S.AH,rest:=S.rest,low:=⟨S.low.1,by show J.low<=H'.length;omega⟩,mZ:=?_},?_⟩
 ·intro k z hz;show qV (C.env U' H' w) z (U' k);obtain⟨h1,h2⟩:=hold k z hz;rw[h2];refine(S.qJ (old k) z h1).aK9 le ?_;rcases qe k z hz with⟨h3,h4⟩|⟨rfl,rfl⟩
  ·exact LY z (dh ((avp h3).trans h4))
  ·exact hy
 ·intro k k' z z' b hz hz' hb uD;obtain⟨h1,h2⟩:=hold k z hz;obtain⟨h1',h2'⟩:=hold k' z' hz';rw[h2]at hb;rw[h2']at uD;have hk:k<J.low+1:=by rw[<-aDo];exact(cm.1 hz).1
  have RV:k'<J.low+1:=by rw[<-aDo];exact(cm.1 hz').1
  exact aF3 k k' hk RV (S.apart _ _ z z' b h1 h1' hb uD)
 ·intro k z b o hz hb;obtain⟨h1,h2⟩:=hold k z hz;rw[h2]at hb;exact S.wZ _ z b o h1 hb
 ·intro k z b o hz hm hb;obtain⟨h1,h2⟩:=hold k z hz;rw[h2]at hm;exact S.F2 _ z b o h1 hm hb
 ·intro k hk;have RV:k<J.low:=by have:=S.low.1;omega
  show(U' k=_/\(oO H'[k]? =_\/_))\/_;rw[hφ' k RV,az6 k RV];exact S.mZ k hk
 ·
  let E2:HI:={w,mu:=(C.env U' H' w).mu,U:=fun k=>if k<J.low+1 then U' k else U (k-(J.low+1)),ln:=fun k=>if k<J.low+1 then oO H'[k]? else none,n:=J.low+1+J.heap.length}
  have s8:akG J.heap.length (adq J.low l) (C.env U J.heap w) E2:=by
   refine⟨fun k hk=>?_,fun k hk=>?_,fun b o u hm hc=>⟨fun h=>hm (h.imp (QT b o) id),hc⟩,GD _⟩
   ·simp only[adq,E2];split
    ·omega
    ·split<;>omega
   ·simp only[adq,E2,tC.env];split
    ·rename_i h1;rw[if_pos (by omega),if_pos (by omega),hφ' k h1,az6 k h1];exact⟨rfl,.inl rfl⟩
    ·split
     ·rename_i h1 h2;subst h2;rw[if_pos (by omega),if_pos (by omega),hφl,aIx,hl];exact⟨rfl,.inl rfl⟩
     ·rw[if_neg (by omega),if_neg (by omega)];refine⟨?_,.inr rfl⟩;congr 1;omega
  have h1:=rD.s8 s8 x v (rD.nb _ _ hv) hv
  have le2:E2.Le (J.low+1) (C.env U' H' w):=by
   refine⟨by simp only[tC.env];show J.low+1<=H'.length;omega,fun k hk=>.inl ⟨?_,.inl ?_⟩,fun b o u hm hc=>⟨hm,hc⟩,GD _⟩
   ·show U' k=if k<J.low+1 then U' k else _
    rw[if_pos hk]
   ·show oO H'[k]? =if k<J.low+1 then oO H'[k]? else none
    rw[if_pos hk]
  exact rD.mono le2 _ v hr h1
end aF2
def BG{args:Array aPx}{w:aPB}{R R':aPD->FrameMode->aPB->Prop}(h:CallsDIn F n P f args u w R)(hr:∀e u' w',R e u' w'->R' e u' w'):CallsDIn F n P f args u w R':=by
 refine⟨h.1,fun c cs hc SR=>?_⟩;obtain⟨e,u',w',fr,hR,xn⟩:=h.2 c cs hc SR;exact⟨e,u',w',fr,hr _ _ _ hR,xn⟩
def aq5(P:aPA)(f:aPz):aPx->aPB->Array aPx->(aPD->aPB->Prop)->Prop:=fun _ w vs R=>
 CallsDIn cz 0 P f vs .returning w fun e u' w'=>∃r,e=.returned r/\settle u'=.returning/\R (.returned r) w'
def aq6(P:aPA)(f:aPz):aPx->aPB->Array aPx->(aPD->aPB->Prop)->Prop:=fun _ w vs R=>∀(vs0:Array aPx)(v:aPx),vs=vs0.push v->
 CallsDIn cz 0 P f vs0 (.panicking [{v,recovered:=false}]) w fun e u' w'=>∃r,e=.returned r/\
  ((settle u'=.returning/\R (.returned r) w')\/∃v',settle u'=.panicking [{v:=v',recovered:=false}]/\R (.panicked [{v:=v',recovered:=false}]) w')
def amk:agA (aq5 P f):=⟨fun _ _ _ _ _ hr h=>BG h fun _ _ _ ⟨r,h1,h2,h3⟩=>⟨r,h1,h2,hr _ _ h3⟩⟩
def aml:agA (aq6 P f):=⟨fun _ _ _ _ _ hr h vs0 v hv=>BG (h vs0 v hv) fun _ _ _ ⟨r,h1,h2⟩=>⟨r,h1,h2.imp (fun ⟨h3,h4⟩=>⟨h3,hr _ _ h4⟩) fun ⟨v',h3,h4⟩=>⟨v',h3,hr _ _ h4⟩⟩⟩
def akO (P:aPA) (CF:Option AV->k9->Prop):List (aPz×List AV)->Option AV->k9->Prop
 |[],m,J=>CF m J
 |(f,args)::ds,none,J=>Bs P f=true/\Zb P (aq5 P f) 0 args {J with df:=ds} (fun o H'=>match o with
    |.ret _=>akO P CF ds none {J with heap:=H',df:=ds}
    |.panic _=>False)
 |(f,args)::ds,some x,J=>Bs P f=true/\Zb P (aq6 P f) 0 (args++[x]) {J with df:=ds} (fun o H'=>match o with
    |.ret _=>akO P CF ds none {J with heap:=H',df:=ds}
    |.panic x'=>akO P CF ds (some x') {J with heap:=H',df:=ds})
section unw
variable {C:tC} {w:aPB} {ds:List Deferred}
def pW.aya{v:aPx}(S:pW C U {J with lE:=J.lE++[x]} {tmps:=tmps.push v,defers:=ds} w)(hl:J.lE.length=tmps.size):pW C U J {tmps,defers:=ds} w/\rD (C.env U J.heap w) x v:=by
 have h1:=S.lE.take J.lE.length;have h2:=S.lE.drop J.lE.length;have hlen:tmps.toList.length=J.lE.length:=by simp [hl]
 simp only[cR]at h1 h2;rw[cZ rfl,cZ hlen]at h1;rw[da rfl,da hlen]at h2;obtain⟨u,us,he2,r1,_⟩:=h2;simp only[cK]at he2;obtain⟨rfl,_⟩:=he2;exact⟨{S with lE:=h1,defers:=S.defers},r1⟩
def pW.atp{v:aPx}(S:pW C U J {tmps,defers:=ds} w)(h:rD (C.env U J.heap w) x v):pW C U {J with lE:=J.lE++[x]} {tmps:=tmps.push v,defers:=ds} w:=by
 refine {S with lE:=?_,defers:=S.defers};have hv:l9 (C.env U J.heap w) [x] [v]:=⟨v,[],rfl,h,rfl⟩;simp only[cR];exact S.lE.append hv
theorem pW.len(S:pW C U J {tmps,defers:=ds} w):J.lE.length=tmps.size:=by
 have:=S.lE.length;simpa using this.symm
def pW.aLa{v:aPx}(S:pW C U {J with lE:=J.lE++[x]} {tmps:=tmps.push v,defers:=ds} w):J.lE.length=tmps.size:=by
 have:=S.lE.length;simp at this;exact this.symm
def pW.pop{d:Deferred}(S:pW C U J {tmps,defers:=d::ds} w)(hm:akq d=false):
 ∃f xs df' cap,J.df=(f,xs)::df'/\d.target=.fn (.func f) cap/\l9 (C.env U J.heap w) xs (d.args++cap).toList/\pW C U {J with df:=df'} {tmps,defers:=ds} w:=by
 obtain⟨h1,h2,h3⟩:=S.defers;simp only[dU,hm,Bool.not_false,kW,dm,if_false]at h1 h3;cases hdf:J.df with
 |nil=>rw[hdf]at h3;cases h3
 |cons p df'=>
  obtain⟨f,xs⟩:=p;rw[hdf]at h3;obtain⟨d',s,cap,he,ht,hr,xn⟩:=h3;simp only[cK]at he;obtain⟨rfl,rfl⟩:=he;exact⟨f,xs,df',cap,rfl,ht,hr,{S with lE:=S.lE,defers:=⟨h1,fun d' hd'=>h2 d' (List.mem_cons_of_mem _ hd'),xn⟩}⟩
def apy{d:Deferred}{cap:Array aPx}(ht:d.target=.fn (.func f) cap)(he:Bs P f=true):(invoke d.target d.args).run P w=.ok (.enter f (d.args++cap)) w:=by
 unfold Bs at he;split at he
 ·rename_i fn hfn;simp only[cC,bne_iff_ne,ne_eq]at he;have ar2:fn.body≠none:=by intro hb;simp [hb]at he
  simp [ht,invoke,callFunc,hfn,he.2,ar2]
 ·cases he
def ajM{fn:Func}{R:aPD->aPB->Prop}{CF:Option AV->k9->Prop}
 (hr:∀U J w,pW C U J {tmps,defers:=[]} w->CF none J->∃v,(results fn tmps).run C.P w=.ok v w/\R (.returned v) w)
 (hp:∀U J x v w,pW C U J {tmps,defers:=[]} w->rD (C.env U J.heap w) x v->CF (some x) J->R (.panicked [{v,recovered:=false}]) w):
 ∀ (ds:List Deferred),
   (∀U J w,pW C U J {tmps,defers:=ds} w->akO C.P CF J.df none J->LeavesInM cz 0 C.P fn tmps R ds .returning w)/\
   (∀U J x v w,pW C U {J with lE:=J.lE++[x]} {tmps:=tmps.push v,defers:=ds} w->akO C.P CF J.df (some x) J->LeavesInM cz 0 C.P fn tmps R ds (.panicking [{v,recovered:=false}]) w)
 |[]=>by
  refine⟨fun U J w S h=>?_,fun U J x v w S h=>?_⟩
  ·have hd:J.df=[]:=by
    have:=S.defers.2.2;cases hdf:J.df with
    |nil=>rfl
    |cons p r=>rw[hdf]at this;obtain⟨_,_,_,h,_⟩:=this;cases h
   rw[hd]at h;exact hr U J w S h
  ·obtain⟨S',hx⟩:=S.aya S.aLa
   have hd:J.df=[]:=by
    have:=S'.defers.2.2;cases hdf:J.df with
    |nil=>rfl
    |cons p r=>rw[hdf]at this;obtain⟨_,_,_,h,_⟩:=this;cases h
   rw[hd]at h;exact hp U J x v w S' hx h
 |d::ds=>by
  obtain⟨ihr,ihp⟩:=ajM hr hp ds;refine⟨fun U J w S h=>?_,fun U J x v w S h=>?_⟩
  ·cases hm:akq d with
   |true=>
    obtain⟨D,hD,_⟩:=S.defers.2.1 d (db) hm;subst hD;obtain⟨h1,S'⟩:=S.akL;exact⟨by simp,.inl ⟨D,_,rfl,run_takeDeferred h1,ihr U J _ S' h⟩⟩
   |false=>
    obtain⟨f,xs,df',cap,hdf,ht,hxs,S'⟩:=S.pop hm;rw[hdf]at h;obtain⟨he,hc⟩:=h;refine⟨by simp,.inr ⟨fun h=>by simp [cz]at h,_,cap,f,d.args++cap,ht,apy ht he,fun _ _=>trivial,?_⟩⟩;refine BG (hc C U _ w rfl S' _ hxs) ?_;rintro e u' w' ⟨r,rfl,hs,o,U',H',hK,S2,wm⟩;cases o with
    |ret r'=>
     simp only;rw[hs];exact ihr U' _ w' S2 hK
    |panic _=>exact hK.elim
  ·cases hm:akq d with
   |true=>
    obtain⟨D,hD,_⟩:=S.defers.2.1 d (db) hm;subst hD;obtain⟨h1,S'⟩:=S.akL;exact⟨by simp,.inl ⟨D,_,rfl,run_takeDeferred h1,ihp U J x v _ S' h⟩⟩
   |false=>
    obtain⟨S1,hx⟩:=S.aya S.aLa;obtain⟨f,xs,df',cap,hdf,ht,hxs,S'⟩:=S1.pop hm;rw[hdf]at h;obtain⟨he,hc⟩:=h;refine⟨by simp,.inr ⟨fun h=>by simp [cz]at h,_,cap,f,d.args++cap,ht,apy ht he,fun _ _=>trivial,?_⟩⟩
    have aO1:l9 (C.env U J.heap w) (xs++[x]) ((d.args++cap).push v).toList:=by
     have hv:l9 (C.env U J.heap w) [x] [v]:=⟨v,[],rfl,hx,rfl⟩;rw[cR];exact hxs.append hv
    refine BG (hc C U _ w rfl S' _ aO1 _ v rfl) ?_;rintro e u' w' ⟨r,rfl,⟨hs,o,U',H',hK,S2,wm⟩|⟨v',hs,o,U',H',hK,S2,wm⟩⟩
    ·cases o with
     |ret r'=>
      simp only;rw[hs];exact ihr U' _ w' S2 hK
     |panic _=>exact wm.elim
    ·cases o with
     |ret r'=>exact wm.elim
     |panic x'=>
      simp only;rw[hs];obtain⟨v2,hv2,hr2⟩:=wm;simp only[cK,PanicEntry.mk.injEq,and_true]at hv2;subst hv2;exact ihp U' _ x' _ w' (S2.atp hr2) hK
end unw
def amm(P:aPA)(rs:List ResultVar)(V:yJ->List lw->Prop):Option AV->k9->Prop
 |none,J=>∃x,VW P J rs=some x/\∃r H',ajL J x r H'/\V (.ret r) H'
 |some x,J=>∃r H',ajL J x r H'/\V (.panic r) H'
def aIy(P:aPA)(rs:List ResultVar)(V:yJ->List lw->Prop):qK->k9->Prop
 |.normal,J=>akO P (amm P rs V) J.df none J
 |.ret,J=>akO P (amm P rs V) J.df none J
 |.panic x,J=>akO P (amm P rs V) J.df (some x) J
 |_,_=>False
def avq{fn:Func}{V:yJ->List lw->Prop}(hf:P.funcs[f]? =some fn)(hb:fn.body=some c)(uP:(fn.name != "runtime.NumGoroutine")=true)(LY:yg H.length args)
 (Mw:∀x∈H,uJ H.length x) (hn:fn.ntmps=n) {rs:List ResultVar} (Po:fn.results=rs.toArray)
 (h:awp P c (aIy P rs V) {lE:=args++cH (n-args.length) .any,heap:=H,low:=H.length}):FnG P f args H V:=by
 refine⟨?_,LY,Mw,fun C U w hP h0 hN0 hφ0 hM HS vs hr=>?_⟩
 ·unfold Bs;rw[hf];simp only[hb,ec,Bool.true_and];exact uP
 ·subst hP;refine(callsIn_wide (n:=0)).1 (callsIn_of_wp_marks hf hb trivial ?_);have hsz:vs.size=args.length:=by have:=hr.length;simpa using this
  have S:pW C U {lE:=args++cH (n-args.length) .any,heap:=H,low:=H.length} {tmps:=vs++cw (fn.ntmps-vs.size) undef,defers:=[]} w:=by
   refine {HS with lE:=?_,defers:=vW.nil};simp only[dj,dx];refine hr.append ?_;rw[hsz,hn];have:=l9.JR (E:=C.env U H w) (cH (n-args.length) undef);simpa using this
  refine wpIn_mono (Ch (ro:=none) c _ U _ _ w (.inl rfl) h S) ?_;intro e a' w' hq;have MN:∀{U':Nat->aPx}{J':k9}{a'':Act}{w'':aPB},pW C U' J' a'' w''->J'.low=H.length:=fun S'=>by rw[<-S'.low.1];exact hN0
  have CF:=ajM (C:=C) (tmps:=a'.tmps) (fn:=fn) (R:=fun e w'=>∃o U' H',V o H'/\pW C U' {lE:=[],heap:=H',low:=H.length} {tmps:= #[],defers:=[]} w'/\o.rep (C.env U' H' w') e) (CF:=amm C.P rs V)
   (by
     rintro U' J' w' S' ⟨x,hx,r,H',hex,hV⟩;obtain⟨v,hv,rv⟩:=SY (fn:=fn) S' (by rw[Po];exact hx);obtain⟨U2,S2,hr2⟩:=hex C U' _ w' S' v rv;rw[MN S']at S2;exact⟨v,hv,.ret r,U2,H',hV,S2,hr2⟩)
   (by
     rintro U' J' x v w' S' hx ⟨r,H',hex,hV⟩;obtain⟨U2,S2,hr2⟩:=hex C U' _ w' S' v hx;rw[MN S']at S2;exact⟨.panic r,U2,H',hV,S2,v,rfl,hr2⟩) a'.defers
  cases e with
  |normal=>obtain⟨U',J',S',hq⟩:=hq;exact CF.1 U' J' w' S' hq
  |ret=>obtain⟨U',J',S',hq⟩:=hq;exact CF.1 U' J' w' S' hq
  |exit id=>obtain⟨_,_,_,hq⟩:=hq;exact hq.elim
  |goto l=>obtain⟨_,_,_,hq⟩:=hq;exact hq.elim
  |panic chain=>
   obtain⟨U',J',x,v,S',hq,hch,wm⟩:=hq;subst hch;exact CF.2 U' J' x v w' (pW.atp (tmps:=a'.tmps) (ds:=a'.defers) S' wm) hq
  |outgrown=>exact hq.elim
def aBi(P:aPA)(rs:List ResultVar)(V:AV->Prop):Option AV->k9->Prop
 |none,J=>aBh V J.heap (VW P J rs)
 |some _,_=>False
def aDp(P:aPA)(rs:List ResultVar)(V:AV->Prop):qK->k9->Prop
 |.normal,J=>akO P (aBi P rs V) J.df none J
 |.ret,J=>akO P (aBi P rs V) J.df none J
 |.panic x,J=>akO P (aBi P rs V) J.df (some x) J
 |_,_=>False
def atq {fn:Func} {V:AV->Prop} (hf:P.funcs[f]? =some fn) (hb:fn.body=some c) (uP:(fn.name != "runtime.NumGoroutine")=true) (LY:yg 0 args)
 (h:awp P c (aDp P fn.results.toList V) {lE:=args++cH (fn.ntmps-args.length) .any,heap:=[]}):N6 P f args V:=by
 refine⟨?_,LY,fun C U w hP h0 hN hM vs hr=>?_⟩
 ·unfold Bs;rw[hf];simp only[hb,ec,Bool.true_and];exact uP
 ·subst hP;refine (callsIn_wide (n:=0)).1 (callsIn_of_wp_marks hf hb trivial ?_);have hsz:vs.size=args.length:=by have:=hr.length;simpa using this
  have S:pW C U {lE:=args++cH (fn.ntmps-args.length) .any,heap:=[]} {tmps:=vs++cw (fn.ntmps-vs.size) undef,defers:=[]} w:=by
   refine {lE:=?_,defers:=vW.nil,qJ:=by simp,apart:=by simp,wZ:=by simp,size:=by rw[h0];exact cv _,old:=fun b o _ _=>by rw[h0],qE:=fun b _ _=>by rw[h0],F2:=by simp,AH:=fun x _ _=>by rw[h0],rest:=by rw[h0];exact⟨rfl,rfl⟩,low:=⟨hN,cv _⟩,mZ:=fun l hl=>by rw[hN]at hl;exact absurd hl (cx _)};simp only[dj,dx];refine hr.append ?_;rw[hsz];have:=l9.JR (E:=C.env U [] w) (cH (fn.ntmps-args.length) undef);simpa using this
  refine wpIn_mono (Ch (ro:=none) c _ U _ _ w (.inl rfl) h S) ?_;intro e a' w' hq
  have CF:=ajM (C:=C) (tmps:=a'.tmps) (fn:=fn) (R:=fun e w'=>∃r v U',V r/\e=.returned v/\rD (C.env U' [] w') r v/\w.heap.size<=w'.heap.size/\(∀b,b<w.heap.size->w'.heap[b]? =w.heap[b]?)/\
        (∀x,x.block<w.heap.size->w'.frozen? x=w.frozen? x)/\w'.output=w.output/\w'.os=w.os) (CF:=aBi C.P fn.results.toList V)
   (by
     intro U' J' w' S' Z9;simp only[aBi]at Z9;cases hx:VW C.P J' fn.results.toList with
     |none=>rw[hx]at Z9;exact Z9.elim
     |some x=>
     rw[hx]at Z9;obtain⟨hn,r0,aim,hV⟩:=Z9;obtain⟨v,hv,rv⟩:=SY S' hx;refine⟨v,hv,_,v,U',hV,rfl,aim _ _ (by have:=amd S' (S'.aIr (by rw[<-S'.low.1];exact hN)) x v;rw[<-S'.low.1,hN]at this;exact this hn rv),?_,?_,?_,?_⟩
     ·rw[<-h0];exact S'.size
     ·intro b hb;rw[<-h0];exact S'.qE b (by rw[h0];exact hb) (fun o=>hM b o)
     ·intro y hy;rw[<-h0];exact S'.AH y (by rw[h0];exact hy) (fun o=>hM y.block o)
     ·rw[<-h0];exact S'.rest)
   (by
     intro U' J' x v w' S' hx Z9;exact Z9.elim) a'.defers
  cases e with
  |normal=>obtain⟨U',J',S',hq⟩:=hq;exact CF.1 U' J' w' S' hq
  |ret=>obtain⟨U',J',S',hq⟩:=hq;exact CF.1 U' J' w' S' hq
  |exit id=>obtain⟨_,_,_,hq⟩:=hq;exact hq.elim
  |goto l=>obtain⟨_,_,_,hq⟩:=hq;exact hq.elim
  |panic chain=>
   obtain⟨U',J',x,v,S',hq,hch,wm⟩:=hq;subst hch;exact CF.2 U' J' x v w' (pW.atp (tmps:=a'.tmps) (ds:=a'.defers) S' wm) hq
  |outgrown=>exact hq.elim
attribute [go_sem] AV.s8 vC JX lw.s8 yJ.s8 rA A6 vf adq aIy
def VY:List AV->List Tmp->List AV->List AV
 |s,p::ps,x::xs=>VY (s.set p x) ps xs
 |s,_,_=>s
def asb{E:HI}:∀{ps:List Tmp}{xs:List AV}{vs:List aPx}{s:List AV}{t:Array aPx},l9 E xs vs->l9 E s t.toList->
 l9 E (VY s ps xs) ((ps.zip vs).foldl (fun t (p:Tmp×aPx)=>t.setIfInBounds p.1 p.2) t).toList
 |[],_,_,_,_,_,h=>by simpa [VY] using h
 |_::_,[],_,_,_,rfl,h=>by simpa [VY] using h
 |p::ps,x::xs,_,s,t,⟨u,us,rfl,r1,r2⟩,h=>by
  simp only[VY,List.zip_cons_cons,List.foldl_cons];refine asb r2 ?_;have:=h.set (i:=p) r1
  grind
def apz:qK->Option (Option aPy)
 |.normal=>some none
 |.ret=>some (some .ret)
 |.exit id=>some (some (.exit id))
 |_=>none
def az7(V:yJ->List lw->Prop)(e:qK)(J:k9):Prop:=
 ∃j k s,apz e=some (sG k.js j)/\J.heap[0]? =some (.loop k s .busy 0)/\∃r H',ajL {J with heap:=J.heap.set 0 (.loop k s (stP (sG k.js j)) j)} (.bool (sG k.js j).isNone) r H'/\V (.ret r) H'
def atr{k:Bz}{V:yJ->List lw->Prop}(hH:H[0]? =some (.loop k lE .ready 0))
 (LY:yg H.length args) (Mw:∀x∈H,uJ H.length x) (hn:Cg k.assign=true/\Cg k.body=true)
 (h:awp P k.assign (qK.then (fun J1=>∃k1 s1,J1.heap[0]? =some (.loop k1 s1 .ready 0)/\awp P k.body (az7 V) {J1 with heap:=J1.heap.set 0 (.loop k1 s1 .busy 0)}) (fun _ _=>False))
   {lE:=VY lE k.ps.toList args,heap:=H,low:=H.length}):FnT P (Xc P) args H V:=by
 refine⟨LY,Mw,fun C U w hP h0 hN hφ0 hM HS vs hr D rec hφ hw=>?_⟩;subst hP;have aDg:0<H.length:=(cm.1 hH).1
 have aDq:∀{U':Nat->aPx}{J':k9}{a':Act}{w':aPB},pW C U' J' a' w'->U' 0=.func (.yield (D+1)) #[] #[]:=by
  intro U' J' a' w' S';rcases S'.mZ 0 (by omega)with⟨h1,_⟩|⟨⟨n,h1,_⟩,_⟩
  ·rw[h1,(hφ0 0 aDg).1];exact hφ
  ·rw[(hφ0 0 aDg).2,hH]at h1;cases h1
 have MN:∀{U':Nat->aPx}{J':k9}{a':Act}{w':aPB},pW C U' J' a' w'->J'.low=H.length:=fun S'=>by rw[<-S'.low.1];exact hN
 have aOQ:∀{U':Nat->aPx}{J':k9}{a':Act}{w':aPB}{k:Bz}{s:List AV}{st:LoopState}{c:Int},pW C U' J' a' w'->J'.heap[0]? =some (.loop k s st c)->
  ∃agz,w'.heap[D+1]? =some (.loop agz)/\(agz.params=k.ps/\agz.assign=k.assign/\agz.body=k.body/\agz.state=st/\agz.pending=sG k.js c/\agz.defers=D)/\l9 (C.env U' J'.heap w') s agz.tmps.toList:=by
  intro U' J' a' w' k s st c S' h0;obtain⟨D',agz,e1,g1,g2,g3,rl⟩:=S'.qJ 0 _ h0;rw[aDq S']at e1;simp only[dG,Fn.yield.injEq,cV,and_true]at e1;subst e1;exact⟨agz,g1,g3,rl⟩
 obtain⟨aOy,g1,g3,rl⟩:=aOQ HS hH;rw[hw]at g1;cases g1;rw[g3.1,g3.2.1,g3.2.2.1];refine roundIn_of_wpIn (F:=cz) trivial ?_
 have S:pW C U {lE:=VY lE k.ps.toList args,heap:=H,low:=H.length} {tmps:=(k.ps.zip vs).foldl (fun tmps (t,a)=>tmps.setIfInBounds t a) rec.tmps,defers:=[]} w:=by
  refine {HS with lE:=?_,defers:=vW.nil};have:=asb (ps:=k.ps.toList) hr rl
  grind [Array.toList_zip]
 refine wpIn_mono (Ch (ro:=some (D+1)) k.assign _ U _ _ w (.inr hn.1) h S) ?_;intro e a1 w1 hq;cases e with
 |exit id=>obtain⟨_,_,_,hq⟩:=hq;exact hq.elim
 |goto l=>obtain⟨_,_,_,hq⟩:=hq;exact hq.elim
 |ret=>obtain⟨_,_,_,hq⟩:=hq;exact hq.elim
 |panic ch=>obtain⟨_,_,_,_,_,hq,_⟩:=hq;exact hq.elim
 |outgrown=>exact hq.elim
 |normal=>
  obtain⟨U1,J1,S1,k1,s1,hH1,Q5⟩:=hq;obtain⟨aLb,kk,k3,_⟩:=aOQ S1 hH1;refine⟨_,run_beginRound kk k3.2.2.2.1,?_⟩;have S2:=S1.atm (st':=.busy) (Q4:=0) hH1 (aDq S1) kk
  have e2:({aLb with state:=.busy,pending:=sG k1.js 0}:Loop)={aLb with state:=.busy}:=by
   rw[<-k3.2.2.2.2.1]
  rw[e2]at S2;refine wpIn_mono (Ch (ro:=some (D+1)) k.body _ _ _ _ _ (.inr hn.2) Q5 S2) ?_
  have CF:∀(e:qK)(c:Option aPy)(U2:Nat->aPx)(J2:k9)(a2:Act)(w3:aPB),apz e=some c->pW C U2 J2 a2 w3->az7 V e J2->
   ∃v w',(Instr.endRound (D+1) c).run C.P w3=.ok v w'/\∃o U' H',V o H'/\pW C U' {lE:=[],heap:=H',low:=H.length} {tmps:= #[],defers:=[]} w'/\o.rep (C.env U' H' w') (.returned v):=by
   rintro e c U2 J2 a2 w3 hj S3 ⟨j,k2,s2,hj',hH2,r,H',hex,hV⟩;rw[hj]at hj';obtain rfl:c=sG k2.js j:=Option.some.inj hj';obtain⟨aOz,m1,m3,_⟩:=aOQ S3 hH2;have S4:=S3.atm (st':=stP (sG k2.js j)) (Q4:=j) hH2 (aDq S3) m1;have Z9:=run_endRound (P:=C.P) (sG k2.js j) m1;have est:(if (sG k2.js j).isNone then LoopState.ready else .done)=stP (sG k2.js j):=by cases sG k2.js j<;>rfl
   rw[est]at Z9;obtain⟨U5,S5,hr5⟩:=hex C U2 a2 _ S4 (.bool (sG k2.js j).isNone) rfl;rw[show J2.low=H.length from MN S3]at S5;exact⟨_,_,Z9,.ret r,U5,H',hV,S5,hr5⟩
  intro e a2 w3 hq;cases e with
  |normal=>obtain⟨U2,J2,S3,hq⟩:=hq;exact CF .normal none U2 J2 a2 w3 rfl S3 hq
  |ret=>obtain⟨U2,J2,S3,hq⟩:=hq;exact CF .ret _ U2 J2 a2 w3 rfl S3 hq
  |exit id=>obtain⟨U2,J2,S3,hq⟩:=hq;exact CF (.exit id) _ U2 J2 a2 w3 rfl S3 hq
  |goto l=>obtain⟨_,_,_,_,_,_,hq,_⟩:=hq;cases hq
  |panic ch=>obtain⟨_,_,_,_,_,⟨_,_,_,hq,_⟩,_⟩:=hq;cases hq
  |outgrown=>exact hq.elim
end Go.Abs
end
