/- A part of the proof: abstract states and the rules for them. -/
import Derived.Test.YtpdbjkgnmjnebaaGreatDoorCoreA
import Derived.RangeFuncLeaves
import Derived.Attr
set_option linter.all false
open Go renaming Oper→aRz,Value→aRA,Code→aRB,FuncId→aRC,Program→aRD,World→aRE,Operand→aRF,Ending→aRG
open Go.Op renaming operands→bX
open List renaming getElem?_eq_getElem→bY,getElem?_eq_some_iff→b9,range→cw,replicate→cx,getElem?_append_left→cz,range_eq_range'→cD,eq_nil_of_length_eq_zero→cE,mem_append→cG,mem_cons→cH,getElem?_append_right→cJ,range'→cN,map_congr_left→cQ,pairwise_cons→cR,take_left'→cT,drop_left'→cU,mem_cons_self→cV,flatten_cons→cW,mem_of_getElem?→cX,getD_eq_getElem?_getD→cY,pairwise_lt_range→dh,set_comm→dj,range'_succ→dn,mem_of_mem_erase→dw,getElem?_set_ne→dx,tail_drop→dz,length_erase_of_mem→dG,length_cons→dH,filter_cons→dJ,nodup_cons→dK,getElem?_set_self→dM,set_getElem_self→dN,erase_cons_tail→dO,getElem?_of_mem→dQ,map_cons→dR
open Option.some renaming injEq→bZ
open Nat renaming lt_of_lt_of_le→cc,le_refl→cj,not_lt_zero→cm,add_right_cancel_iff→cO,ne_of_lt→dy,zero_le→dA
open Prod.mk renaming injEq→cf
open Iff renaming rfl→cg
open Array renaming replicate→ck,toList_push→cK,getElem?_eq_getElem→cM,toList_append→cZ,toList_replicate→di,getElem?_eq_some_iff→dD
open Go.Fence renaming wide→cn
open Bool renaming and_eq_true→cq,false_eq_true→db
open Option renaming bind_eq_some_iff→ct,map_eq_some_iff→cv,bind_some→cP,getD_some→dm,isSome_some→dU
open List.cons renaming injEq→cC
open Go.Oper renaming apart_spec→da,uponIn_enter→dc,semAt_eq→dl
open Go.Value.func renaming injEq→dr
noncomputable section
namespace Go.Abs
variable {v x y:AV}{a:Act}{listed:Array Bool}{kE:Array aRz}{tmps:Array aRA}{b:Bool}{E E':CS}{c:aRB}{F:Fence}{u:FrameMode}{f:aRC}{uA:Int}{df:List (aRC×List AV)}{args azG j9 xs ys z:List AV}{cs:List Frame}{k:List Item}{H H':List j5}{st:LoopState}{D N i j l low n:Nat}{Y:Nat->Nat}{U:Nat->aRA}{op:Op}{o oi or':aRz}{ro:Option Nat}{d dst:Option Tmp}{P:aRD}{p:Prop}{R:Type}{t:TypeId}{h hd:aRA}{w:aRE}{J J':jS}{Q:oo->jS->Prop}{S:vF->Prop}{K V:vu->List j5->Prop}
def I5(P:aRD)(f:aRC)(args:List AV)(V:AV->Prop):Prop:=
 xE P f=true/\uc 0 args/\∀(C:qC)(U:Nat->aRA)(w:aRE),C.P=P->C.w0=w->C.N0=0->(∀b o,¬ C.M0 b o)->∀vs:Array aRA,kP (C.env U [] w) args vs.toList->
  Calls P f vs w fun e w'=>∃r v U',V r/\e=.returned v/\pm (C.env U' [] w') r v/\w.heap.size<=w'.heap.size/\(∀b,b<w.heap.size->w'.heap[b]? =w.heap[b]?)/\
   (∀x,x.block<w.heap.size->w'.frozen? x=w.frozen? x)/\w'.output=w.output/\w'.os=w.os
section aEl
variable {C:qC} {w':aRE}
theorem amJ(hh:∀b,b<w.heap.size->w'.heap[b]? =w.heap[b]?){b o:Nat}(hb:b<w.heap.size):w'.cell? ⟨b,o,none⟩=w.cell? ⟨b,o,none⟩:=by
 simp only[World.cell?,hh b hb]
def nF.aEl(S:nF C U J a w)(hs:w.heap.size<=w'.heap.size)(hh:∀b,b<w.heap.size->w'.heap[b]? =w.heap[b]?)(hf:∀x,x.block<w.heap.size->w'.frozen? x=w.frozen? x)(hr:w'.output=w.output/\w'.os=w.os):
 nF C U J a w':=by
 have le:(C.env U J.heap w).Le J.heap.length (C.env U J.heap w'):=
  qC.CU (cj _) (fun _ _=>⟨rfl,rfl⟩) (fun b o u hm hc=>⟨hm,by grind [amJ,F6]⟩)
 refine {j9:=kP.mono le _ _ (kP.nb _ _ S.j9) S.j9,defers:=S.defers.same le hh,om:=?_,apart:=S.apart,uh:=S.uh,size:=Nat.le_trans S.size hs,old:=?_,n8:=?_,Cn:=S.Cn,wZ:=fun x hx=>by rw[hf x (cc hx S.size)];exact S.wZ x hx,rest:=⟨by rw[hr.1];exact S.rest.1,by rw[hr.2];exact S.rest.2⟩,low:=S.low,mA:=S.mA}
 ·intro l x hx;have r:=S.om l x hx;exact oP.mono r le (fun b hb=>hh b (r.qP hb))
 ·intro b o hb hm;rw[amJ hh (cc hb S.size)];exact S.old b o hb hm
 ·intro b hb hm;rw[hh b (cc hb S.size)];exact S.n8 b hb hm
def nF.callee(S:nF C U J a w):qC:=
 {P:=C.P,w0:=w,M0:=fun _ _=>False,A:=fun b o=>GJ U J.heap b o\/C.A b o,
  hA:=by
   rintro b o (⟨l,x,hx,hm⟩|hA)
   ·exact(S.om l x hx).qP (j5.ot hm)
   ·exact cc (C.hA b o hA) S.size
  hk:=⟨fun b o h=>let ⟨v,h1,h2,_⟩:=S.know.cell b o h;⟨v,h1,h2,fun f=>f⟩,fun b h=>⟨fun _ f=>f,(S.know.row b h).2⟩⟩}
def nF.aFh(S:nF C U J a w)(U':Nat->aRA)(w1:aRE):(C.env U J.heap w1).Le 0 (S.callee.env U' [] w1):=by
 refine⟨dA _,fun l hl=>absurd hl (cm _),fun b o u hm hc=>⟨?_,hc⟩,CT _⟩;simp only[qC.env,nF.callee]at hm ⊢;rintro(⟨l,x,hx,_⟩|h)
 ·simp at hx
 ·exact hm h
def nF.aFi(S:nF C U J a w)(U':Nat->aRA)(w1:aRE):(S.callee.env U' [] w1).Le 0 (C.env U J.heap w1):=by
 refine⟨dA _,fun l hl=>absurd hl (cm _),fun b o u hm hc=>⟨?_,hc⟩,CT _⟩
 simp_all [qC.env,nF.callee]
def amK{V:AV->Prop}(h:I5 P f args V)(hK:∀r,V r->K (.ret r) J.heap):BB P f args J K:=by
 obtain⟨he,hn,hc⟩:=h;refine⟨he,fun C U a w hP S vs hr=>?_⟩;refine(hc S.callee U w hP rfl rfl (fun _ _ h=>h) vs (kP.mono (S.aFh U w) _ _ hn hr)).mono ?_;rintro e w' ⟨r,v,U',hV,rfl,rep,hs,hh,hf,ho⟩;refine⟨.ret r,U,J.heap,hK r hV,S.aEl hs hh hf ho,?_⟩;exact pm.mono (S.aFi U' w') _ _ (pm.nb _ _ rep) rep
end aEl
section loc

def amL{c:Call}{x:aRF}(h:x∈c.args):x∈(Op.call c).operands:=by
 grind [bX,Call.operands]
def agO{d:Nat}{x:Option aRF}(h:∀y,x=some y->J'.ev y=J.ev y):Cm J' d x=Cm J d x:=by
 cases x with
 |none=>rfl
 |some y=>simp only[Cm,h y rfl]
theorem aoN{H H':List j5}:∀{cs ds:List AV}{ns:List Nat},vwL H cs=some (ds,ns)->(∀l∈ns,H'[l]? =H[l]?)->vwL H' cs=some (ds,ns)
 |[],_,_,h,_=>by simp only[vwL]at h ⊢;exact h
 |c::cs,ds,ns,h,hr=>by
  unfold vwL at h ⊢;split at h
  ·cases ‹_::_=[]›
  ·rename_i l n cs' heq;simp only[cC]at heq;obtain⟨rfl,rfl⟩:=heq;split at h
   ·rename_i ub sz rows hl;split at h
    ·rename_i hn;split at h
     ·rename_i es ms he;simp only[bZ,cf]at h;obtain⟨rfl,rfl⟩:=h;have:=aoN he (fun k hk=>hr k (by simp [hk]))
      grind
     ·cases h
    ·cases h
   ·cases h
  ·rename_i c' cs' sv heq;simp only[cC]at heq;obtain⟨rfl,rfl⟩:=heq;split at h
   ·rename_i es ms he;simp only[bZ,cf]at h;obtain⟨rfl,rfl⟩:=h;have:=aoN he hr
    grind
   ·cases h
theorem aB9{H:List j5}:∀{cs ds:List AV}{ns:List Nat},vwL H cs=some (ds,ns)->∀l∈ns,l<H.length
 |[],_,_,h=>by grind [vwL]
 |c::cs,ds,ns,h=>by
  unfold vwL at h;split at h
  ·cases ‹_::_=[]›
  ·rename_i l n cs' heq;simp only[cC]at heq;obtain⟨rfl,rfl⟩:=heq;split at h
   ·rename_i ub sz rows hl;split at h
    ·split at h
     ·rename_i es ms he;simp only[bZ,cf]at h;obtain⟨_,rfl⟩:=h;intro k hk;simp only[cH]at hk;rcases hk with rfl|hk
      ·grind
      ·exact aB9 he k hk
     ·cases h
    ·cases h
   ·cases h
  ·rename_i c' cs' sv heq;simp only[cC]at heq;obtain⟨rfl,rfl⟩:=heq;split at h
   ·rename_i es ms he;simp only[bZ,cf]at h;obtain⟨_,rfl⟩:=h;exact aB9 he
   ·cases h
theorem aFj{e:vF}(h:ldV H l v=some e)(hr:∀k∈e.rd,H'[k]? =H[k]?):ldV H' l v=some e:=by
 unfold ldV at h ⊢
 grind [aoN]
theorem aG0{e:vF}(h:ldV H l v=some e):l∈e.rd/\e.up=[]/\∀k∈e.rd,k=l\/k<H.length:=by
 unfold ldV at h
 grind [aB9]
theorem azr {o:Op} {e:vF} (h:lG P J o=some e) (hev: ∀x∈o.operands,J'.ev x=J.ev x) (hrd: ∀l∈e.rd,J'.heap[l]? =J.heap[l]?) (hnw:e.nw≠[]->J'.heap.length=J.heap.length):
 lG P J' o=some e:=by
 cases o with
 |move x=>simp only[lG]at h ⊢;grind [bX]
 |assign x=>simp only[lG]at h ⊢;grind [bX]
 |pick c x y=>simp only[lG]at h ⊢;grind [bX]
 |alloc t=>
  simp only[lG]at h ⊢;cases hz:mD P t with
  |none=>rw[hz]at h;cases h
  |some z=>
   rw[hz]at h;cases h;rw[hnw av6]
 |box t x=>
  simp only[lG]at h ⊢;have hx:J'.ev x=J.ev x:=by grind [bX]
  rw[hx];cases hc:cellsOf (J.ev x)with
  |none=>rw[hc]at h;cases h
  |some cs=>
   rw[hc]at h;cases h;rw[hnw av6]
 |build t parts=>
  simp only[lG]at h ⊢
  grind [cQ,bX]
 |buildSlice t len parts=>
  simp only[lG]at h ⊢
  have:(parts.toList.map fun p=>(p.1,J'.ev p.2))=(parts.toList.map fun p=>(p.1,J.ev p.2)):=by
   grind [cQ,bX]
  rw[this];cases aJi:aI4 t (av4 (parts.toList.map (·.2)))with
  |false=>rw[aJi]at h;exact h
  |true=>
   rw[aJi]at h;have hn:J'.heap.length=J.heap.length:=hnw (by grind);rw[hn];exact h
 |load t x=>
  simp only[lG]at h ⊢;rw[hev x (by simp [bX])];split at h
  ·grind [aG0,aFj]
  all_goals grind
 |store t x y=>
  simp only[lG]at h ⊢;rw[hev x (by simp [bX]),hev y (by simp [bX])];split at h
  all_goals grind
 |nilCheck x=>simp only[lG]at h ⊢;grind [bX]
 |binOp op t x y ty=>simp only[lG]at h ⊢;grind [bX]
 |unOp op t x=>simp only[lG]at h ⊢;grind [bX]
 |convert s d x=>simp only[lG]at h ⊢;grind [bX]
 |makeInterface t x=>simp only[lG]at h ⊢;grind [bX]
 |makeFunc fn f c=>
  simp only[lG]at h ⊢
  grind [cQ,bX]
 |makeSlice t x y=>
  simp only[lG]at h ⊢;rw[hev x (by simp [bX]),hev y (by simp [bX])];split at h
  all_goals grind
 |slice t x lo hi mx=>
  simp only[lG]at h ⊢;have hx:=hev x (by simp [bX]);have h1:∀d,Cm J' d lo=Cm J d lo:=fun d=>agO fun y hy=>hev y (by simp [bX,hy])
  have h2:∀d,Cm J' d hi=Cm J d hi:=fun d=>agO fun y hy=>hev y (by simp [bX,hy])
  have h3:∀d,Cm J' d mx=Cm J d mx:=fun d=>agO fun y hy=>hev y (by simp [bX,hy])
  rw[hx];simp only[amA,h1,h2,h3]at h ⊢;split at h
  ·split at h
   ·cases h
   ·rename_i hmx;rw[if_neg hmx];split at h
    all_goals grind
  ·exact h
 |fieldAddr t x i=>simp only[lG]at h ⊢;grind [bX]
 |field t x i=>simp only[lG]at h ⊢;grind [bX]
 |indexAddr t x i=>
  simp only[lG]at h ⊢;rw[hev x (by simp [bX]),hev i (by simp [bX])];split at h
  ·split at h
   all_goals grind
  ·exact h
 |index t x i=>simp only[lG]at h ⊢;grind [bX]
 |extract x i=>simp only[lG]at h ⊢;grind [bX]
 |call c=>
  obtain⟨cl,args,ts⟩:=c;cases cl with
  |builtin b=>
   simp only[lG]at h ⊢;have e1:args.toList.map J'.ev=args.toList.map J.ev:=cQ fun x hx=>hev x (amL (by simpa using hx))
   rw[e1];revert h;generalize args.toList.map J.ev=xs;generalize ts.toList=tl;intro h;unfold PM at h ⊢;split at h
   ·rename_i t x;unfold av3 at h ⊢
    grind
   ·rename_i t u x y;split at h
    ·rename_i et sz by' ht hu;split at h
     ·split at h
      ·rename_i hc;rw[if_pos hc];by_cases hy:∃u,y=.str u
       ·obtain⟨u,rfl⟩:=hy;simp only[VE]at h ⊢;split at h
        ·unfold ajw at h ⊢
         grind
        ·cases h
       rw[apR hy]at h ⊢;unfold VD at h ⊢;split at h
       ·cases h
       ·rename_i rd ys auH
        have amM:∀l∈rd,l∈e.rd:=by
         grind
        have aNy:ac9 J' sz y=some (rd,ys):=by
         unfold ac9 at auH ⊢;split at auH
         all_goals grind
        rw[aNy];simp only;split at h
        all_goals grind
      ·cases h
     ·cases h
    ·cases h
   all_goals grind
  |value f=>cases h
  |invoke r m=>cases h
 |makeMap t r=>
  cases r with
  |some r=>cases h
  |none=>cases h;simp only[lG];rw[hnw (by simp)]
 |typeAssert x u t ok=>
  cases ok with
  |false=>cases h
  |true=>simp only[lG]at h ⊢;grind [bX]
 |lookup t x k ok=>
  cases ok with
  |true=>
   simp only[lG]at h ⊢;rw[hev x (by simp [bX]),hev k (by simp [bX])];split at h
   ·rename_i z l s ht BA PL;unfold aoG at h ⊢;split at h
    ·rename_i es hl;split at h
     ·rename_i hs;cases h;rw[hrd l (by cases zn s es<;>simp [av5]),hl];simp [hs]
     ·cases h
    ·cases h
   ·rename_i l n ht BA PL;split at h
    ·rename_i hti;unfold amB at h ⊢;split at h
     ·rename_i es hl;simp only[cv]at h;obtain⟨ms,hm,rfl⟩:=h;rw[hrd l (by simp),hl];simp [hti,hm]
     ·cases h
    ·cases h
   ·cases h
  |false=>
   simp only[lG]at h ⊢;rw[hev x (by simp [bX]),hev k (by simp [bX])];split at h
   ·rename_i z l s ht BA PL;unfold ajx at h ⊢
    grind
   ·cases h
 |range t x=>
  simp only[lG]at h ⊢
  grind [bX]
 |next x st=>
  cases st with
  |false=>cases h
  |true=>
   simp only[lG]at h ⊢;rw[hev x (by simp [bX])];split at h
   ·rename_i l hv;unfold ajy at h ⊢
    grind
   ·cases h
 |mapUpdate t x k y=>
  simp only[lG]at h ⊢;rw[hev x (by simp [bX]),hev k (by simp [bX]),hev y (by simp [bX])];split at h
  ·rename_i z l s ht BA PL;unfold CV at h ⊢
   grind
  ·rename_i l n ht BA PL;split at h
   ·rename_i m hy';split at h
    ·rename_i hti;unfold ada at h ⊢;split at h
     ·rename_i es hl;simp only[cv]at h;obtain⟨ms,hm,rfl⟩:=h;rw[hrd l (by simp),hl];simp [hti,hm]
     ·cases h
    ·cases h
   ·cases h
  ·cases h
 |insert t x k y=>
  simp only[lG]at h ⊢;rw[hev x (by simp [bX]),hev k (by simp [bX]),hev y (by simp [bX])];split at h
  ·rename_i z l s ht BA PL;unfold CV at h ⊢
   grind
  ·rename_i l n ht BA PL;split at h
   ·rename_i m hy';split at h
    ·rename_i hti;unfold ada at h ⊢;split at h
     ·rename_i es hl;simp only[cv]at h;obtain⟨ms,hm,rfl⟩:=h;rw[hrd l (by simp),hl];simp [hti,hm]
     ·cases h
    ·cases h
   ·cases h
  ·cases h
 |_=>cases h
end loc
def Bo(o:aRz):List Nat:=(o.after.toList.filter (Region.binds .any)).map (·.on)
def axl:List aRz->List Nat->List Nat
 |[],lR=>lR
 |o::os,lR=>axl os (lR++[(Bo o).foldl (fun s d=>s|||2 ^ d|||lR.getD d 0) 0])
def p7(kE:Array aRz)(i j:Nat):Bool:=((axl kE.toList []).getD j 0).testBit i
def CY:Op->Bool
 |.call {callee:=.builtin _,..}=>false
 |.call _=>true
 |_=>false
def KL (kE:Array aRz):Bool:=
 Region.noSelect kE&&
 (let r:=axl kE.toList []
  (cw kE.size).all fun j=>match kE[j]? with
   |none=>true
   |some oj=>(Bo oj).all (· <j)&&(cw j).all fun i=>match kE[i]? with
    |none=>true
    |some oi=>(r.getD j 0).testBit i||(oi.apart kE oj&& !(CY oi.op&&CY oj.op)))
structure Tr where
 j:Nat
 n:Nat
 e:vF
variable {tr:List Tr}
def Ld(a b:List Nat):Bool:=a.all fun x=> !b.contains x
def CZ(t:Tr)(e:vF):Bool:=
 Ld (t.e.up.map (·.1)) (e.rd++e.up.map (·.1))&&Ld (e.up.map (·.1)) t.e.rd&&
 (t.e.nw.isEmpty||(e.nw.isEmpty&&(e.rd++e.up.map (·.1)).all fun l=>decide (l<t.n)))&&
 ((!t.e.whole||(e.up.isEmpty&&e.nw.isEmpty))&&(!e.whole||(t.e.up.isEmpty&&t.e.nw.isEmpty)))
def amN:Op->Bool
 |.move _|.assign _|.pick _ _ _|.load _ _|.store _ _ _|.binOp _ _ _ _ _|.unOp _ _ _|.fieldAddr _ _ _|.field _ _ _|.indexAddr _ _ _|.index _ _ _|.extract _ _=>true
 |_=>false
def adg(o:aRz):Bool:=(match o.op with|.alloc t=> !amx t|_=>false)&&o.guard.isNone
def agP (kE:Array aRz) (i j:Nat):Bool:=
 match kE[i]?,kE[j]? with
 |some oi,some oj=>adg oi&&adg oj&&(Bo oi).isEmpty&&(Bo oj).isEmpty&&decide (i<j)&&
  (cw kE.size).all fun k=>k==i||k==j||(match kE[k]? with
    |none=>true
    |some o=>amN o.op&&(p7 kE i k==p7 kE j k))
 |_,_=>false
def aqB(kE:Array aRz)(i j:Nat):Bool:=p7 kE i j||agP kE i j
def Ee(kE:Array aRz)(tr:List Tr)(j:Nat)(e:vF):Bool:=tr.all fun t=>CZ t e||aqB kE t.j j
def IF(P:aRD)(f:aRC)(args:List AV)(J:jS)(e:vF):Prop:=
 ((∀l∈e.rd,l<J.heap.length)/\∀l∈e.up.map (·.1),l∈e.rd)/\
 ∀J':jS,(∀l∈e.rd,J'.heap[l]? =J.heap[l]?)->(e.nw≠[]->J'.heap.length=J.heap.length)->(e.whole=true->J'.heap=J.heap)->BB P f args J' (fun o H'=>o=.ret e.val/\H'=ni J'.heap e.up++e.nw)
def IF.move{e:vF}(h:IF P f args J e)(h1:∀l∈e.rd,J'.heap[l]? =J.heap[l]?)(h2:e.nw≠[]->J'.heap.length=J.heap.length)(h3:e.whole=true->J'.heap=J.heap):IF P f args J' e:=by
 refine⟨⟨fun l hl=>?_,h.1.2⟩,fun J2 k1 k2 k3=>h.2 J2 (fun l hl=>(k1 l hl).trans (h1 l hl)) (fun hn=>(k2 hn).trans (h2 hn)) (fun hw=>(k3 hw).trans (h3 hw))⟩;have sJ:=h.1.1 l hl
 grind
def yw(P:aRD)(kE:Array aRz)(o:aRz)(J:jS)(S:vF->Prop):Prop:=
 (qG kE o J=some false/\∀e,S e↔e={val:=.sV undef})\/
 (qG kE o J=some true/\nT J o.op=none/\∃e,lG P J o.op=some e/\e.pre/\∀e',S e'↔e'=e)\/
 (qG kE o J=some true/\∃f args V,nT J o.op=some (f,args)/\I5 P f args V/\(∃r,V r)/\∀e,S e↔ ∃r,V r/\e={val:=r})\/
 (qG kE o J=some true/\∃f args e,nT J o.op=some (f,args)/\IF P f args J e/\∀e',S e'↔e'=e)
def ajM(P:aRD)(kE:Array aRz)(K:jS->Prop):List Nat->List Tr->jS->Prop
 |[],_,J=>K J
 |j::rest,tr,J=>∃o S,kE[j]? =some o/\yw P kE o J S/\∀e,S e->Ee kE tr j e=true/\ajM P kE K rest (tr++[⟨j,J.heap.length,e⟩]) (J.app o.dst e)
section
variable {K:jS->Prop}
theorem azs:∀{R:List Nat}{tr tr':List Tr}{J:jS},(∀t∈tr',t∈tr)->ajM P kE K R tr J->ajM P kE K R tr' J
 |[],_,_,_,_,h=>h
 |j::rest,tr,tr',J,hs,⟨o,S,ho,hst,h⟩=>by
  refine⟨o,S,ho,hst,fun e he=>?_⟩;obtain⟨hc,hr⟩:=h e he;refine⟨?_,azs ?_ hr⟩
  all_goals grind [Ee]
def yw.aG1(h:yw P kE o J S):∃e,S e:=by
 rcases h with⟨_,h⟩|⟨_,_,e,_,_,h⟩|⟨_,f,args,V,_,_,⟨r,hr⟩,h⟩|⟨_,f,args,e,_,_,h⟩
 ·exact⟨_,(h _).2 rfl⟩
 ·exact⟨e,(h e).2 rfl⟩
 ·exact⟨_,(h _).2 ⟨r,hr,rfl⟩⟩
 ·exact⟨e,(h e).2 rfl⟩
def yw.det(h:yw P kE o J S)(hc:CY o.op=false):∃e,∀e',S e'↔e'=e:=by
 rcases h with⟨_,h⟩|⟨_,_,e,_,_,h⟩|⟨_,f,args,V,h1,_,_,h⟩|⟨_,f,args,e,_,_,h⟩
 ·exact⟨_,h⟩
 ·exact⟨e,h⟩
 rotate_left
 ·exact⟨e,h⟩
 ·exfalso;unfold nT at h1
  grind [CY]
theorem yw.eq {S':vF->Prop}(h:yw P kE o J S)(h':yw P kE o J S')(hc:CY o.op=false):∀e,S e↔S' e:=by
 have nc:∀{f args},nT J o.op≠some (f,args):=by
  intro f args h1;unfold nT at h1
  grind [CY]
 rcases h with⟨hw,h⟩|⟨hw,_,e,he,_,h⟩|⟨_,f,args,V,h1,_⟩|⟨_,f,args,_,h1,_⟩
 ·rcases h' with⟨_,h'⟩|⟨hw',_⟩|⟨_,f,args,V,h1,_⟩|⟨_,f,args,_,h1,_⟩
  all_goals grind
 ·rcases h' with⟨hw',_⟩|⟨_,_,e2,he2,_,h'⟩|⟨_,f,args,V,h1,_⟩|⟨_,f,args,_,h1,_⟩
  all_goals grind
 all_goals grind
def Qn(h:∀j b d,o.guard=some (j,b)->(kE[j]?).bind (·.dst)=some d->J'.j9[d]? =J.j9[d]?):qG kE o J'=qG kE o J:=by
 grind [qG]
theorem Mq{o:Op}(h:∀x∈o.operands,J'.ev x=J.ev x):nT J' o=nT J o:=by
 unfold nT;split
 all_goals grind [bX,Call.operands,cQ]
def yw.local(h:yw P kE o J S)(hev:∀x∈o.op.operands,J'.ev x=J.ev x)(hw:qG kE o J'=qG kE o J)
 (hh:∀e,S e->((∀l∈e.rd,J'.heap[l]? =J.heap[l]?)/\(e.nw≠[]->J'.heap.length=J.heap.length))/\(e.whole=true->J'.heap=J.heap)):yw P kE o J' S:=by
 rcases h with⟨h1,h⟩|⟨h1,h2,e,he,hp,h⟩|⟨h1,f,args,V,h2,h3,h4,h⟩|⟨h1,f,args,e,h2,h3,h⟩
 ·exact .inl ⟨by rw[hw];exact h1,h⟩
 ·refine .inr (.inl ⟨by rw[hw];exact h1,by rw[Mq hev];exact h2,e,?_,hp,h⟩)
  grind [azr]
 ·exact .inr (.inr (.inl ⟨by rw[hw];exact h1,f,args,V,by rw[Mq hev];exact h2,h3,h4,h⟩))
 ·obtain⟨⟨a,b⟩,c⟩:=hh e ((h e).2 rfl);exact .inr (.inr (.inr ⟨by rw[hw];exact h1,f,args,e,by rw[Mq hev];exact h2,h3.move a b c,h⟩))
theorem vc:∀(ups:List (Nat×j5))(H:List j5),(ni H ups).length=H.length
 |[],_=>rfl
 |(l,x)::r,H=>by simp [ni,vc r]
theorem amO:∀(ups:List (Nat×j5))(H:List j5)(l:Nat),l ∉ ups.map (·.1)->(ni H ups)[l]? =H[l]?
 |[],_,_,_=>rfl
 |(k,x)::r,H,l,h=>by
  simp only[dR,cH,not_or]at h;rw[ni,amO r _ l h.2,dx (fun e=>h.1 e.symm)]
theorem amP{e:vF}(h1:l ∉ e.up.map (·.1))(h2:l<J.heap.length):(J.app dst e).heap[l]? =J.heap[l]? :=by
 have:(J.app dst e).heap=ni J.heap e.up++e.nw:=rfl
 grind [vc,amO]
theorem aCa{e:vF}{x:aRF}(h:∀d,dst=some d->x≠ .tmp d):(J.app dst e).ev x=J.ev x:=by
 cases x with
 |tmp t=>
  cases dst with
  |none=>rfl
  |some d=>
   grind [jS.ev,jS.app,jS.put]
 |const v=>rfl
 |global g=>rfl
 |func f=>rfl
theorem aoO{e:vF}{t:Nat}(h:∀d,dst=some d->t≠d):(J.app dst e).j9[t]? =J.j9[t]? :=by
 cases dst with
 |none=>rfl
 |some d=>
  grind [jS.app,jS.put]
def aG2 {o:Op} {e:vF} (h:lG P J o=some e):(∀l∈e.rd,l<J.heap.length)/\ ∀l∈e.up.map (·.1),l<J.heap.length:=by
 have lt:∀{l:Nat}{x:j5},J.heap[l]? =some x->l<J.heap.length:=fun h=>(b9.1 h).1
 cases o with
 |load t x=>
  simp only[lG]at h;split at h
  ·split at h
   ·rename_i hl;split at h
    ·obtain⟨_,h2,h3⟩:=aG0 h
     grind
    ·cases h
   ·cases h
  ·grind
  ·grind
  ·unfold arZ at h
   grind [ct]
  ·cases h
 |store t x y=>
  simp only[lG]at h
  grind
 |indexAddr t x i=>
  simp only[lG]at h;split at h
  ·grind
  grind [ct]
 |slice t x lo hi mx=>
  simp only[lG]at h;split at h
  ·split at h
   ·cases h
   ·unfold amA at h
    grind
  grind
 |call c=>
  obtain⟨cl,args,ts⟩:=c;cases cl with
  |builtin b=>
   simp only[lG]at h;unfold PM at h;split at h
   ·unfold av3 at h
    grind
   ·split at h
    ·split at h
     ·split at h
      ·unfold VE at h;split at h
       ·split at h
        ·unfold ajw at h
         grind
        ·cases h
       unfold VD at h;split at h
       ·cases h
       ·rename_i rd ys auH
        have hrd:∀l∈rd,l<J.heap.length:=by
         unfold ac9 at auH
         grind
        grind
      ·cases h
     ·cases h
    ·cases h
   all_goals grind
  |value f=>cases h
  |invoke r m=>cases h
 |move x=>cases h;simp
 |assign x=>cases h;simp
 |makeFunc fn f c=>cases h;simp
 |pick c x y=>simp only[lG]at h;split at h<;>cases h;simp
 |alloc t=>simp only[lG]at h;split at h<;>cases h;simp [azc]
 |box t x=>simp only[lG]at h;split at h<;>cases h;simp [azc]
 |build t parts=>
  simp only[lG]at h
  grind
 |buildSlice t len parts=>
  simp only[lG]at h
  grind
 |nilCheck x=>simp only[lG]at h;split at h<;>cases h<;>simp
 |binOp op t x y ty=>
  simp only[lG]at h;split at h
  ·cases h;simp
  ·unfold av2 alr at h;split at h
   ·grind
   unfold aoF at h
   grind
 |unOp op t x=>simp only[lG]at h;split at h<;>cases h<;>simp
 |convert s d x=>
  simp only[lG]at h
  grind
 |makeInterface t x=>simp only[lG]at h;split at h<;>cases h;simp
 |makeSlice t x y=>
  simp only[lG]at h
  grind
 |fieldAddr t x i=>simp only[lG]at h;split at h<;>cases h<;>simp
 |field t x i=>
  simp only[lG]at h
  grind
 |index t x i=>
  simp only[lG]at h
  grind
 |extract x i=>
  simp only[lG]at h
  grind
 |makeMap t r=>
  cases r with
  |some r=>cases h
  |none=>cases h;simp
 |typeAssert x u t ok=>
  cases ok with
  |false=>cases h
  |true=>
   simp only[lG]at h;unfold axc at h
   grind
 |lookup t x k ok=>
  cases ok with
  |true=>
   simp only[lG]at h;split at h
   ·unfold aoG at h;split at h
    ·rename_i hl;split at h
     ·cases h;have:=lt hl;unfold av5;split<;>simp [this]
     ·cases h
    ·cases h
   ·split at h
    ·unfold amB at h;split at h
     ·rename_i hl;simp only[cv]at h;obtain⟨ms,hm,rfl⟩:=h;have:=lt hl;simp [this]
     ·cases h
    ·cases h
   ·cases h
  |false=>
   simp only[lG]at h;split at h
   ·unfold ajx at h
    grind
   ·cases h
 |range t x=>simp only[lG]at h;split at h<;>cases h;simp
 |next x st=>
  cases st with
  |false=>cases h
  |true=>
   simp only[lG]at h;split at h
   ·unfold ajy at h
    grind
   ·cases h
 |mapUpdate t x k y=>
  simp only[lG]at h;split at h
  ·unfold CV at h
   grind
  ·split at h
   ·split at h
    ·unfold ada at h;split at h
     ·rename_i hl;simp only[cv]at h;obtain⟨ms,hm,rfl⟩:=h;have:=lt hl;simp [this]
     ·cases h
    ·cases h
   ·cases h
  ·cases h
 |insert t x k y=>
  simp only[lG]at h;split at h
  ·unfold CV at h
   grind
  ·split at h
   ·split at h
    ·unfold ada at h;split at h
     ·rename_i hl;simp only[cv]at h;obtain⟨ms,hm,rfl⟩:=h;have:=lt hl;simp [this]
     ·cases h
    ·cases h
   ·cases h
  ·cases h
 |_=>cases h
end
section
variable {K:jS->Prop}
theorem aeV:∀(ups:List (Nat×j5))(H N:List j5),(∀l∈ups.map (·.1),l<H.length)->ni (H++N) ups=ni H ups++N
 |[],_,_,_=>rfl
 |(l,x)::r,H,N,h=>by
  simp only[ni];rw[List.set_append_left _ _ (h l (by simp))];exact aeV r _ N (fun k hk=>by grind)
theorem amQ:∀(ups:List (Nat×j5))(H:List j5)(l:Nat)(x:j5),l ∉ ups.map (·.1)->ni (H.set l x) ups=(ni H ups).set l x
 |[],_,_,_,_=>rfl
 |(k,y)::r,H,l,x,h=>by
  simp only[dR,cH,not_or]at h;simp only[ni];rw[dj _ _ h.1,amQ r _ l x h.2]
theorem ako:∀(u v:List (Nat×j5))(H:List j5),(∀l∈u.map (·.1),l ∉ v.map (·.1))->ni (ni H u) v=ni (ni H v) u
 |[],_,_,_=>rfl
 |(l,x)::r,v,H,h=>by
  simp only[ni];rw[ako r v _ (fun k hk=>h k (by simp at hk ⊢;exact .inr hk)),amQ v H l x (h l (by simp))]
theorem VH{a b:List Nat}(h:Ld a b=true):∀l∈a,l ∉ b:=by
 grind [Ld]
def azt {d':Option Tmp}{e e':vF}(hd: ∀x,d=some x->d'≠some x)(hi:CZ ⟨j,J.heap.length,e⟩ e'=true)
 (h1:∀l∈e.up.map (·.1),l<J.heap.length) (h2:∀l∈e'.up.map (·.1),l<(J.app d e).heap.length):(J.app d e).app d' e'=(J.app d' e').app d e:=by
 unfold CZ at hi;simp only[cq,Bool.or_eq_true]at hi;obtain⟨⟨⟨i1,i2⟩,i3⟩,_⟩:=hi;have dis:∀l∈e.up.map (·.1),l ∉ e'.up.map (·.1):=fun l hl hl'=>VH i1 l hl (cG.2 (.inr hl'))
 have h2':∀l∈e'.up.map (·.1),l<J.heap.length:=by
  grind [jS.app,vc]
 have aLR:((J.app d e).app d' e').j9=((J.app d' e').app d e).j9:=by
  cases d with
  |none=>cases d'<;>rfl
  |some x=>cases d' with
   |none=>rfl
   |some y=>
    grind [jS.app,jS.put,dj]
 have Jy:((J.app d e).app d' e').heap=((J.app d' e').app d e).heap:=by
  grind [jS.app,aeV,vc,ako]
 have ext:∀(s t:jS),s.j9=t.j9->s.heap=t.heap->s.low=t.low->s.df=t.df->s=t:=by
  intro s t h h' h'' h3;cases s;cases t;simp_all
 refine ext _ _ aLR Jy ?_ ?_<;>cases d<;>cases d'<;>rfl
def yw.lt(h:yw P kE o J S){e:vF}(he:S e):(∀l∈e.rd,l<J.heap.length)/\∀l∈e.up.map (·.1),l<J.heap.length:=by
 rcases h with⟨_,h⟩|⟨_,_,e',he',_,h⟩|⟨_,f,args,V,_,_,_,h⟩|⟨_,f,args,e',_,hl,h⟩
 ·rw[(h e).1 he];simp
 ·rw[(h e).1 he];exact aG2 he'
 ·grind
 ·rw[(h e).1 he];exact⟨hl.1.1,fun l hm=>hl.1.1 l (hl.1.2 l hm)⟩
theorem Qo{d:Tmp}(h:d ∉ o.looksAt kE):∀x∈o.op.operands,x≠ .tmp d:=by
 intro x hx e;subst e;apply h;unfold Oper.looksAt;refine cG.2 (.inl ?_);simp only[List.mem_filterMap];exact⟨.tmp d,by simpa using hx,rfl⟩
theorem Yc{d:Tmp}(h:d ∉ o.looksAt kE){k:Tmp}(hg:o.guard=some (j,b))(hk:(kE[j]?).bind (·.dst)=some k):k≠d:=by
 grind [Oper.looksAt]
def yw.asa{er:vF}(h:yw P kE oi (J.app or'.dst er) S)(hap:∀d,or'.dst=some d->d ∉ oi.looksAt kE)
 (hi:∀e,S e->CZ ⟨j,J.heap.length,er⟩ e=true):yw P kE oi J S:=by
 refine h.local (fun x hx=>?_) (Qn fun k b d hg hd=>?_) (fun e he=>?_)
 ·grind [aCa,Qo]
 ·grind [aoO,Yc]
 ·have sJ:=h.lt he
  grind [CZ,jS.app,ni,vc,amP,VH]
def yw.fwd{ei:vF}(h:yw P kE or' J S)(hap:∀d,oi.dst=some d->d ∉ or'.looksAt kE)
 (hi:∀e,S e->CZ ⟨j,J.heap.length,e⟩ ei=true):yw P kE or' (J.app oi.dst ei) S:=by
 refine h.local (fun x hx=>?_) (Qn fun k b d hg hd=>?_) (fun e he=>?_)
 ·grind [aCa,Qo]
 ·grind [aoO,Yc]
 ·have sJ:=h.lt he
  grind [CZ,jS.app,ni,amP,VH,vc]
def GL(h:KL kE=true):Region.noSelect kE=true/\∀(j:Nat)(oj:aRz),kE[j]? =some oj->(∀d∈Bo oj,d<j)/\
 ∀(i:Nat)(oi:aRz),i<j->kE[i]? =some oi->p7 kE i j=false->oi.apart kE oj=true/\ ¬ (CY oi.op=true/\CY oj.op=true):=by
 grind [KL,p7]
theorem aFk {n':Nat}{e e':vF}(h:n<=n')(hi:CZ ⟨j,n,e⟩ e'=true):CZ ⟨j,n',e⟩ e'=true:=by
 grind [CZ]
def asb:∀{R:List Nat}{tr tr':List Tr}{J:jS},(∀t'∈tr',∃t∈tr,t.j=t'.j/\t.e=t'.e/\t.n<=t'.n)->ajM P kE K R tr J->ajM P kE K R tr' J
 |[],_,_,_,_,h=>h
 |j::rest,tr,tr',J,hs,⟨o,S,ho,hst,h⟩=>by
  refine⟨o,S,ho,hst,fun e he=>?_⟩;obtain⟨hc,hr⟩:=h e he;refine⟨?_,asb ?_ hr⟩
  ·unfold Ee at*;rw[List.all_eq_true]at*;intro t' ht';obtain⟨t,ht,h1,h2,h3⟩:=hs t' ht';have:=hc t ht;simp only[Bool.or_eq_true]at*;rw[<-h1];refine this.imp (fun hi=>?_) id;obtain⟨a,b,c⟩:=t;obtain⟨a',b',c'⟩:=t'
   grind [aFk]
  grind
def aFl(h:aqB kE i j=false):p7 kE i j=false:=by
 grind [aqB]
def azu(Ue:KL kE=true){i:Nat}: ∀{R:List Nat}{tr:List Tr}{J:jS},ajM P kE K R tr J->i∈R->R.Pairwise (· < ·)->(∀r∈R,r<i->aqB kE r i=false)->
 ∃o S,kE[i]? =some o/\yw P kE o J S/\∀e,S e->Ee kE tr i e=true/\ajM P kE K (R.erase i) tr (J.app o.dst e)
 |[],_,_,_,hi,_,_=>by simp at hi
 |r::R,tr,J,⟨or',Sr,hor,hst,h⟩,hi,hpw,azv=>by
  by_cases e:r=i
  ·grind [azs]
  ·have hiR:i∈R:=by
    grind
   rw[cR]at hpw;have hri:r<i:=hpw.1 i hiR;have aNz:aqB kE r i=false:=azv r (by simp) hri;have ih:∀er,Sr er->_:=fun er her=>azu Ue (h er her).2 hiR hpw.2 (fun q hq sJ=>azv q (by simp [hq]) sJ)
   obtain⟨er0,aPr⟩:=hst.aG1;obtain⟨oi,S0,VI,aPs,h0⟩:=ih er0 aPr;obtain⟨_,aa5⟩:=GL Ue;obtain⟨asd,aPt⟩:=(aa5 i oi VI).2 r or' hri hor (aFl aNz);obtain⟨a1,a2,a3⟩:=da asd
   have aG3:∀{er:vF}{S:vF->Prop},(∀e,S e->Ee kE (tr++[⟨r,J.heap.length,er⟩]) i e=true/\ajM P kE K (R.erase i) (tr++[⟨r,J.heap.length,er⟩]) ((J.app or'.dst er).app oi.dst e))->
    ∀e,S e->CZ ⟨r,J.heap.length,er⟩ e=true:=by
    grind [Ee]
   have agQ:yw P kE oi J S0:=aPs.asa (j:=r) a1 (aG3 h0);refine⟨oi,S0,VI,agQ,fun ei hei=>?_⟩
   have same:∀er,Sr er->Ee kE (tr++[⟨r,J.heap.length,er⟩]) i ei=true/\ajM P kE K (R.erase i) (tr++[⟨r,J.heap.length,er⟩]) ((J.app or'.dst er).app oi.dst ei):=by
    intro er her;obtain⟨oi',S',aNA,aPu,h'⟩:=ih er her;rw[VI]at aNA;cases aNA;by_cases hc:CY oi.op=true
    ·
     have hcr:CY or'.op=false:=by
      grind
     obtain⟨ex,hex⟩:=hst.det hcr
     grind
    ·have hc':CY oi.op=false:=by simpa using hc
     have sK:yw P kE oi J S':=aPu.asa (j:=r) a1 (aG3 h');exact h' ei ((agQ.eq sK hc' ei).1 hei)
   have aPv:yw P kE or' (J.app oi.dst ei) Sr:=by
    refine hst.fwd (j:=r) a3 (fun er her=>?_)
    grind [Ee]
   refine⟨?_,?_⟩
   ·grind [Ee]
   ·have sv:(r::R).erase i=r::R.erase i:=dO (by simpa using e);rw[sv];refine⟨or',Sr,hor,aPv,fun er her=>⟨(h er her).1,?_⟩⟩;have hs:=same er her
    have hi':CZ ⟨r,J.heap.length,er⟩ ei=true:=by
     grind [Ee]
    have aG4:=azt (d:=or'.dst) (d':=oi.dst) a2 hi' (hst.lt her).2 (by
     intro l hl;have:=(agQ.lt hei).2 l hl
     grind [jS.app,vc])
    rw[<-aG4];refine asb ?_ hs.2;intro t' ht';rcases cG.1 ht' with ht'|ht'
    ·grind
    simp_all [jS.app,vc]
def aa6{f:Nat->Nat}{r:Nat}:∀(ds:List Nat)(s:Nat),(ds.foldl (fun s d=>s|||2 ^ d|||f d) s).testBit r=true->s.testBit r=true\/∃d∈ds,d=r\/(f d).testBit r=true
 |[],s,h=>.inl h
 |d::ds,s,h=>by
  simp only[List.foldl_cons]at h;rcases aa6 ds _ h with h|⟨d',hd',h⟩
  all_goals grind
def apZ{L:Nat->Prop}{all:List aRz}(aEm: ∀j o,all[j]? =some o->L j-> ∀d∈Bo o,L d): ∀(os:List aRz)(lR:List Nat),all.drop lR.length=os->
 (∀k o,all[k]? =some o->k<lR.length->(∀d∈Bo o,L d)->∀r,(lR.getD k 0).testBit r=true->L r)->(∀k o,all[k]? =some o->∀d∈Bo o,d<k)->
 ∀k o,all[k]? =some o->(∀d∈Bo o,L d)->∀r,((axl os lR).getD k 0).testBit r=true->L r
 |[],lR,hd,h,_=>by
  intro k o hk EV r hr;refine h k o hk ?_ EV r hr;have h1:all.length<=lR.length:=by simpa using hd
  grind
 |o::os,lR,hd,h,sJ=>by
  refine apZ aEm os _ ?_ ?_ sJ
  ·grind [dz]
  ·intro k o' hk hkl EV r hr
   have ho:all[lR.length]? =some o:=by
    have:=congrArg (fun l:List aRz=>l[0]?) hd;simpa using this
   by_cases e:k<lR.length
   ·rw[cY,cz e,<-cY]at hr;exact h k o' hk e EV r hr
   ·have e2:k=lR.length:=by simp at hkl;omega
    subst e2;rw[ho]at hk;cases hk;rw[cY,cJ (cj _)]at hr;simp only[Nat.sub_self,List.getElem?_cons_zero,dm]at hr;rcases aa6 (f:=fun d=>lR.getD d 0) _ _ hr with h0|⟨d,hd',rfl|h1⟩
    ·simp at h0
    ·exact EV d hd'
    ·have hdl:d<lR.length:=sJ _ _ ho d hd';have aNB:d<all.length:=by grind
     exact h d all[d] (bY aNB) hdl (aEm d _ (bY aNB) (EV d hd')) r h1
end
theorem oX(m j:Nat):(ck m false).getD j false=false:=by
 by_cases h:j<m<;>simp [Array.getD,h]
section region
variable {C:qC}
def PQ(S:nF C U J a w){E:vF->Prop}(ho:kE[i]? =some o)(h:yw C.P kE o J E){K:Act->aRE->Prop}{Q':Exit->Act->aRE->Prop}
 (hK:∀e U' v w',E e->nF C U' (J.app o.dst e) (a.put o.dst v) w'->K (a.put o.dst v) w'):wpOpIn (GK ro) 0 C.P kE Q' i K a w:=by
 unfold wpOpIn;simp only[ho];rcases h with⟨hw,h⟩|⟨hw,_,e,he,hp,h⟩|⟨hw,f,args,V,hc,hf,_,h⟩|⟨hw,f,args,e,hc,hf,h⟩
 ·rw[z6 S hw];simp only[db,if_false];refine⟨fun _ _=>trivial,hK _ U undef w ((h _).2 rfl) ?_⟩;rw[Mo];exact S.put o.dst rfl
 ·rw[z6 S hw];simp only[jM];obtain⟨n,v,w',U',hr,hn,S'⟩:=Yb S he hp;refine⟨fun _ _=>trivial,?_⟩
  grind [dl,azo,Oper.uponIn_value,Oper.uponIn_skip]
 ·rw[z6 S hw];simp only[jM];have xK:BB C.P f args J (fun o' H'=>∃r,V r/\o'=.ret r/\H'=J.heap):=amK hf (fun r hr=>⟨r,hr,rfl,rfl⟩);obtain⟨vs,uB,hr⟩:=Mp S hc xK.1;refine⟨fun _ _=>trivial,?_⟩;rw[dl _ _ _ (QP hc),uB,dc];refine⟨fun h=>by simp [GK,cn]at h,Lc.2 ?_⟩;refine(xK.2 C U a w rfl S vs hr).mono fun en w' ⟨o',U',H',⟨r,hV,ho',hH⟩,S',tD⟩=>?_
  subst ho' hH;cases en with
  |returned v=>
   refine hK {val:=r} U' v w' ((h _).2 ⟨r,hV,rfl⟩) ?_;rw[Mo];exact S'.put o.dst tD
  |panicked chain=>exact tD.elim
  |outgrown=>exact tD.elim
 ·rw[z6 S hw];simp only[jM];have xK:=hf.2 J (fun _ _=>rfl) (fun _=>rfl) (fun _=>rfl);obtain⟨vs,uB,hr⟩:=Mp S hc xK.1;refine⟨fun _ _=>trivial,?_⟩;rw[dl _ _ _ (QP hc),uB,dc];refine⟨fun h=>by simp [GK,cn]at h,Lc.2 ?_⟩;refine(xK.2 C U a w rfl S vs hr).mono fun en w' ⟨o',U',H',⟨ho',hH⟩,S',tD⟩=>?_
  subst ho' hH;cases en with
  |returned v=>
   refine hK e U' v w' ((h _).2 rfl) ?_;have:=S'.put o.dst tD
   have e1:({J with heap:=ni J.heap e.up++e.nw}:jS).put o.dst e.val=J.app o.dst e:=by
    cases hd:o.dst<;>rfl
   rw[e1]at this;exact this
  |panicked chain=>exact tD.elim
  |outgrown=>exact tD.elim
end region
def Ku{E:CS}{b:Nat}{c:Array aRA}{t:TypeId}{fr:Nat×Nat}(hcb:E.w.heap[b]? =some (.cells c t fr)): ∀(cs:List AV)(off:Nat),(∀o,off<=o->o<off+cs.length-> ¬ E.mu b o)->
 kP E cs ((c.toList.drop off).take cs.length)->(∀u∈(c.toList.drop off).take cs.length,u.oneCell'=true)->oV E b off cs
 |[],_,_,_,_=>trivial
 |x::cs,off,hm,r,h1=>by
  obtain⟨u,us,hu,r1,r2⟩:=r
  have hcu:c[off]? =some u:=by
   have:(c.toList.drop off)[0]? =some u:=by
    have:=congrArg (fun l:List aRA=>l[0]?) hu;simpa using this
   simpa using this
  have htl:us=(c.toList.drop (off+1)).take cs.length:=by
   have h1:=congrArg List.tail hu;simp only[List.tail_cons]at h1;rw[<-h1];cases hd:c.toList.drop off with
   |nil=>rw[hd]at hu;simp at hu
   |cons y ys=>
    grind [dz]
  refine⟨⟨hm off (cj _) (by simp),u,by grind [World.cell?],h1 u (by rw[hu];simp),r1⟩,Ku hcb cs (off+1) (fun o h2 h3=>hm o (by omega) (by simp;omega)) (by rw[<-htl];exact r2) (fun v hv=>h1 v (by rw[hu,htl];simp [hv]))⟩
def aa7{E:CS}{b sz:Nat}{c:Array aRA}{t:TypeId}{fr:Nat×Nat}(hcb:E.w.heap[b]? =some (.cells c t fr)):∀(rs:List (List AV))(off:Nat),(∀r∈rs,r.length=sz)->
 (∀o,off<=o->o<off+rs.length*sz-> ¬ E.mu b o)->kP E rs.flatten ((c.toList.drop off).take (rs.length*sz))->(∀u∈(c.toList.drop off).take (rs.length*sz),u.oneCell'=true)->ol E sz b off rs
 |[],_,_,_,_,_=>trivial
 |r::rs,off,hl,hm,h,h1=>by
  have hr:r.length=sz:=hl r (by simp);simp only[cW]at h;have h3:=kP.take r.length h;have h2:=kP.drop r.length h;simp only[cT,cU,List.take_take,List.drop_take,List.drop_drop]at h3 h2
  have e1:min r.length ((r::rs).length*sz)=r.length:=by
   grind [Nat.add_mul]
  have e2:(r::rs).length*sz-r.length=rs.length*sz:=by grind [Nat.add_mul]
  have e3:(r::rs).length*sz=rs.length*sz+sz:=by grind
  rw[e1]at h3;rw[e2,hr]at h2;refine⟨hr,Ku hcb r off (fun o h4 h5=>hm o h4 (by omega)) h3 (fun u hu=>h1 u ?_),aa7 hcb rs (off+sz) (fun q hq=>hl q (by simp [hq])) (fun o h4 h5=>hm o (by omega) (by omega)) h2 (fun u hu=>h1 u ?_)⟩
  all_goals grind [List.drop_drop]
def sk(n:Nat):j5->Prop
 |.cells cs=>uc n cs
 |.lR _ _ rows=>Jv n rows
 |.map es=>∀p∈es,p.1.nb n/\p.2.nb n
 |.loop _ j9 _ _=>uc n j9
 |.iter _ _=>True
 |.Jw _=>True
 |.vZ=>True
def OB(x y:AV):Prop:=∀(E:CS)(v:aRA),pm E x v->pm E y v
def qn(xs ys:List AV):Prop:=∀(E:CS)(vs:List aRA),kP E xs vs->kP E ys vs
def Sn(xs ys:List (List AV)):Prop:=xs.length=ys.length/\∀(E:CS)(sz b off:Nat),ol E sz b off xs->ol E sz b off ys
def aoP(xs ys:List AV):Prop:=xs.length=ys.length/\∀(E:CS)(b off:Nat),oV E b off xs->oV E b off ys
theorem OB.refl(x:AV):OB x x:=fun _ _ h=>h
def OB.any(x:AV):OB x .any:=fun _ _ _=>trivial
theorem qn.refl(xs:List AV):qn xs xs:=fun _ _ h=>h
theorem qn.nil:qn [] []:=fun _ _ h=>h
theorem qn.cons{x y:AV}{xs ys:List AV}(h:OB x y)(hs:qn xs ys):qn (x::xs) (y::ys):=fun E _ ⟨u,us,hv,r1,r2⟩=>⟨u,us,hv,h E u r1,hs E us r2⟩
theorem aoP.refl(xs:List AV):aoP xs xs:=⟨rfl,fun _ _ _ h=>h⟩
theorem aoP.nil:aoP [] []:=aoP.refl []
theorem aoP.cons{x y:AV}{xs ys:List AV}(h:OB x y)(hs:aoP xs ys):aoP (x::xs) (y::ys):=
 ⟨by simp [hs.1],fun E b off ⟨⟨hm,u,hu,h1,r⟩,r2⟩=>⟨⟨hm,u,hu,h1,h E u r⟩,hs.2 E b _ r2⟩⟩
theorem Sn.refl(xs:List (List AV)):Sn xs xs:=⟨rfl,fun _ _ _ _ h=>h⟩
theorem Sn.nil:Sn [] []:=Sn.refl []
theorem Sn.cons{x y:List AV}{xs ys:List (List AV)}(h:aoP x y)(hs:Sn xs ys):Sn (x::xs) (y::ys):=
 ⟨by simp [hs.1],fun E sz b off ⟨h1,r,r2⟩=>⟨by rw[<-h.1];exact h1,h.2 E b off r,hs.2 E sz b _ r2⟩⟩
def OB.agg(h:qn xs ys):OB (.agg xs) (.agg ys):=fun E _ ⟨vs,hv,r⟩=>⟨vs,hv,h E _ r⟩
def OB.I3(h:qn xs ys):OB (.I3 xs) (.I3 ys):=fun E _ ⟨vs,hv,r⟩=>⟨vs,hv,h E _ r⟩
def OB.pp(h:aoP xs ys):OB (.pp xs) (.pp ys):=fun E _ ⟨b,off,hv,r⟩=>⟨b,off,hv,h.2 E b off r⟩
def OB.func{fn:Fn}{f f' c c':List AV}(h:qn f f')(h':qn c c'):OB (.func fn f c) (.func fn f' c'):=fun E _ ⟨a,b,hv,r1,r2⟩=>⟨a,b,hv,h E _ r1,h' E _ r2⟩
def OB.kF{t:Bool}{sz:Nat}{xs ys:List (List AV)}(h:Sn xs ys):OB (.kF t sz xs) (.kF false sz ys):=fun E v ⟨base,cap,h1,h2,h3,h4,h5,h6⟩=>
 ⟨base,cap,by rw[<-h.1];exact h1,by rw[<-h.1];exact h2,(by intro h;cases h),h4,fun a ha sv=>h5 a ha (fun e=>sv (by have:=h.1;grind)),fun a ha=>h.2 E sz _ _ (h6 a ha)⟩
def OB.empty(t:Bool)(sz Ud:Nat):OB (.kF t sz []) (.kF false Ud []):=fun _ _ ⟨base,cap,h1,h2,_,h4,_,_⟩=>
 ⟨base,cap,h1,h2,(by intro h;cases h),h4,(by intro a _ h;exact absurd rfl h),fun _ _=>trivial⟩
def Co1(H:List j5)(n:Nat)(x y:AV):Prop:=
 (OB x y/\y.nb n)\/∃l m sz rows,x=.lR l m/\H[l]? =some (.lR true sz rows)/\rows.length=m/\OB (.kF false sz rows) y/\y.nb n
def lO(H:List j5)(n:Nat):List AV->List AV->Prop
 |[],ys=>ys=[]
 |x::xs,ys=>∃y zs,ys=y::zs/\Co1 H n x y/\lO H n xs zs
def Co(H:List j5)(n:Nat)(x y:AV):Prop:=Co1 H n x y\/∃cs ds,x=.agg cs/\y=.agg ds/\lO H n cs ds
def Aq(H:List j5)(n:Nat):List AV->List AV->Prop
 |[],ys=>ys=[]
 |x::xs,ys=>∃y zs,ys=y::zs/\Co H n x y/\Aq H n xs zs
def pz{n:Nat}:∀{p q:List AV},uc n p->uc n q->uc n (p++q)
 |[],_,_,hq=>hq
 |_::_,_,hp,hq=>⟨hp.1,pz hp.2 hq⟩
def Lf{n:Nat}:∀{rows:List (List AV)},Jv n rows->uc n rows.flatten
 |[],_=>trivial
 |_::_,h=>by simp only[cW];exact pz h.1 (Lf h.2)
def Kv:List (List AV)->List (List AV)->Prop
 |[],ys=>ys=[]
 |x::xs,ys=>∃y zs,ys=y::zs/\(x.length=y.length/\qn x y)/\Kv xs zs
theorem Kv.length:∀{xs ys:List (List AV)},Kv xs ys->ys.length=xs.length
 |[],_,rfl=>rfl
 |_::_,_,⟨_,_,rfl,_,h⟩=>by simp [Kv.length h]
theorem Kv.sz{sz:Nat}:∀{xs ys:List (List AV)},Kv xs ys->(∀r∈xs,r.length=sz)->∀r∈ys,r.length=sz
 |[],_,rfl,_=>by simp
 |x::_,_,⟨y,_,rfl,h1,h⟩,hl=>by
  intro r hr;simp only[cH]at hr;rcases hr with rfl|hr
  ·rw[<-h1.1];exact hl x (by simp)
  ·exact Kv.sz h (fun q hq=>hl q (by simp [hq])) r hr
def Kv.flat:∀{xs ys:List (List AV)}{vs:List aRA},Kv xs ys->kP E xs.flatten vs->kP E ys.flatten vs
 |[],_,_,rfl,r=>r
 |x::xs,_,vs,⟨y,zs,rfl,h1,h⟩,r=>by
  simp only[cW]at r ⊢;have h3:=kP.take x.length r;have h2:=kP.drop x.length r;simp only[cT,cU]at h3 h2;have:=kP.append (h1.2 _ _ h3) (Kv.flat h h2)
  rwa [List.take_append_drop]at this
def VJ(H:List j5)(n:Nat)(x y:j5):Prop:=
 y=.vZ\/(y=x/\sk n x)\/(∃cs ds,x=.cells cs/\y=.cells ds/\Aq H n cs ds)\/(∃ub sz rows xJ,x=.lR ub sz rows/\y=.lR ub sz xJ/\Kv rows xJ/\Jv n xJ)\/
  ∃k s s' st uA,x=.loop k s st uA/\y=.loop k s' st uA/\Aq H n s s'
def CoH(H:List j5)(n:Nat):List j5->List j5->Prop
 |_,[]=>True
 |[],_::_=>False
 |x::xs,y::ys=>VJ H n x y/\CoH H n xs ys
def aCb(n:Nat)(df:List (aRC×List AV)):Prop:=∀p∈df,uc n p.2
def agR:aCb n []:=fun _ h=>by cases h
def ase(J J':jS):Prop:=((J'.low=J.low/\J.low<=J'.heap.length)/\J'.df=J.df/\aCb J'.heap.length J.df)/\Aq J.heap J'.heap.length J.j9 J'.j9/\CoH J.heap J'.heap.length J.heap J'.heap
def CoH.get:∀{xs ys:List j5}{l:Nat}{y:j5},CoH H n xs ys->ys[l]? =some y->∃x,xs[l]? =some x/\VJ H n x y
 |_,[],_,_,_,h=>by simp at h
 |[],_::_,_,_,h,_=>h.elim
 |x::_,_::_,0,_,⟨h,_⟩,hy=>by simp at hy;subst hy;exact⟨x,by simp,h⟩
 |_::_,_::_,l+1,_,⟨_,h⟩,hy=>by
  simp at hy;obtain⟨x,hx,hc⟩:=CoH.get h hy;exact⟨x,by simpa using hx,hc⟩
section weak
variable {C:qC}
def Aq.rep(zr:∀x y v,Co H n x y->pm E x v->pm E' y v):∀{xs ys:List AV}{vs:List aRA},Aq H n xs ys->kP E xs vs->kP E' ys vs
 |[],_,_,rfl,r=>r
 |_::_,_,_,⟨y,zs,rfl,hc,hr⟩,⟨u,us,rfl,r1,r2⟩=>⟨u,us,rfl,zr _ y u hc r1,Aq.rep zr hr r2⟩
def lO.rep(zr:∀x y v,Co1 H n x y->pm E x v->pm E' y v):∀{xs ys:List AV}{vs:List aRA},lO H n xs ys->kP E xs vs->kP E' ys vs
 |[],_,_,rfl,r=>r
 |_::_,_,_,⟨y,zs,rfl,hc,hr⟩,⟨u,us,rfl,r1,r2⟩=>⟨u,us,rfl,zr _ y u hc r1,lO.rep zr hr r2⟩
def Co.of1(zr:∀x y v,Co1 H n x y->pm E x v->pm E' y v)(x y:AV)(v:aRA)(h:Co H n x y)(r:pm E x v):pm E' y v:=by
 rcases h with h|⟨cs,ds,rfl,rfl,h⟩
 ·exact zr x y v h r
 ·obtain⟨vs,hv,rl⟩:=r;exact⟨vs,hv,lO.rep zr h rl⟩
def Co.rep(S:nF C U J a w){v:aRA}(h:Co J.heap n x y)(r:pm (C.env U J.heap w) x v):pm (C.env U J.heap w) y v:=by
 refine Co.of1 ?_ x y v h r;intro x y v hc r;rcases hc with⟨amM,hn⟩|⟨l,m,sz,rows,rfl,hl,hm,amM,hn⟩
 ·exact amM _ _ r
 ·have hv:=Qm S hl hm r;subst hv;exact amM _ _ (agJ S hl)
def Aq.aPw(S:nF C U J a w){vs:List aRA}(h:Aq J.heap n xs ys)(r:kP (C.env U J.heap w) xs vs):kP (C.env U J.heap w) ys vs:=
 Aq.rep (fun _ _ _ h r=>Co.rep S h r) h r
def ase.sim(h:ase J J')(S:nF C U J a w):nF C U J' a w:=by
 obtain⟨⟨JB,hdf,hdn⟩,hs,hh⟩:=h;have Sm:∀(l:Nat)(y:j5),J'.heap[l]? =some y->∃x,J.heap[l]? =some x/\VJ J.heap J'.heap.length x y:=fun l y hy=>hh.get hy
 have apX:∀{x y:j5}{h:aRA}{b o:Nat},VJ J.heap J'.heap.length x y->y.Bk h b o->x.Bk h b o:=by
  intro x y h b o hc hm;rcases hc with rfl|⟨rfl,_⟩|⟨cs,ds,rfl,rfl,_⟩|⟨ub,sz,rows,xJ,rfl,rfl,_,_⟩|⟨lk,s1,s2,st,uA,rfl,rfl,_⟩
  ·simp [j5.Bk]at hm
  ·exact hm
  ·cases h with
   |pointer p=>cases p<;>exact hm
   |_=>exact hm
  ·cases h with
   |slice p _ _=>cases p<;>exact hm
   |_=>exact hm
  ·cases h with
   |func q _ _=>cases q<;>exact hm
   |_=>exact hm
 have Fv:∀{x y:j5}{h:aRA}{b:Nat},VJ J.heap J'.heap.length x y->y.block h b->x.block h b:=by
  intro x y h b hc hm;rcases hc with rfl|⟨rfl,_⟩|⟨cs,ds,rfl,rfl,_⟩|⟨ub,sz,rows,xJ,rfl,rfl,_,_⟩|⟨lk,s1,s2,st,uA,rfl,rfl,_⟩
  ·simp [j5.block]at hm
  ·exact hm
  ·cases h with
   |pointer p=>cases p<;>exact hm
   |_=>exact hm
  ·cases h with
   |slice p _ _=>cases p<;>exact hm
   |_=>exact hm
  ·cases h with
   |func q _ _=>cases q<;>exact hm
   |_=>exact hm
 have OC:∀b o,GJ U J'.heap b o->GJ U J.heap b o:=by
  rintro b o ⟨l,y,hy,hm⟩;obtain⟨x,hx,hc⟩:=Sm l y hy;exact⟨l,x,hx,apX hc hm⟩
 have le:(C.env U J.heap w).Le J'.heap.length (C.env U J'.heap w):=by
  refine⟨cj _,fun l hl=>.inl ⟨rfl,?_⟩,fun b o u hm hc=>⟨fun h=>hm (h.imp (OC b o) id),hc⟩,CT _⟩;obtain⟨x,hx,hc⟩:=Sm l J'.heap[l] (bY hl);simp only[qC.env];rw[bY hl,hx];rcases hc with h|⟨h,_⟩|⟨cs,ds,rfl,h,_⟩|⟨ub,sz,rows,xJ,rfl,h,hr,_⟩|⟨lk,s1,s2,st,uA,rfl,h,_⟩
  ·right;rw[h];rfl
  ·left;rw[h]
  ·left;rw[h];rfl
  ·left;rw[h];simp only[mR,hr.length]
  ·left;rw[h];rfl
 have zr:∀x y v,Co J.heap J'.heap.length x y->pm (C.env U J.heap w) x v->pm (C.env U J'.heap w) y v:=by
  refine Co.of1 ?_;intro x y v hc r;rcases hc with⟨amM,hn⟩|⟨l,m,sz,rows,rfl,hl,hm,amM,hn⟩
  ·exact pm.mono le _ _ hn (amM _ _ r)
  ·have hv:=Qm S hl hm r;subst hv;exact pm.mono le _ _ hn (amM _ _ (agJ S hl))
 have B1:tv C U J'.heap w J'.df a.defers:=by
  rw[hdf]
  exact S.defers.aza (fun xs vs ⟨f,hf⟩ r=>kP.mono le _ _ (hdn _ hf) r) (fun _ _ _=>rfl) (fun l x b hx hb=>by
   grind)
 refine {j9:=Aq.rep zr hs S.j9,defers:=B1,om:=?_,apart:=?_,uh:=?_,size:=S.size,old:=S.old,n8:=S.n8,Cn:=?_,wZ:=S.wZ,rest:=S.rest,low:=⟨by rw[JB.1];exact S.low.1,by rw[JB.1];exact JB.2⟩,mA:=?_}
 ·intro l y hy;obtain⟨x,hx,hc⟩:=Sm l y hy;have r:=S.om l x hx;rcases hc with rfl|⟨rfl,hn⟩|⟨cs,ds,rfl,rfl,hcl⟩|⟨ub,sz,rows,xJ,rfl,rfl,hr,hn⟩|⟨lk,s1,s2,st,uA,rfl,rfl,hcl⟩
  ·exact trivial
  ·cases y with
   |cells cs=>
    obtain⟨b,c,t,h1,h2,rl,h3⟩:=r;exact⟨b,c,t,h1,h2,kP.mono le _ _ hn rl,h3⟩
   |lR ub sz rows=>
    obtain⟨base,cap,h1,h2,h3,h4,h5⟩:=r;refine⟨base,cap,h1,h2,h3,h4,fun a0 ha hc=>?_⟩;obtain⟨h6,c,t,h7,h8,rl,h9⟩:=h5 a0 ha hc
    exact⟨h6,c,t,h7,h8,kP.mono le _ _ (by
     clear rl h9 h8 h7 h6 hc ha h5 h4 h3 h2 h1;revert hn;simp only[sk];clear hy hx;induction rows with
     |nil=>intro _;trivial
     |cons r rs ih=>
      intro hn;simp only[cW]
      have:∀(p q:List AV),uc J'.heap.length p->uc J'.heap.length q->uc J'.heap.length (p++q):=by
       intro p q hp hq;induction p with
       |nil=>exact hq
       |cons z p ihp=>exact⟨hp.1,ihp hp.2⟩
      exact this r _ hn.1 (ih hn.2)) rl,h9⟩
   |map es=>
    obtain⟨r',en,cl,h1,h2,rp⟩:=r;exact⟨r',en,cl,h1,h2,rJ.mono le hn rp⟩
   |loop lk s1 st uA=>
    obtain⟨D,rec,h1,h2,h3,h4,rl⟩:=r;exact⟨D,rec,h1,h2,h3,h4,kP.mono le _ _ hn rl⟩
   |iter s p=>exact r
   |Jw s=>exact r
   |vZ=>trivial
  ·obtain⟨b,c,t,h1,h2,rl,h3⟩:=r;exact⟨b,c,t,h1,h2,Aq.rep zr hcl rl,h3⟩
  ·obtain⟨base,cap,h1,h2,h3,h4,h5⟩:=r;have hlen:=hr.length;refine⟨base,cap,by rw[hlen];exact h1,by rw[hlen];exact h2,h3,hr.sz h4,fun a0 ha hc=>?_⟩;obtain⟨h6,c,t,h7,h8,rl,h9⟩:=h5 a0 ha hc;rw[hlen];exact⟨h6,c,t,h7,h8,kP.mono le _ _ (Lf hn) (hr.flat rl),h9⟩
  ·obtain⟨D,rec,h1,h2,h3,h4,rl⟩:=r;exact⟨D,rec,h1,h2,h3,h4,Aq.rep zr hcl rl⟩
 ·intro l l' x x' b hx BA hb sK;obtain⟨y,hy,hc⟩:=Sm l x hx;obtain⟨y',hy',hc'⟩:=Sm l' x' BA;exact S.apart l l' y y' b hy hy' (Fv hc hb) (Fv hc' sK)
 ·intro l x b o hx hb;obtain⟨y,hy,hc⟩:=Sm l x hx;exact S.uh l y b o hy (Fv hc hb)
 ·intro l x b o hx hm hb;obtain⟨y,hy,hc⟩:=Sm l x hx;exact S.Cn l y b o hy (apX hc hm) hb
 ·intro l hl;have sJ:l<J'.heap.length:=by have:=S.low;omega
  obtain⟨x,hx,hc⟩:=Sm l J'.heap[l] (bY sJ);have hn:=S.mA l hl;rw[hx]at hn;rw[bY sJ]
  have aEn:mR (some J'.heap[l])=mR (some x)\/mR (some J'.heap[l])=none:=by
   rcases hc with h|⟨h,_⟩|⟨cs,ds,rfl,h,_⟩|⟨ub,sz,rows,xJ,rfl,h,hr,_⟩|⟨lk,s1,s2,st,uA,rfl,h,_⟩
   ·right;rw[h];rfl
   ·left;rw[h]
   ·left;rw[h];rfl
   ·left;rw[h];simp only[mR,hr.length]
   ·left;rw[h];rfl
  grind
def ase.imp(h:ase J J'):Lb J J':=fun _ U _ _ S=>⟨U,h.sim S⟩
def azw {s sz:Nat}{ub:Bool}(h:J.j9[i]? =some (.kF true s [])):Lb J {J with j9:=J.j9.set i (.lR J.heap.length 0),heap:=J.heap++[.lR ub sz []]}:=by
 intro C U a w S;obtain⟨v,hv,base,cap,rfl,_,hc,_⟩:=S.j9.get h;have Cp:cap=0:=hc rfl;subst Cp
 have S':=S.adf (ub:=ub) (sz:=sz) (rows:=[]) (w':=w) (h':=.slice base 0 0) (cj _) (fun _ _=>rfl) (fun _=>rfl) ⟨rfl,rfl⟩ (by
  intro b hb;cases base<;>simp [j5.block]at hb) (fun E' _ _=>⟨base,0,rfl,cj _,fun _=>rfl,by simp,fun b _ h0=>absurd rfl h0⟩)
 refine⟨(fun k=>if k=J.heap.length then .slice base 0 0 else U k),?_⟩
 have:=S'.put (some i) (x:=.lR J.heap.length 0) (v:=.slice base 0 0) ⟨by simp [qC.env],⟨_,_,_,rfl⟩,fun k hk=>by
  grind [qC.env]⟩
 refine {this with j9:=?_,defers:=this.defers};have hs:=this.j9
 have ha:(a.put (some i) (.slice base 0 0)).tmps.toList=a.tmps.toList:=by
  simp only[Act.put,Array.toList_setIfInBounds];apply List.ext_getElem?
  grind
 rw[ha]at hs;exact hs
end weak
mutual
def frz(low:Nat)(H:List j5):AV->AV
 | .lR l n=>if l<low then .lR l n else match H[l]? with
   |some (.lR _ sz rows)=>if rows.length=n then .kF false sz rows else .any
   |_=>.any
 |.own l i n o sz=>if l<low then .own l i n o sz else .any
 |.agg cs=>.agg (aqC low H cs)
 |.I3 cs=>.I3 (aqC low H cs)
 |.any=>.any
 |.bool b=>.bool b
 |.int k n=>.int k n
 |.str s=>.str s
 |.sV v=>.sV v
 |.kF t sz rows=>.kF t sz rows
 |.ptr l off=>.ptr l off
 |.map l=>.map l
 |.pp cs=>.pp cs
 |.func fn f c=>.func fn f c
 |.iface t x=>.iface t x
 |.sn t l=>.sn t l
def aqC(low:Nat)(H:List j5):List AV->List AV
 |[]=>[]
 |x::xs=>frz low H x::aqC low H xs
end
section res
variable {C:qC}
def azx(_S:nF C U J a w):(C.env U J.heap w).Le 0 (C.env U [] w):=by
 refine⟨dA _,fun l hl=>absurd hl (cm _),fun b o u hm hc=>⟨?_,hc⟩,CT _⟩;simp only[qC.env]at hm ⊢;rintro(⟨l,x,hx,_⟩|h)
 all_goals grind
structure aG5(C:qC)(U:Nat->aRA)(J:jS)(w:aRE)(E':CS):Prop where
 le:(C.env U J.heap w).Le J.low E'
 w:E'.w=w
 free:∀(l:Nat)(x:j5)(b o:Nat),J.low<=l->J.heap[l]? =some x->x.block (U l) b-> ¬ E'.mu b o
def nF.aLr(S:nF C U J a w)(h0:J.low=0):aG5 C U J w (C.env U [] w):=by
 refine⟨by rw[h0];exact azx S,rfl,fun l x b o _ hx hb=>?_⟩;simp only[qC.env];rintro(⟨l',y,hy,_⟩|hA)
 ·simp at hy
 ·exact S.uh l x b o hx hb hA
mutual
def aoQ(S:nF C U J a w){E':CS}(D:aG5 C U J w E'):
 ∀(x:AV)(v:aRA),(frz J.low J.heap x).nb J.low->pm (C.env U J.heap w) x v->pm E' (frz J.low J.heap x) v
 | .lR l n,v,hn,r=>by
   simp only[frz]at hn ⊢;by_cases JB:l<J.low
   ·rw[if_pos JB];exact pm.mono D.le (.lR l n) v JB r
   ·rw[if_neg JB] at hn ⊢;split
    ·rename_i ub sz rows hl;simp only[hl]at hn;split
     ·rename_i hlen;rw[if_pos hlen]at hn;have hv:=Qm S hl hlen r;subst hv;obtain⟨base,cap,hh,h2,h3,h4,h5⟩:=S.om l _ hl;refine⟨base,cap,hh,h2,(by intro h;cases h),h3,?_,?_⟩
      ·intro b hb sv;exact(h5 b hb (fun h0=>sv (cE (by omega)))).1
      ·intro b hb;by_cases hc:cap=0
       ·have:rows=[]:=cE (by omega);subst this;trivial
       ·obtain⟨hsp,c,t,hcb,hsz,rl,h1⟩:=h5 b hb hc;subst hb;refine aa7 (E:=E') (c:=c) (t:=t) (fr:=(0,0)) (by rw[D.w];exact hcb) rows b.off h4 ?_ (kP.mono D.le _ _ (Lf hn) rl) h1;intro o _ _;exact D.free l _ b.block o (by omega) hl (by rw[hh];exact⟨rfl,hc⟩)
     ·exact trivial
    ·exact trivial
 | .own l i n o sz,v,hn,r=>by
   simp only[frz]at hn ⊢;by_cases JB:l<J.low
   ·rw[if_pos JB];exact pm.mono D.le (.own l i n o sz) v JB r
   ·rw[if_neg JB];exact trivial
 |.agg cs,v,hn,⟨vs,hv,rl⟩=>⟨vs,hv,alt S D cs _ hn rl⟩
 |.I3 cs,v,hn,⟨vs,hv,rl⟩=>⟨vs,hv,alt S D cs _ hn rl⟩
 |.any,_,_,_=>trivial
 |.bool _,_,_,r=>r
 |.int _ _,_,_,r=>r
 |.str _,_,_,r=>r
 |.sV _,_,_,r=>r
 |.kF t sz rows,_,hn,r=>pm.mono D.le (.kF t sz rows) _ hn r
 |.ptr l off,_,hn,r=>pm.mono D.le (.ptr l off) _ hn r
 |.map l,_,hn,r=>pm.mono D.le (.map l) _ hn r
 |.pp cs,_,hn,r=>pm.mono D.le (.pp cs) _ hn r
 |.func fn f c,_,hn,r=>pm.mono D.le (.func fn f c) _ hn r
 |.iface t x,_,hn,r=>pm.mono D.le (.iface t x) _ hn r
 |.sn t l,_,hn,r=>pm.mono D.le (.sn t l) _ hn r
def alt(S:nF C U J a w){E':CS}(D:aG5 C U J w E'):
 ∀(xs:List AV)(vs:List aRA),uc J.low (aqC J.low J.heap xs)->kP (C.env U J.heap w) xs vs->kP E' (aqC J.low J.heap xs) vs
 |[],_,_,r=>r
 |x::xs,_,hn,⟨u,us,hv,r1,r2⟩=>⟨u,us,hv,aoQ S D x u hn.1 r1,alt S D xs us hn.2 r2⟩
end
mutual
theorem aFm(low:Nat)(H:List j5):∀x:AV,x.nb 0->frz low H x=x
 |.lR _ _,h=>absurd h (cm _)
 |.own _ _ _ _ _,h=>absurd h (cm _)
 |.agg cs,h=>by rw[frz,KM low H cs h]
 |.I3 cs,h=>by rw[frz,KM low H cs h]
 |.any,_|.bool _,_|.int _ _,_|.str _,_|.sV _,_|.kF _ _ _,_|.ptr _ _,_|.map _,_|.pp _,_|.func _ _ _,_|.iface _ _,_|.sn _ _,_=>by rw[frz]
theorem KM(low:Nat)(H:List j5):∀xs:List AV,uc 0 xs->aqC low H xs=xs
 |[],_=>rfl
 |x::xs,h=>by rw[aqC,aFm low H x h.1,KM low H xs h.2]
end
end res
mutual
def AV.qo(Y:Nat->Nat):AV->AV
 |.agg cs=>.agg (s6 Y cs)
 |.I3 cs=>.I3 (s6 Y cs)
 |.pp cs=>.pp (s6 Y cs)
 |.kF t sz rows=>.kF t sz (GB Y rows)
 |.lR l n=>.lR (Y l) n
 |.own l off len cap sz=>.own (Y l) off len cap sz
 |.ptr l off=>.ptr (Y l) off
 |.map l=>.map (Y l)
 |.sn t l=>.sn t (Y l)
 |.func fn f c=>.func fn (s6 Y f) (s6 Y c)
 |.iface t x=>.iface t (x.qo Y)
 |.any=>.any
 |.bool b=>.bool b
 |.int k n=>.int k n
 |.str s=>.str s
 |.sV v=>.sV v
def s6(Y:Nat->Nat):List AV->List AV
 |[]=>[]
 |c::cs=>c.qo Y::s6 Y cs
def GB(Y:Nat->Nat):List (List AV)->List (List AV)
 |[]=>[]
 |r::rs=>s6 Y r::GB Y rs
end
theorem QQ(Y:Nat->Nat):∀cs:List AV,(s6 Y cs).length=cs.length
 |[]=>rfl
 |_::cs=>by simp [s6,QQ Y cs]
theorem vG(Y:Nat->Nat):∀cs:List (List AV),(GB Y cs).length=cs.length
 |[]=>rfl
 |_::cs=>by simp [GB,vG Y cs]
theorem agS(Y:Nat->Nat):∀a b:List AV,s6 Y (a++b)=s6 Y a++s6 Y b
 |[],_=>rfl
 |_::a,b=>by simp [s6,agS Y a b]
theorem adh(Y:Nat->Nat):∀rs:List (List AV),(GB Y rs).flatten=s6 Y rs.flatten
 |[]=>rfl
 |r::rs=>by simp [GB,agS,adh Y rs]
mutual
theorem PS(Y:Nat->Nat):∀x:AV,x.nb 0->x.qo Y=x
 |.lR _ _,h=>absurd h (cm _)
 |.own _ _ _ _ _,h=>absurd h (cm _)
 |.ptr _ _,h=>absurd h (cm _)
 |.map _,h=>absurd h (cm _)
 |.sn _ _,h=>absurd h (cm _)
 |.agg cs,h=>by rw[AV.qo,q6 Y cs h]
 |.I3 cs,h=>by rw[AV.qo,q6 Y cs h]
 |.pp cs,h=>by rw[AV.qo,q6 Y cs h]
 |.kF _ _ rows,h=>by rw[AV.qo,vz Y rows h]
 |.func _ f c,h=>by rw[AV.qo,q6 Y f h.1,q6 Y c h.2]
 |.iface _ x,h=>by rw[AV.qo,PS Y x h]
 |.any,_|.bool _,_|.int _ _,_|.str _,_|.sV _,_=>by rw[AV.qo]
theorem q6(Y:Nat->Nat):∀xs:List AV,uc 0 xs->s6 Y xs=xs
 |[],_=>rfl
 |x::xs,h=>by rw[s6,PS Y x h.1,q6 Y xs h.2]
theorem vz(Y:Nat->Nat):∀xs:List (List AV),Jv 0 xs->GB Y xs=xs
 |[],_=>rfl
 |x::xs,h=>by rw[GB,q6 Y x h.1,vz Y xs h.2]
end
def j5.qo(Y:Nat->Nat):j5->j5
 |.cells cs=>.cells (s6 Y cs)
 |.lR ub sz rows=>.lR ub sz (GB Y rows)
 |.map es=>.map (es.map fun p=>(p.1.qo Y,p.2.qo Y))
 |.loop k j9 st uA=>.loop k (s6 Y j9) st uA
 |.iter s p=>.iter s p
 |.Jw s=>.Jw s
 |.vZ=>.vZ
def vu.qo(Y:Nat->Nat):vu->vu
 |.ret r=>.ret (r.qo Y)
 |.panic x=>.panic (x.qo Y)
structure amR(N:Nat)(Y:Nat->Nat)(E E':CS):Prop where
 n:∀l,l<N->Y l<E'.n
 mA:∀l,l<N->E'.U (Y l)=E.U l/\(E'.ln (Y l)=E.ln l\/E'.ln (Y l)=none)
 mem:∀b o u,¬ E.mu b o->E.w.cell? ⟨b,o,none⟩=some u-> ¬ E'.mu b o/\E'.w.cell? ⟨b,o,none⟩=some u
 ty:tyk E.w E'.w
section

mutual
theorem pm.qo(h:amR N Y E E'):∀(x:AV)(v:aRA),x.nb N->pm E x v->pm E' (x.qo Y) v
 |.any,_,_,_=>trivial
 |.bool _,_,_,r=>r
 |.int _ _,_,_,r=>r
 |.str _,_,_,r=>r
 |.sV _,_,_,r=>r
 |.agg cs,_,hb,⟨vs,hv,hr⟩=>⟨vs,hv,kP.qo h cs _ hb hr⟩
 |.I3 cs,_,hb,⟨vs,hv,hr⟩=>⟨vs,hv,kP.qo h cs _ hb hr⟩
 | .kF t sz rows,_,hb,⟨base,cap,h1,h2,h3,h4,h5,h6⟩=>
   ⟨base,cap,by rw[vG];exact h1,by rw[vG];exact h2,fun e=>by rw[vG];exact h3 e,h4,fun a ha sv=>h5 a ha (fun e=>sv (by rw[e];rfl)),fun a ha=>ol.qo h rows _ hb (h6 a ha)⟩
 |.lR l n,v,hb,⟨_,hsl,r⟩=>⟨h.n l hb,hsl,fun k hk=>by
     rcases (h.mA l hb).2 with e|e
     ·rw[e]at hk;rw[(h.mA l hb).1];exact r k hk
     ·rw[e]at hk;cases hk⟩
 |.own l i n o sz,v,hb,⟨_,hsl,r⟩=>⟨h.n l hb,hsl,fun k hk=>by
     rcases (h.mA l hb).2 with e|e
     ·rw[e]at hk;rw[(h.mA l hb).1];exact r k hk
     ·rw[e]at hk;cases hk⟩
 |.ptr l off,v,hb,⟨_,b,hφ,hv⟩=>⟨h.n l hb,b,by rw[(h.mA l hb).1];exact hφ,hv⟩
 |.map l,v,hb,⟨_,hv,r,hφ⟩=>⟨h.n l hb,by rw[(h.mA l hb).1];exact hv,r,by rw[(h.mA l hb).1];exact hφ⟩
 |.pp cs,_,hb,⟨b,off,hv,r⟩=>⟨b,off,hv,oV.qo h cs _ hb r⟩
 |.func _ f c,_,hb,⟨f',c',hv,r1,r2⟩=>⟨f',c',hv,kP.qo h f _ hb.1 r1,kP.qo h c _ hb.2 r2⟩
 |.iface _ x,_,hb,⟨u,hv,r⟩=>⟨u,hv,pm.qo h x _ hb r⟩
 |.sn t l,v,hb,⟨_,b,hφ,hv,c,fz,hc⟩=>⟨h.n l hb,b,by rw[(h.mA l hb).1];exact hφ,hv,h.ty b c t fz hc⟩
theorem kP.qo(h:amR N Y E E'):∀(cs:List AV)(vs:List aRA),uc N cs->kP E cs vs->kP E' (s6 Y cs) vs
 |[],_,_,r=>r
 |c::cs,_,hb,⟨u,us,hv,r1,r2⟩=>⟨u,us,hv,pm.qo h c _ hb.1 r1,kP.qo h cs _ hb.2 r2⟩
theorem oV.qo(h:amR N Y E E'){b:Nat}:∀(cs:List AV)(off:Nat),uc N cs->oV E b off cs->oV E' b off (s6 Y cs)
 |[],_,_,_=>trivial
 |c::cs,off,hb,⟨⟨hm,u,hu,h1,r1⟩,r2⟩=>
  let ⟨m,c'⟩:=h.mem b off u hm hu
  ⟨⟨m,u,c',h1,pm.qo h c _ hb.1 r1⟩,oV.qo h cs _ hb.2 r2⟩
theorem ol.qo(h:amR N Y E E'){sz b:Nat}:∀(rs:List (List AV))(off:Nat),Jv N rs->ol E sz b off rs->ol E' sz b off (GB Y rs)
 |[],_,_,_=>trivial
 |r::rs,off,hb,⟨hl,r1,r2⟩=>⟨by rw[QQ];exact hl,oV.qo h r _ hb.1 r1,ol.qo h rs _ hb.2 r2⟩
end
structure azy(N:Nat)(Y:Nat->Nat)(E' E:CS):Prop where
 n:N<=E.n
 mA:∀l,l<N->E.U l=E'.U (Y l)/\E.ln l=E'.ln (Y l)
 mem:∀b o u,¬ E'.mu b o->E'.w.cell? ⟨b,o,none⟩=some u-> ¬ E.mu b o/\E.w.cell? ⟨b,o,none⟩=some u
 ty:tyk E'.w E.w
mutual
def pm.D2(h:azy N Y E' E):∀(x:AV)(v:aRA),x.nb N->pm E' (x.qo Y) v->pm E x v
 |.any,_,_,_=>trivial
 |.bool _,_,_,r=>r
 |.int _ _,_,_,r=>r
 |.str _,_,_,r=>r
 |.sV _,_,_,r=>r
 |.agg cs,_,hb,⟨vs,hv,hr⟩=>⟨vs,hv,kP.D2 h cs _ hb hr⟩
 |.I3 cs,_,hb,⟨vs,hv,hr⟩=>⟨vs,hv,kP.D2 h cs _ hb hr⟩
 | .kF t sz rows,_,hb,⟨base,cap,h1,h2,h3,h4,h5,h6⟩=>by
   rw[vG]at h1 h2 h3;refine⟨base,cap,h1,h2,h3,h4,fun a ha sv=>h5 a ha (fun e=>sv ?_),fun a ha=>ol.D2 h rows _ hb (h6 a ha)⟩;have:=congrArg List.length e;rw[vG]at this;exact cE this
 |.lR l n,v,hb,⟨_,hsl,r⟩=>⟨cc hb h.n,hsl,fun k hk=>by rw[(h.mA l hb).2]at hk;rw[(h.mA l hb).1];exact r k hk⟩
 |.own l i n o sz,v,hb,⟨_,hsl,r⟩=>⟨cc hb h.n,hsl,fun k hk=>by rw[(h.mA l hb).2]at hk;rw[(h.mA l hb).1];exact r k hk⟩
 |.ptr l off,v,hb,⟨_,b,hφ,hv⟩=>⟨cc hb h.n,b,by rw[(h.mA l hb).1];exact hφ,hv⟩
 |.map l,v,hb,⟨_,hv,r,hφ⟩=>⟨cc hb h.n,by rw[(h.mA l hb).1];exact hv,r,by rw[(h.mA l hb).1];exact hφ⟩
 |.pp cs,_,hb,⟨b,off,hv,r⟩=>⟨b,off,hv,oV.D2 h cs _ hb r⟩
 |.func _ f c,_,hb,⟨f',c',hv,r1,r2⟩=>⟨f',c',hv,kP.D2 h f _ hb.1 r1,kP.D2 h c _ hb.2 r2⟩
 |.iface _ x,_,hb,⟨u,hv,r⟩=>⟨u,hv,pm.D2 h x _ hb r⟩
 |.sn t l,v,hb,⟨_,b,hφ,hv,c,fz,hc⟩=>⟨cc hb h.n,b,by rw[(h.mA l hb).1];exact hφ,hv,h.ty b c t fz hc⟩
def kP.D2(h:azy N Y E' E):∀(cs:List AV)(vs:List aRA),uc N cs->kP E' (s6 Y cs) vs->kP E cs vs
 |[],_,_,r=>r
 |c::cs,_,hb,⟨u,us,hv,r1,r2⟩=>⟨u,us,hv,pm.D2 h c _ hb.1 r1,kP.D2 h cs _ hb.2 r2⟩
def oV.D2(h:azy N Y E' E){b:Nat}:∀(cs:List AV)(off:Nat),uc N cs->oV E' b off (s6 Y cs)->oV E b off cs
 |[],_,_,_=>trivial
 |c::cs,off,hb,⟨⟨hm,u,hu,h1,r1⟩,r2⟩=>
  let ⟨m,c'⟩:=h.mem b off u hm hu
  ⟨⟨m,u,c',h1,pm.D2 h c _ hb.1 r1⟩,oV.D2 h cs _ hb.2 r2⟩
def ol.D2(h:azy N Y E' E){sz b:Nat}:∀(rs:List (List AV))(off:Nat),Jv N rs->ol E' sz b off (GB Y rs)->ol E sz b off rs
 |[],_,_,_=>trivial
 |r::rs,off,hb,⟨hl,r1,r2⟩=>⟨by rw[QQ]at hl;exact hl,oV.D2 h r _ hb.1 r1,ol.D2 h rs _ hb.2 r2⟩
end
end
def azz{E E':CS}{N:Nat}{Y:Nat->Nat}(h:amR N Y E E'):∀{es:List (AV×AV)}{xs:List MapEntry},(∀p∈es,p.1.nb N/\p.2.nb N)->rJ E es xs->rJ E' (es.map fun p=>(p.1.qo Y,p.2.qo Y)) xs
 |[],_,_,r=>r
 |(k,v)::_,_,hb,⟨e,s,he,r1,r2,r3⟩=>
  ⟨e,s,he,pm.qo h k _ (hb (k,v) (by simp)).1 r1,pm.qo h v _ (hb (k,v) (by simp)).2 r2,azz h (fun p hp=>hb p (by simp [hp])) r3⟩
def asf{E E':CS}{N:Nat}{Y:Nat->Nat}(h:azy N Y E' E):∀{es:List (AV×AV)}{xs:List MapEntry},(∀p∈es,p.1.nb N/\p.2.nb N)->rJ E' (es.map fun p=>(p.1.qo Y,p.2.qo Y)) xs->rJ E es xs
 |[],_,_,r=>r
 |(k,v)::_,_,hb,⟨e,s,he,r1,r2,r3⟩=>
  ⟨e,s,he,pm.D2 h k _ (hb (k,v) (by simp)).1 r1,pm.D2 h v _ (hb (k,v) (by simp)).2 r2,asf h (fun p hp=>hb p (by simp [hp])) r3⟩
theorem oP.qo(h:amR N Y E E'){x:j5}(hb:sk N x)(hw:∀b,x.block hd b->E'.w.heap[b]? =E.w.heap[b]?)(r:oP E x hd):oP E' (x.qo Y) hd:=by
 cases x with
 |cells cs=>
  obtain⟨b,c,t,rfl,h2,rl,h3⟩:=r;exact⟨b,c,t,rfl,by rw[hw b rfl];exact h2,kP.qo h _ _ hb rl,h3⟩
 |lR ub sz rows=>
  obtain⟨base,cap,rfl,h2,h3,h4,h5⟩:=r;refine⟨base,cap,by rw[vG],by rw[vG];exact h2,h3,?_,fun a0 ha hc=>?_⟩
  ·have key:∀rs:List (List AV),(∀r∈rs,r.length=sz)->∀r∈GB Y rs,r.length=sz:=by
    intro rs;induction rs with
    |nil=>intro _ r hr;simp [GB]at hr
    |cons q rs ih=>
     grind [GB,QQ]
   exact key rows h4
  ·obtain⟨h6,c,t,h7,h8,rl,h9⟩:=h5 a0 ha hc;subst ha;rw[vG,adh];exact⟨h6,c,t,by rw[hw _ ⟨rfl,hc⟩];exact h7,h8,kP.qo h _ _ (Lf hb) rl,h9⟩
 |map es=>
  obtain⟨r',en,cl,rfl,h2,rp⟩:=r;exact⟨r',en,cl,rfl,by rw[hw r' rfl];exact h2,azz h hb rp⟩
 |loop k j9 st uA=>
  obtain⟨D,rec,rfl,h1,h2,h3,rl⟩:=r;exact⟨D,rec,rfl,by rw[hw (D+1) (.inl rfl)];exact h1,by rw[hw D (.inr rfl)];exact h2,h3,kP.qo h _ _ hb rl⟩
 |iter s p=>
  obtain⟨b,rfl,h2⟩:=r;exact⟨b,rfl,by rw[hw b rfl];exact h2⟩
 |Jw s=>exact ac6 r hw
 |vZ=>trivial
def oP.D2(h:azy N Y E' E){x:j5}(hb:sk N x)(hw: ∀b,(x.qo Y).block hd b->E.w.heap[b]? =E'.w.heap[b]?)(r:oP E' (x.qo Y) hd):oP E x hd:=by
 cases x with
 |cells cs=>
  obtain⟨b,c,t,rfl,h2,rl,h3⟩:=r;exact⟨b,c,t,rfl,by rw[hw b rfl];exact h2,kP.D2 h _ _ hb rl,h3⟩
 |lR ub sz rows=>
  obtain⟨base,cap,rfl,h2,h3,h4,h5⟩:=r;rw[vG]at h2 hw;refine⟨base,cap,by rw[vG],h2,h3,?_,fun a0 ha hc=>?_⟩
  ·have key:∀rs:List (List AV),(∀r∈GB Y rs,r.length=sz)->∀r∈rs,r.length=sz:=by
    intro rs;induction rs with
    |nil=>intro _ r hr;simp at hr
    |cons q rs ih=>
     grind [GB,QQ]
   exact key rows h4
  ·obtain⟨h6,c,t,h7,h8,rl,h9⟩:=h5 a0 ha hc;subst ha;rw[vG]at rl h9;rw[adh]at rl;exact⟨h6,c,t,by rw[hw _ ⟨rfl,hc⟩];exact h7,h8,kP.D2 h _ _ (Lf hb) rl,h9⟩
 |map es=>
  obtain⟨r',en,cl,rfl,h2,rp⟩:=r;exact⟨r',en,cl,rfl,by rw[hw r' rfl];exact h2,asf h hb rp⟩
 |loop k j9 st uA=>
  obtain⟨D,rec,rfl,h1,h2,h3,rl⟩:=r;exact⟨D,rec,rfl,by rw[hw (D+1) (.inl rfl)];exact h1,by rw[hw D (.inr rfl)];exact h2,h3,kP.D2 h _ _ hb rl⟩
 |iter s p=>
  obtain⟨b,rfl,h2⟩:=r;exact⟨b,rfl,by rw[hw b rfl];exact h2⟩
 |Jw s=>exact ac6 r hw
 |vZ=>trivial
def aa8{x:j5}{b o:Nat}:(x.qo Y).Bk h b o↔x.Bk h b o:=by
 cases x with
 |cells cs=>cases h with
  |pointer p=>cases p<;>exact cg
  |_=>exact cg
 |lR ub sz rows=>cases h with
  |slice p n c=>cases p<;>exact cg
  |_=>exact cg
 |map es=>cases h with
  |map p=>cases p<;>exact cg
  |_=>exact cg
 |loop k j9 st uA=>cases h with
  |func q _ _=>cases q<;>exact cg
  |_=>exact cg
 |iter s p=>cases h with
  |pointer p=>cases p<;>exact cg
  |_=>exact cg
 |Jw s=>exact cg
 |vZ=>exact cg
def C0{x:j5}{b:Nat}:(x.qo Y).block h b↔x.block h b:=by
 cases x with
 |cells cs=>cases h with
  |pointer p=>cases p<;>exact cg
  |_=>exact cg
 |lR ub sz rows=>cases h with
  |slice p n c=>cases p<;>exact cg
  |_=>exact cg
 |map es=>cases h with
  |map p=>cases p<;>exact cg
  |_=>exact cg
 |loop k j9 st uA=>cases h with
  |func q _ _=>cases q<;>exact cg
  |_=>exact cg
 |iter s p=>cases h with
  |pointer p=>cases p<;>exact cg
  |_=>exact cg
 |Jw s=>exact cg
 |vZ=>exact cg
theorem GM{x:j5}:mR (some (x.qo Y))=mR (some x):=by
 cases x<;>simp [mR,j5.qo,vG]
def Zr{x:j5}{b:Nat}(hb:x.block h b):∃o,x.Bk h b o:=by
 cases x with
 |cells cs=>
  cases h with
  |pointer p=>cases p with
   |none=>exact absurd hb id
   |some a=>exact⟨0,hb⟩
  |_=>exact absurd hb id
 |lR ub sz rows=>
  cases h with
  |slice base n cap=>cases base with
   |none=>exact absurd hb id
   |some a=>exact⟨a.off+n*sz,hb,fun _=>cj _⟩
  |_=>exact absurd hb id
 |map es=>
  cases h with
  |map r=>cases r with
   |none=>exact absurd hb id
   |some a=>exact⟨0,hb⟩
  |_=>exact absurd hb id
 |loop k j9 st uA=>
  cases h with
  |func q _ _=>cases q with
   |yield r=>exact⟨0,hb⟩
   |_=>exact absurd hb id
  |_=>exact absurd hb id
 |iter s p=>
  cases h with
  |pointer p=>cases p with
   |none=>exact absurd hb id
   |some a=>exact⟨0,hb⟩
  |_=>exact absurd hb id
 |Jw s=>exact⟨0,hb⟩
 |vZ=>exact absurd hb id
def aG6{e:vF}(hq:amN op=true)(h:lG P J op=some e):e.nw=[]:=by
 cases op with
 |move x=>cases h;rfl
 |assign x=>cases h;rfl
 |pick c x y=>simp only[lG]at h;split at h<;>cases h;rfl
 |unOp op t x=>simp only[lG]at h;split at h<;>cases h<;>rfl
 |fieldAddr t x i=>simp only[lG]at h;split at h<;>cases h<;>rfl
 |extract x i=>
  simp only[lG]at h
  grind
 |binOp op t x y u=>
  simp only[lG]at h;split at h
  ·cases h;rfl
  ·unfold av2 alr at h;split at h
   ·grind
   unfold aoF at h
   grind
 |load t x=>
  simp only[lG]at h;split at h
  ·split at h
   ·split at h
    ·unfold ldV at h
     grind
    ·cases h
   ·cases h
  ·split at h<;>cases h;rfl
  ·grind
  ·unfold arZ at h
   grind [ct]
  ·cases h
 |store t x y=>
  simp only[lG]at h
  grind
 |field t x i=>
  simp only[lG]at h
  grind
 |index t x i=>
  simp only[lG]at h
  grind
 |indexAddr t x i=>
  simp only[lG]at h
  grind [ct]
 |_=>simp [amN]at hq
def aG7{e:vF}(hq:amN op=true)(h:lG P J op=some e):e.whole=false:=by
 cases op with
 |move x=>cases h;rfl
 |assign x=>cases h;rfl
 |pick c x y=>simp only[lG]at h;split at h<;>cases h;rfl
 |unOp op t x=>simp only[lG]at h;split at h<;>cases h<;>rfl
 |fieldAddr t x i=>simp only[lG]at h;split at h<;>cases h<;>rfl
 |extract x i=>
  simp only[lG]at h
  grind
 |binOp op t x y u=>
  simp only[lG]at h;split at h
  ·cases h;rfl
  ·unfold av2 alr at h;split at h
   ·grind
   unfold aoF at h
   grind
 |load t x=>
  simp only[lG]at h;split at h
  ·split at h
   ·split at h
    ·unfold ldV at h
     grind
    ·cases h
   ·cases h
  ·split at h<;>cases h;rfl
  ·grind
  ·unfold arZ at h
   grind [ct]
  ·cases h
 |store t x y=>
  simp only[lG]at h
  grind
 |field t x i=>
  simp only[lG]at h
  grind
 |index t x i=>
  simp only[lG]at h
  grind
 |indexAddr t x i=>
  simp only[lG]at h
  grind [ct]
 |_=>simp [amN]at hq
mutual
theorem arM{Y:Nat->Nat}{n:Nat}(hf:∀l,l<n->Y l=l):∀x:AV,x.nb n->x.qo Y=x
 |.lR l _,h=>by rw[AV.qo,hf l h]
 |.own l _ _ _ _,h=>by rw[AV.qo,hf l h]
 |.ptr l _,h=>by rw[AV.qo,hf l h]
 |.map l,h=>by rw[AV.qo,hf l h]
 |.sn _ l,h=>by rw[AV.qo,hf l h]
 |.agg cs,h=>by rw[AV.qo,GN hf cs h]
 |.I3 cs,h=>by rw[AV.qo,GN hf cs h]
 |.pp cs,h=>by rw[AV.qo,GN hf cs h]
 |.kF _ _ rows,h=>by rw[AV.qo,asg hf rows h]
 |.func _ f c,h=>by rw[AV.qo,GN hf f h.1,GN hf c h.2]
 |.iface _ x,h=>by rw[AV.qo,arM hf x h]
 |.any,_|.bool _,_|.int _ _,_|.str _,_|.sV _,_=>by rw[AV.qo]
theorem GN{Y:Nat->Nat}{n:Nat}(hf:∀l,l<n->Y l=l):∀xs:List AV,uc n xs->s6 Y xs=xs
 |[],_=>rfl
 |x::xs,h=>by rw[s6,arM hf x h.1,GN hf xs h.2]
theorem asg{Y:Nat->Nat}{n:Nat}(hf:∀l,l<n->Y l=l):∀xs:List (List AV),Jv n xs->GB Y xs=xs
 |[],_=>rfl
 |x::xs,h=>by rw[GB,GN hf x h.1,asg hf xs h.2]
end
theorem aJj(hf:∀l,l<n->Y l=l)(x:j5)(h:sk n x):x.qo Y=x:=by
 cases x with
 |cells cs=>simp only[j5.qo,GN hf cs h]
 |lR ub sz rows=>simp only[j5.qo,asg hf rows h]
 |map es=>
  simp only[j5.qo,j5.map.injEq];have h:∀p∈es,p.1.nb n/\p.2.nb n:=h;induction es with
  |nil=>rfl
  |cons p es ih=>
   have hp:=h p (by simp);rw[dR,ih (fun q hq=>h q (by simp [hq])) (fun q hq=>h q (by simp [hq])),arM hf _ hp.1,arM hf _ hp.2]
 |loop k j9 st uA=>simp only[j5.qo,GN hf j9 h]
 |iter s p=>rfl
 |Jw s=>rfl
 |vZ=>rfl
def ash {m:Nat}(h:n<=m)(x:j5)(hx:sk n x):sk m x:=by
 cases x with
 |cells cs=>exact sy h _ hx
 |lR ub sz rows=>exact aw9 h _ hx
 |map es=>exact fun p hp=>⟨AV.apP h _ (hx p hp).1,AV.apP h _ (hx p hp).2⟩
 |loop k j9 st uA=>exact sy h _ hx
 |iter s p=>trivial
 |Jw s=>trivial
 |vZ=>trivial
def tau(n l:Nat):Nat:=if l=n then n+1 else if l=n+1 then n else l
theorem axm(n l:Nat):tau n (tau n l)=l:=by grind [tau]
theorem amS(h:l<n):tau n l=l:=by grind [tau]
theorem aLS(h:l<n+2):tau n l<n+2:=by grind [tau]
def aEo{W:Type}{H:List W}{x y z:W}(h:(H++[x]++[y])[l]? =some z):(H++[y]++[x])[tau H.length l]? =some z:=by
 have hl:l<H.length+2:=by grind
 rw[List.append_assoc]at h ⊢;by_cases h1:l<H.length
 ·grind [amS]
 ·rw[cJ (by omega)]at h;by_cases h2:l=H.length
  ·simp_all [tau]
  ·have h3:l=H.length+1:=by omega
   simp_all [tau]
def nF.swap{C:qC}{s:List AV}{x y:j5}(hdf:aCb H.length df)(JB:low<=H.length)(hH:∀z∈H,sk H.length z)(hx:sk 0 x)(hy:sk 0 y)
 (S:nF C U ⟨s,H++[x]++[y],low,df⟩ a w):nF C (fun l=>U (tau H.length l)) ⟨s6 (tau H.length) s,H++[y]++[x],low,df⟩ a w:=by
 have Sm:∀z∈H++[x]++[y],sk H.length z:=by
  intro z hz;simp only[cG,List.mem_singleton]at hz;rcases hz with(hz|rfl)|rfl
  ·exact hH z hz
  ·exact ash (dA _) _ hx
  ·exact ash (dA _) _ hy
 have asa:∀(l:Nat)(z:j5),(H++[y]++[x])[l]? =some z->(H++[x]++[y])[tau H.length l]? =some z:=fun l z h=>aEo h
 have fwd:∀(l:Nat)(z:j5),(H++[x]++[y])[l]? =some z->(H++[y]++[x])[tau H.length l]? =some z:=fun l z h=>aEo h
 have OC:∀b o,GJ (fun l=>U (tau H.length l)) (H++[y]++[x]) b o↔GJ U (H++[x]++[y]) b o:=by
  intro b o;constructor
  ·rintro⟨l,z,hz,hm⟩;exact⟨_,z,asa l z hz,hm⟩
  ·rintro⟨l,z,hz,hm⟩;refine⟨_,z,fwd l z hz,?_⟩;simp only[axm];exact hm
 have qo:amR (H.length+2) (tau H.length) (C.env U (H++[x]++[y]) w) (C.env (fun l=>U (tau H.length l)) (H++[y]++[x]) w):=by
  refine⟨fun l hl=>?_,fun l hl=>?_,fun b o u hm hc=>⟨?_,hc⟩,CT _⟩
  all_goals grind [qC.env,aLS,axm]
 have B1:tv C (fun l=>U (tau H.length l)) (H++[y]++[x]) w df a.defers:=S.defers.aza (fun xs vs ⟨f,hf⟩ r=>by
  have:=kP.qo qo xs vs (sy (by omega) _ (hdf _ hf)) r
  rwa [GN (fun l hl=>amS hl) xs (hdf _ hf)]at this) (fun _ _ _=>rfl) (fun l z b hz hb=>.inl ⟨_,z,asa l z hz,hb⟩)
 refine {j9:=?_,defers:=B1,om:=?_,apart:=?_,uh:=?_,size:=S.size,old:=S.old,n8:=S.n8,Cn:=?_,wZ:=S.wZ,rest:=S.rest,low:=⟨S.low.1,by grind⟩,mA:=?_}
 ·refine kP.qo qo _ _ ?_ S.j9;have:=kP.nb _ _ S.j9;simpa [qC.env] using this
 ·intro l z hz;have h1:=asa l z hz;have hm:=Sm z (cX h1);have:=oP.qo qo (ash (by omega) _ hm) (fun _ _=>rfl) (S.om _ z h1);rw[aJj (fun l hl=>amS hl) z hm]at this;exact this
 ·intro l l' z z' b hz hz' hb sK;have:=S.apart _ _ z z' b (asa l z hz) (asa l' z' hz') hb sK
  grind [axm]
 ·intro l z b o hz hb;exact S.uh _ z b o (asa l z hz) hb
 ·intro l z b o hz hm;exact S.Cn _ z b o (asa l z hz) hm
 ·intro l hl;have hN:C.N0=low:=S.low.1;have sJ:l<H.length:=by omega
  have:=S.mA l hl
  grind [amS]
def axn{x:j5}(r:oP E x h)(hx: ∀ub sz rows,x= .lR ub sz rows->(∃base n cap,h= .slice base n cap/\cap≠0/\base≠none)\/rows=[]):sk E.n x:=by
 cases x with
 |cells cs=>obtain⟨_,_,_,_,_,rl,_⟩:=r;exact kP.nb _ _ rl
 |lR ub sz rows=>
  rcases hx ub sz rows rfl with⟨base,n,cap,rfl,hc,hb⟩|rfl
  ·obtain⟨aNC,aND,h1,h2,h3,h4,h5⟩:=r;simp only[Value.slice.injEq]at h1;obtain⟨rfl,rfl,rfl⟩:=h1;cases base with
   |none=>exact absurd rfl hb
   |some a0=>
    obtain⟨_,c,t,_,_,rl,_⟩:=h5 a0 rfl hc;have hn:=kP.nb _ _ rl
    have key:∀rows:List (List AV),uc E.n rows.flatten->Jv E.n rows:=by
     intro rows;induction rows with
     |nil=>intro _;trivial
     |cons q rs ih=>
      intro this;simp only[cW]at this
      have split:∀(p q:List AV),uc E.n (p++q)->uc E.n p/\uc E.n q:=by
       intro p;induction p with
       |nil=>intro q h;exact⟨trivial,h⟩
       |cons z p ihp=>intro q h;exact⟨⟨h.1,(ihp q h.2).1⟩,(ihp q h.2).2⟩
      exact⟨(split _ _ this).1,ih (split _ _ this).2⟩
    exact key rows hn
  ·trivial
 |map es=>obtain⟨_,_,_,_,_,rp⟩:=r;exact rJ.nb rp
 |loop k j9 st uA=>obtain⟨_,_,_,_,_,_,rl⟩:=r;exact kP.nb _ _ rl
 |iter s p=>trivial
 |Jw s=>trivial
 |vZ=>trivial
def aa9{x:j5}(r:oP E x h):sk E.n x:=by
 refine axn r ?_;rintro ub sz rows rfl;obtain⟨base,cap,rfl,h2,h3,_⟩:=r;cases base with
 |none=>
  simp_all
 |some a0=>
  by_cases hc:cap=0
  ·simp_all
  grind
def azA(w:aRE)(h:mD P t=some z):uc 0 z:=by
 obtain⟨v,_,hr,_⟩:=aoH (w:=w) h;exact kP.nb _ _ (hr {w,mu:=fun _ _=>False,U:=fun _=>.tuple #[],ln:=fun _=>none,n:=0})
section

theorem aeW(h:adg o=true):∃t,o.op=.alloc t/\o.guard=none/\amx t=false:=by
 grind [adg,Option.isNone_iff_eq_none]
def uS(n:Nat)(z:List AV):vF:={val:=.ptr n 0,nw:=[.cells z]}
def ap0(ho:o.op=.alloc t)(hg:o.guard=none/\amx t=false)(hz:mD P t=some z):yw P kE o J (fun e=>e=uS J.heap.length z):=by
 refine .inr (.inl ⟨?_,?_,uS J.heap.length z,?_,?_,fun _=>cg⟩)
 ·unfold qG;rw[hg.1]
 ·rw[ho];rfl
 ·rw[ho];simp only[lG,hz,Mm,zB,hg.2];rfl
 ·exact trivial
def Kw(ho:o.op=.alloc t)(hg:o.guard=none/\amx t=false)(h:yw P kE o J S):∃z,mD P t=some z/\∀e,S e↔e=uS J.heap.length z:=by
 rcases h with⟨hw,_⟩|⟨_,_,e,he,_,h⟩|⟨_,f,args,V,hc,_⟩|⟨_,f,args,e,hc,_⟩
 ·grind [qG]
 ·rw[ho]at he;simp only[lG]at he;split at he
  ·rename_i z hz;simp only[Mm,zB,hg.2,jF,bZ]at he;subst he;exact⟨z,hz,h⟩
  ·cases he
 ·rw[ho]at hc;cases hc
 ·rw[ho]at hc;cases hc
theorem GO{p q:Nat}(h:agP kE p q=true):p<q/\(∃op oq tp tq,kE[p]? =some op/\kE[q]? =some oq/\op.op=.alloc tp/\oq.op=.alloc tq/\(op.guard=none/\amx tp=false)/\(oq.guard=none/\amx tq=false)/\Bo op=[]/\Bo oq=[])/\
 ∀k o,kE[k]? =some o->k≠p->k≠q->amN o.op=true/\p7 kE p k=p7 kE q k:=by
 unfold agP at h;split at h
 ·rename_i op oq hp hq;simp only[cq,jK,List.isEmpty_iff]at h;obtain⟨⟨⟨⟨⟨h1,h2⟩,h3⟩,h4⟩,h5⟩,h6⟩:=h;obtain⟨tp,a1,a2⟩:=aeW h1
  grind [aeW]
 ·cases h
theorem KN(h1:p7 kE i j=false)(h2:agP kE i j=false):aqB kE i j=false:=by
 unfold aqB;rw[h1,h2];rfl
theorem EW(h:amN op=true):op≠ .alloc t:=by
 rintro rfl;cases h
theorem Ar(h:amN op=true):CY op=false:=by
 cases op<;>first|rfl|(simp [amN]at h)
end
section region
variable {C:qC}
def awg(o:aRz)(listed:Array Bool):(o.after.all fun e=> !Region.binds .any e||listed.getD e.on false)=true↔ ∀d∈Bo o,listed.getD d false=true:=by
 grind [Array.all_eq_true_iff_forall_mem,Bo]
theorem Mr(listed:Array Bool)(i:Nat)(hsz:listed.size=kE.size):i∈Region.ready .any kE listed↔i<kE.size/\listed.getD i false=false/\∃o,kE[i]? =some o/\∀d∈Bo o,listed.getD d false=true:=by
 unfold Region.ready;simp only[List.mem_filter,List.mem_range];constructor
 ·rintro⟨h1,h2⟩;rw[cq]at h2;have ho:kE[i]? =some kE[i]:=cM h1;refine⟨h1,?_,kE[i],ho,?_⟩
  ·grind
  ·have h3:=h2.2;rw[ho]at h3;simp only[Option.map_some,dm]at h3;exact(awg _ _).1 h3
 ·rintro⟨h1,h2,o,ho,h3⟩;refine⟨h1,?_⟩;rw[cq];constructor
  ·grind
  ·rw[ho];simp only[Option.map_some,dm];exact(awg _ _).2 h3
def xO(Ue:KL kE=true)(hcl:∀j o,kE[j]? =some o->listed.getD j false=true->∀d∈Bo o,listed.getD d false=true){r:Nat}(VI:kE[i]? =some oi)
 (EV:∀d∈Bo oi,listed.getD d false=true) (hq:p7 kE r i=true):listed.getD r false=true:=by
 obtain⟨_,aa5⟩:=GL Ue;exact apZ (L:=fun d=>listed.getD d false=true) (all:=kE.toList) (fun j o hj hL=>hcl j o (by simpa using hj) hL) kE.toList [] (by simp) (by simp) (fun k o hk=>(aa5 k o (by simpa using hk)).1) i oi (by simpa using VI) EV r hq
def Yd(VI:kE[i]? =some oi)(EV:∀d∈Bo oi,listed.getD d false=true)(hcl:∀j o,kE[j]? =some o->listed.getD j false=true->∀d∈Bo o,listed.getD d false=true):
 ∀j o,kE[j]? =some o->(listed.setIfInBounds i true).getD j false=true->∀d∈Bo o,(listed.setIfInBounds i true).getD d false=true:=by
 intro j o' hj hL d hd;by_cases e:j=i
 ·grind [getD_set_true]
 ·rw[getD_set_ne false (fun e'=>e e'.symm)]at hL
  grind [getD_set_true]
theorem ajC(h:i<listed.size):(listed.setIfInBounds i true).getD i false=true:=by
 simp [Array.getD,h]
structure amT(kE:Array aRz)(R:List Nat)(listed:Array Bool):Prop where
 pw:R.Pairwise (· < ·)
 sz:listed.size=kE.size
 mem:∀i,i∈R↔i<kE.size/\listed.getD i false=false
 cl:∀j o,kE[j]? =some o->listed.getD j false=true->∀d∈Bo o,listed.getD d false=true
def amT.next{R:List Nat}(F:amT kE R listed)(VI:kE[i]? =some oi)(EV:∀d∈Bo oi,listed.getD d false=true):amT kE (R.erase i) (listed.setIfInBounds i true):=by
 refine⟨F.pw.erase i,by simpa using F.sz,fun k=>?_,Yd VI EV F.cl⟩;have hnd:R.Nodup:=F.pw.imp (fun h=>dy h);have hi:i<listed.size:=by have:=(dD.1 VI).1;rw[F.sz];exact this
 rw[hnd.mem_erase_iff,F.mem k];constructor
 ·rintro⟨sv,h1,h2⟩;refine⟨h1,?_⟩;rw[getD_set_ne false (fun e=>sv e.symm)];exact h2
 ·rintro⟨h1,h2⟩
  have sv:k≠i:=by
   grind [ajC]
  refine⟨sv,h1,?_⟩;rw[getD_set_ne false (fun e=>sv e.symm)]at h2;exact h2
def aFn (Ue:KL kE=true) {p q:Nat} (htw:agP kE p q=true) (fuel:Nat)
 (asa:∀(f:Nat)(R:List Nat)(listed:Array Bool)(U:Nat->aRA)(J:jS)(a:Act)(w:aRE),f<=fuel->R.length=f->amT kE R listed->(p ∉ R)->nF C U J a w->ajM C.P kE (Q .normal) R [] J->wpAnyIn (GK ro) 0 C.P .any kE (QC C Q) f listed a w)
 {oq:aRz} {tq:TypeId} {zq:List AV} (hoq:kE[q]? =some oq) (htq:oq.op=.alloc tq) (hgq:oq.guard=none/\amx tq=false) (hzq:mD C.P tq=some zq):
 ∀(f:Nat)(R:List Nat)(listed:Array Bool)(U U0:Nat->aRA)(J:jS)(a a0:Act)(w w0:aRE),f<=fuel->R.length=f+1->R.Pairwise (· < ·)->listed.size=kE.size->p∈R->q∈R->listed.getD q false=true->
 (∀i,i∈R↔i<kE.size/\(listed.getD i false=false\/i=q))->(∀j o,kE[j]? =some o->listed.getD j false=true->∀d∈Bo o,listed.getD d false=true)->
 nF C U (J.app oq.dst (uS J.heap.length zq)) a w->nF C U0 J a0 w0->ajM C.P kE (Q .normal) R [] J->wpAnyIn (GK ro) 0 C.P .any kE (QC C Q) f listed a w:=by
 obtain⟨hpq,⟨op,oq',tp,tq',hop,aNE,htp,aQz,hgp,aQA,hdp,hdq⟩,aCc⟩:=GO htw;rw[hoq]at aNE;cases aNE;obtain⟨_,aa5⟩:=GL Ue;intro f;induction f with
 |zero=>
  intro R listed U U0 J a a0 w w0 hf hlen hpw hsz hpR hqR hlq hR hcl S S0 h;exfalso
  match R,hlen with
  |[x],_=>
   grind
 |succ f ih=>
  intro R listed U U0 J a a0 w w0 hf hlen hpw hsz hpR hqR hlq hR hcl S S0 h;have hnd:R.Nodup:=hpw.imp (fun h=>dy h)
  have hpl:listed.getD p false=false:=by
   grind
  have hps:p<kE.size:=((hR p).1 hpR).1;refine⟨?_,?_⟩
  ·grind [Mr]
  ·intro i hi;rw[Mr listed i hsz]at hi;obtain⟨hi1,hi2,oi,VI,EV⟩:=hi;have hiq:i≠q:=by grind
   have hiR:i∈R:=(hR i).2 ⟨hi1,.inl hi2⟩
   have asi:∀r∈R,p7 kE r i=false:=by
    intro r hr;cases hq':p7 kE r i with
    |false=>rfl
    |true=>
     exfalso;have hl:=xO Ue hcl VI EV hq';rcases ((hR r).1 hr).2 with h|h
     ·rw[hl]at h;cases h
     ·subst h;by_cases e:i=p
      ·subst e;rw[hop]at VI;cases VI;have:=xO Ue (listed:=ck kE.size false) (by grind [oX]) hop (by rw[hdp];intro d hd;cases hd) hq'
       simp_all
      ·have:=(aCc i oi VI e hiq).2;rw[hq']at this;have hl:=xO Ue hcl VI EV this;rw[hpl]at hl;cases hl
   by_cases eip:i=p
   ·
    subst eip;rw[hop]at VI;cases VI
    have hno:∀r∈R,r<i->aqB kE r i=false:=by
     grind [KN,GO,EW]
    obtain⟨o1,E1,ho1,axo,hE1⟩:=azu Ue h hiR hpw hno;rw[hop]at ho1;cases ho1;obtain⟨zp,hzp,hd1⟩:=Kw htp hgp axo;obtain⟨_,h1⟩:=hE1 _ ((hd1 _).2 rfl);have aLT:q∈R.erase i:=(hnd.mem_erase_iff).2 ⟨by omega,hqR⟩
    obtain⟨o2,E2,ho2,aLU,hE2⟩:=azu Ue h1 aLT (hpw.erase i) (by
     intro r hr sJ;have hr':=dw hr;have hri:r≠i:=fun e=>by grind
     refine KN ?_ ?_
     ·cases ho':p7 kE r q with
      |false=>rfl
      |true=>
       exfalso;have:=xO Ue (listed:=ck kE.size false) (by grind [oX]) hoq (by rw[hdq];intro d hd;cases hd) ho'
       simp_all
     grind [GO,EW])
    rw[hoq]at ho2;cases ho2;obtain⟨zq',aNF,hd2⟩:=Kw htq hgq aLU;rw[hzq]at aNF;cases aNF;obtain⟨_,h2⟩:=hE2 _ ((hd2 _).2 rfl);refine PQ S hop (ap0 htp hgp hzp) ?_;rintro e U' v w' rfl S'
    have hoQ:p7 kE i q=false:=by
     cases ho':p7 kE i q with
     |false=>rfl
     |true=>
      exfalso;have:=xO Ue (listed:=ck kE.size false) (by grind [oX]) hoq (by rw[hdq];intro d hd;cases hd) ho'
      simp_all
    obtain⟨asd,_⟩:=(aa5 q oq hoq).2 i op hpq hop hoQ;obtain⟨_,ap2,_⟩:=da asd;have hsl:uc J.heap.length J.j9:=kP.nb _ _ S0.j9
    have hob:∀z∈J.heap,sk J.heap.length z:=by
     intro z hz;obtain⟨l,hl⟩:=dQ hz;exact aa9 (S0.om l z hl)
    have S2:=nF.swap (s:=((J.app oq.dst (uS J.heap.length zq)).app op.dst (uS (J.app oq.dst (uS J.heap.length zq)).heap.length zp)).j9) (H:=J.heap) (x:=.cells zq) (y:=.cells zp) (low:=J.low) (df:=J.df) (QM.nb S0.defers.2.2) S0.low.2 hob (azA w0 hzq) (azA w0 hzp) (by
     have e:(J.app oq.dst (uS J.heap.length zq)).app op.dst (uS (J.app oq.dst (uS J.heap.length zq)).heap.length zp)=⟨((J.app oq.dst (uS J.heap.length zq)).app op.dst (uS (J.app oq.dst (uS J.heap.length zq)).heap.length zp)).j9,J.heap++[.cells zq]++[.cells zp],J.low,J.df⟩:=by
      cases oq.dst<;>cases op.dst<;>simp [jS.app,jS.put,uS,ni]
     rw[<-e];exact S')
    have e2:(⟨s6 (tau J.heap.length) ((J.app oq.dst (uS J.heap.length zq)).app op.dst (uS (J.app oq.dst (uS J.heap.length zq)).heap.length zp)).j9,J.heap++[.cells zp]++[.cells zq],J.low,J.df⟩:jS)
     =(J.app op.dst (uS J.heap.length zp)).app oq.dst (uS (J.app op.dst (uS J.heap.length zp)).heap.length zq):=by
     have aLV:=GN (Y:=tau J.heap.length) (fun l hl=>amS hl) J.j9 hsl
     have aCd:∀(d:Nat)(c:AV)(cs:List AV),s6 (tau J.heap.length) (cs.set d c)=(s6 (tau J.heap.length) cs).set d (c.qo (tau J.heap.length)):=by
      intro d c cs;induction cs generalizing d with
      |nil=>simp [s6]
      |cons x cs ih=>cases d with
       |zero=>simp [s6]
       |succ d=>simp [s6,ih]
     have aNG:(J.app oq.dst (uS J.heap.length zq)).heap.length=J.heap.length+1:=by simp [jS.app,uS,ni]
     have aNH:(J.app op.dst (uS J.heap.length zp)).heap.length=J.heap.length+1:=by simp [jS.app,uS,ni]
     have t0:tau J.heap.length J.heap.length=J.heap.length+1:=by simp [tau]
     have t1:tau J.heap.length (J.heap.length+1)=J.heap.length:=by simp [tau]
     rw[aNG,aNH];cases h1:oq.dst with
     |none=>cases h2:op.dst with
      |none=>simp [jS.app,jS.put,uS,ni,aLV]
      |some dp=>grind [jS.app,jS.put,uS,ni,AV.qo]
     |some dq=>cases h2:op.dst with
      |none=>grind [jS.app,jS.put,uS,ni,AV.qo]
      |some dp=>
       grind [jS.app,jS.put,uS,ni,AV.qo,dj]
    rw[e2]at S2
    have hF:amT kE ((R.erase i).erase q) (listed.setIfInBounds i true):=by
     refine⟨(hpw.erase i).erase q,by simpa using hsz,fun k=>?_,Yd hop EV hcl⟩;have aPx:(R.erase i).Nodup:=hnd.erase i;rw[aPx.mem_erase_iff,hnd.mem_erase_iff,hR k];constructor
     ·rintro⟨sv,aPy,h1,h2⟩;refine⟨h1,?_⟩;rw[getD_set_ne false (fun e=>aPy e.symm)]
      grind
     ·rintro⟨h1,h2⟩
      have sv:k≠i:=by
       grind [ajC]
      rw[getD_set_ne false (fun e=>sv e.symm)]at h2
      grind
    grind
   ·
    obtain⟨hqi,_⟩:=aCc i oi VI eip hiq
    have hno:∀r∈R,r<i->aqB kE r i=false:=by
     intro r hr sJ;refine KN (asi r hr) ?_;cases ht:agP kE r i with
     |false=>rfl
     |true=>
      exfalso;obtain⟨_,⟨_,o1,_,t1,_,ho1,_,ht1,_⟩,_⟩:=GO ht;rw[VI]at ho1;cases ho1;exact EW hqi ht1
    obtain⟨o1,E1,ho1,axo,hE1⟩:=azu Ue h hiR hpw hno;rw[VI]at ho1;cases ho1
    have hnw:∀e,E1 e->e.nw=[]:=by
     intro e he;rcases axo with⟨_,h⟩|⟨_,_,e',he',_,h⟩|⟨_,f',args,V,hc,_,_,_⟩|⟨_,f',args,_,hc,_,_⟩
     ·rw[(h e).1 he]
     ·rw[(h e).1 he];exact aG6 hqi he'
     ·exfalso;have:=Ar hqi;unfold nT at hc;split at hc
      ·rename_i ho';rw[ho']at this;simp [CY]at this
      ·cases hc
     ·exfalso;have:=Ar hqi;unfold nT at hc;split at hc
      ·rename_i ho';rw[ho']at this;simp [CY]at this
      ·cases hc
    have hwh:∀e,E1 e->e.whole=false:=by
     intro e he;rcases axo with⟨_,h⟩|⟨_,_,e',he',_,h⟩|⟨_,f',args,V,hc,_,_,_⟩|⟨_,f',args,_,hc,_,_⟩
     ·rw[(h e).1 he]
     ·rw[(h e).1 he];exact aG7 hqi he'
     ·exfalso;have:=Ar hqi;unfold nT at hc;split at hc
      ·rename_i ho';rw[ho']at this;simp [CY]at this
      ·cases hc
     ·exfalso;have:=Ar hqi;unfold nT at hc;split at hc
      ·rename_i ho';rw[ho']at this;simp [CY]at this
      ·cases hc
    have hap:(∀d,oq.dst=some d->d ∉ oi.looksAt kE)/\(∀d,oi.dst=some d->oq.dst≠some d):=by
     rcases Nat.lt_or_gt_of_ne hiq with sJ|hgt
     ·have ho':p7 kE i q=false:=by
       cases ho':p7 kE i q with
       |false=>rfl
       |true=>
        exfalso;have:=xO Ue (listed:=ck kE.size false) (by intro j o _ hj;rw[oX]at hj;cases hj) hoq (by rw[hdq];intro d hd;cases hd) ho';rw[oX]at this;cases this
      obtain⟨hap,_⟩:=(aa5 q oq hoq).2 i oi sJ VI ho';obtain⟨x1,x2,x3⟩:=da hap;exact⟨x3,x2⟩
     ·obtain⟨hap,_⟩:=(aa5 i oi VI).2 q oq hgt hoq (asi q hqR);obtain⟨x1,x2,x3⟩:=da hap;exact⟨x1,fun d hd hd'=>x2 d hd' hd⟩
    have aG3:∀e,E1 e->CZ ⟨i,J.heap.length,e⟩ (uS J.heap.length zq)=true:=by
     intro e he;simp [CZ,uS,Ld,hnw e he,hwh e he]
    have hfw:yw C.P kE oi (J.app oq.dst (uS J.heap.length zq)) E1:=axo.fwd (j:=i) hap.1 aG3;refine PQ S VI hfw ?_;intro e U' v w' he S';obtain⟨_,yd⟩:=hE1 e he;have aG4:=azt (d:=oi.dst) (d':=oq.dst) (j:=i) hap.2 (aG3 e he) (axo.lt he).2 (by simp [uS]);have hle:(J.app oi.dst e).heap.length=J.heap.length:=by simp [jS.app,hnw e he,vc]
    rw[<-aG4]at S'
    have hg:∃U1 a1 w1,nF C U1 (J.app oi.dst e) a1 w1:=by
     rcases axo with⟨_,h⟩|⟨_,_,e',he',hp,h⟩|⟨_,f',args,V,hc,_,_,_⟩|⟨_,f',args,_,hc,_,_⟩
     ·rw[(h e).1 he,Mo];exact⟨U0,_,w0,S0.put oi.dst (v:=undef) rfl⟩
     ·rw[(h e).1 he];obtain⟨_,v1,w1,U1,_,_,S1⟩:=Yb S0 he' hp;exact⟨U1,_,w1,S1⟩
     ·exfalso;have:=Ar hqi;unfold nT at hc;split at hc
      ·rename_i ho';rw[ho']at this;simp [CY]at this
      ·cases hc
     ·exfalso;have:=Ar hqi;unfold nT at hc;split at hc
      ·rename_i ho';rw[ho']at this;simp [CY]at this
      ·cases hc
    obtain⟨U1,a1,w1,S1⟩:=hg;rw[<-hle]at S';refine ih (R.erase i) _ U' U1 (J.app oi.dst e) _ a1 w' w1 (by omega) ?_ (hpw.erase i) (by simpa using hsz) ((hnd.mem_erase_iff).2 ⟨fun e'=>eip e'.symm,hpR⟩) ((hnd.mem_erase_iff).2 ⟨fun e'=>hiq e'.symm,hqR⟩) ?_ ?_ (Yd VI EV hcl) S' S1 yd
    ·rw[dG hiR];omega
    ·exact getD_set_true hlq
    ·intro k;rw[hnd.mem_erase_iff,hR k];constructor
     ·rintro⟨sv,h1,h2⟩;refine⟨h1,?_⟩;rw[getD_set_ne false (fun e=>sv e.symm)];exact h2
     ·rintro⟨h1,h2⟩
      have sv:k≠i:=by
       intro e';subst e';rcases h2 with h2|h2
       ·rw[ajC (by rw[hsz];exact hi1)]at h2;cases h2
       ·exact hiq h2
      refine⟨sv,h1,?_⟩;rw[getD_set_ne false (fun e=>sv e.symm)]at h2;exact h2
def aG8 (Ue:KL kE=true): ∀ (fuel:Nat) (R:List Nat) (listed:Array Bool) (U:Nat->aRA) (J:jS) (a:Act) (w:aRE),R.length=fuel->amT kE R listed->
 nF C U J a w->ajM C.P kE (Q .normal) R [] J->wpAnyIn (GK ro) 0 C.P .any kE (QC C Q) fuel listed a w:=by
 obtain⟨_,aa5⟩:=GL Ue;intro fuel;induction fuel using Nat.strongRecOn with
 |ind fuel ih=>
  intro R listed U J a w hl F S h;have hpw:=F.pw;have hsz:=F.sz;have hR:=F.mem;have hnd:R.Nodup:=hpw.imp (fun h=>dy h);cases fuel with
  |zero=>
   have hR0:R=[]:=cE hl;subst hR0;refine⟨?_,U,J,S,h⟩;rw[List.eq_nil_iff_forall_not_mem];intro i hi;rw[Mr listed i hsz]at hi;have:=(hR i).2 ⟨hi.1,hi.2.1⟩;simp at this
  |succ fuel=>
   refine⟨?_,?_⟩
   ·intro aCe;exfalso;cases R with
    |nil=>simp at hl
    |cons r R=>
     have hr:=(hR r).1 (by simp);have ho:kE[r]? =some kE[r]:=cM hr.1
     have:r∈Region.ready .any kE listed:=by
      rw[Mr listed r hsz];refine⟨hr.1,hr.2,_,ho,fun d hd=>?_⟩;have hdr:=(aa5 r _ ho).1 d hd;cases hld:listed.getD d false with
      |true=>rfl
      |false=>
       have hdR:=(hR d).2 ⟨by omega,hld⟩;rw[cR]at hpw;simp only[cH]at hdR;rcases hdR with rfl|hdR
       ·omega
       ·have:=hpw.1 d hdR;omega
     rw[aCe]at this;simp at this
   ·intro i hi;rw[Mr listed i hsz]at hi;obtain⟨hi1,hi2,oi,VI,EV⟩:=hi;have hiR:=(hR i).2 ⟨hi1,hi2⟩
    have asi:∀r∈R,p7 kE r i=false:=by
     intro r hr;cases hq:p7 kE r i with
     |false=>rfl
     |true=>
      exfalso;have:=xO Ue F.cl VI EV hq;have hr':=((hR r).1 hr).2;rw[hr']at this;cases this
    by_cases htw:∃p∈R,agP kE p i=true
    ·obtain⟨p,hpR,htw⟩:=htw;obtain⟨hpi,⟨op,oq,tp,tq,hop,hoq,htp,htq,hgp,hgq,hdp,hdq⟩,aCc⟩:=GO htw;rw[VI]at hoq;cases hoq;have hpl:=((hR p).1 hpR).2
     obtain⟨o1,E1,ho1,axo,hE1⟩:=azu Ue h hpR hpw (by
      intro r hr sJ;refine KN ?_ ?_
      ·cases ho':p7 kE r p with
       |false=>rfl
       |true=>
        exfalso;have:=xO Ue (listed:=ck kE.size false) (by intro j o _ hj;rw[oX]at hj;cases hj) hop (by rw[hdp];intro d hd;cases hd) ho';rw[oX]at this;cases this
      ·cases ht:agP kE r p with
       |false=>rfl
       |true=>
        exfalso;obtain⟨_,⟨o1,_,t1,_,ho1,_,ht1,_⟩,_⟩:=GO ht;exact EW (aCc r o1 ho1 (by omega) (by omega)).1 ht1)
     rw[hop]at ho1;cases ho1;obtain⟨zp,hzp,hd1⟩:=Kw htp hgp axo;obtain⟨_,h1⟩:=hE1 _ ((hd1 _).2 rfl);have aLT:i∈R.erase p:=(hnd.mem_erase_iff).2 ⟨by omega,hiR⟩
     obtain⟨o2,E2,ho2,aLU,hE2⟩:=azu Ue h1 aLT (hpw.erase p) (by
      intro r hr sJ;have hr':=dw hr;have hrp:r≠p:=fun e=>by subst e;exact(hnd.not_mem_erase) hr
      refine KN (asi r hr') ?_;cases ht:agP kE r i with
      |false=>rfl
      |true=>
       exfalso;obtain⟨_,⟨o1,_,t1,_,ho1,_,ht1,_⟩,_⟩:=GO ht;exact EW (aCc r o1 ho1 hrp (by omega)).1 ht1)
     rw[VI]at ho2;cases ho2;obtain⟨zq,hzq,_⟩:=Kw htq hgq aLU;refine PQ S VI (ap0 htq hgq hzq) ?_;rintro e U' v w' rfl S';refine aFn Ue htw fuel (fun f R' aJk U' J' a' w' hf hl' F' _ S' h'=>ih f (by omega) R' aJk U' J' a' w' hl' F' S' h') VI htq hgq hzq fuel R _ U' U J _ a w' w (cj _) hl hpw (by simpa using hsz) hpR hiR (ajC (by rw[hsz];exact hi1)) ?_ (Yd VI EV F.cl) S' S h;intro k;rw[hR k];by_cases hk:k=i
     ·subst hk;constructor
      ·rintro⟨h1,_⟩;exact⟨h1,.inr rfl⟩
      ·rintro⟨h1,_⟩;exact⟨h1,hi2⟩
     ·rw[getD_set_ne false (fun e=>hk e.symm)];constructor
      ·rintro⟨h1,h2⟩;exact⟨h1,.inl h2⟩
      ·rintro⟨h1,h2|h2⟩
       ·exact⟨h1,h2⟩
       ·exact absurd h2 hk
    ·have hno:∀r∈R,r<i->aqB kE r i=false:=by
      intro r hr _;refine KN (asi r hr) ?_;cases ht:agP kE r i with
      |false=>rfl
      |true=>exact absurd ⟨r,hr,ht⟩ htw
     obtain⟨o,E,ho,hst,hE⟩:=azu Ue h hiR hpw hno;refine PQ S ho hst ?_;intro e U' v w' he S';obtain⟨_,yd⟩:=hE e he;refine ih fuel (by omega) (R.erase i) _ U' _ _ w' ?_ (F.next VI EV) S' yd;rw[dG hiR];omega
def aCf{id:Nat}(hm:C.P.follows .mixedOrders=true)(Ue:KL kE=true)(h:ajM C.P kE (Q .normal) (cw kE.size) [] J)(S:nF C U J a w):
 (Code.region id kE true).wpIn (GK ro) 0 C.P (QC C Q) a w:=by
 refine wpIn_region_any hm ?_;refine aG8 Ue kE.size (cw kE.size) _ U J a _ (by simp) ⟨dh,by simp,?_,?_⟩ (S.drew _) h
 ·intro i;simp only[List.mem_range];constructor
  ·intro hi;exact⟨hi,oX _ _⟩
  ·exact fun h=>h.1
 ·intro j o hj hL;rw[oX]at hL;cases hL
end region
section
variable {c:Nat}
def asj(P:aRD)(f:aRC)(args:List AV)(H:List j5)(x:AV)(H':List j5):Prop:=∀J':jS,J'.heap=H->BB P f args J' (fun o H2=>o=.panic x/\H2=H')
def azB(P:aRD)(kE:Array aRz)(c:Nat)(H:List j5)(x:AV)(H':List j5)(j:Nat)(o:aRz)(J:jS)(v:AV):Prop:=
 J.heap=H/\((j=c/\qG kE o J=some true/\∃f args,nT J o.op=some (f,args)/\asj P f args H x H')\/
   p7 kE c j=true\/
   (j≠c/\∃e:vF,e.up=[]/\e.nw=[]/\e.val=v/\yw P kE o J (fun e'=>e'=e)))
def aCg(P:aRD)(kE:Array aRz)(c:Nat)(H:List j5)(x:AV)(H':List j5):List Nat->jS->Prop
 |[],_=>True
 |j::rest,J=>∃o v,kE[j]? =some o/\azB P kE c H x H' j o J v/\aCg P kE c H x H' rest (J.put o.dst v)
theorem VK(J:jS)(d:Option Tmp)(v:AV):(J.put d v).heap=J.heap:=by cases d<;>rfl
theorem aG9{y:aRF}(h:∀t,d=some t->y≠ .tmp t):(J.put d v).ev y=J.ev y:=by
 have:=aCa (J:=J) (dst:=d) (e:={val:=v}) h
 rwa [Mo]at this
theorem awh{t:Nat}(h:∀t',d=some t'->t≠t'):(J.put d v).j9[t]? =J.j9[t]? :=by
 have:=aoO (J:=J) (dst:=d) (e:={val:=v}) h
 rwa [Mo]at this
theorem aHa {d':Option Tmp}{v':AV}(h:∀t,d=some t->d'≠some t):(J.put d v).put d' v'=(J.put d' v').put d v:=by
 cases d with
 |none=>cases d'<;>rfl
 |some t=>cases d' with
  |none=>rfl
  |some t'=>
   grind [jS.put,dj]
def azB.move(h:azB P kE c H x H' j o J v)(hh:J'.heap=J.heap)(hev:∀y∈o.op.operands,J'.ev y=J.ev y)(hw:qG kE o J'=qG kE o J):azB P kE c H x H' j o J' v:=by
 obtain⟨h0,h⟩:=h;refine⟨hh.trans h0,?_⟩;rcases h with⟨h1,h2,f,args,h3,h4⟩|h1|⟨h1,e,h2,h3,h4,h5⟩
 ·grind [Mq]
 ·exact .inr (.inl h1)
 ·exact .inr (.inr ⟨h1,e,h2,h3,h4,h5.local hev hw (fun _ _=>⟨⟨fun _ _=>by rw[hh],fun _=>by rw[hh]⟩,fun _=>hh⟩)⟩)
def aLs(Ue:KL kE=true){i:Nat}: ∀{R:List Nat}{J:jS},aCg P kE c H x H' R J->i∈R->R.Pairwise (· < ·)->(∀r∈R,r<i->p7 kE r i=false)->
 ∃o v,kE[i]? =some o/\azB P kE c H x H' i o J v/\aCg P kE c H x H' (R.erase i) (J.put o.dst v)
 |[],_,_,hi,_,_=>by simp at hi
 |r::R,J,⟨or',vr,hor,hst,h⟩,hi,hpw,azv=>by
  by_cases e:r=i
  ·grind
  ·have hiR:i∈R:=by
    grind
   rw[cR]at hpw;have hri:r<i:=hpw.1 i hiR;obtain⟨oi,v,VI,aPz,hr⟩:=aLs Ue h hiR hpw.2 (fun q hq sJ=>azv q (by simp [hq]) sJ);obtain⟨_,aa5⟩:=GL Ue;obtain⟨asd,_⟩:=(aa5 i oi VI).2 r or' hri hor (azv r (by simp) hri);obtain⟨a1,a2,a3⟩:=da asd;refine⟨oi,v,VI,aPz.move (VK _ _ _).symm (fun y hy=>?_) (Qn fun k b d hg hd=>?_),?_⟩
   ·grind [aG9,Qo]
   ·grind [awh,Yc]
   ·have sv:(r::R).erase i=r::R.erase i:=dO (by simpa using e);rw[sv];refine⟨or',vr,hor,hst.move (VK _ _ _) (fun y hy=>?_) (Qn fun k b d hg hd=>?_),?_⟩
    ·grind [aG9,Qo]
    ·grind [awh,Yc]
    grind [aHa]
def asl:List aRz->List AV->List AV
 |[],s=>s
 |o::os,s=>asl os (match o.dst with|some d=>s.set d .any|none=>s)
def azC(kE:Array aRz)(c:Nat):Bool:=(match kE[c]? with|some o=>CY o.op|none=>false)&&
 (cw kE.size).all fun i=>if i<c then p7 kE i c else if i=c then true else p7 kE c i
def aFo{c:Nat}(h:azC kE c=true):(∀i,i<c->i<kE.size->p7 kE i c=true)/\(∀i,c<i->i<kE.size->p7 kE c i=true)/\∃o,kE[c]? =some o/\CY o.op=true:=by
 grind [azC]
def adi(kE:Array aRz)(s:List AV):List AV:=asl kE.toList s
def aoR: ∀(L:List aRz)(s:List AV)(d:Nat)(v:AV),(∃o∈L,o.dst=some d)->asl L (s.set d v)=asl L s
 |[],_,_,_,⟨_,h,_⟩=>by simp at h
 |o::L,s,d,v,h=>by
  simp only[asl];cases hd:o.dst with
  |none=>
   simp only;refine aoR L s d v ?_
   grind
  |some t=>
   simp only;by_cases e:t=d
   ·subst e;rw[List.set_set]
   ·rw[dj _ _ (fun h=>e h.symm)];refine aoR L _ d v ?_
    grind
theorem azD(ho:kE[i]? =some o)(v:AV):adi kE (J.put o.dst v).j9=adi kE J.j9:=by
 cases hd:o.dst with
 |none=>rfl
 |some d=>
  refine aoR _ _ d v ⟨o,?_,hd⟩
  grind
def kP.aHb:∀{cs:List AV}{vs:List aRA}(d:Nat),kP E cs vs->kP E (cs.set d .any) vs
 |[],_,_,h=>h
 |_::_,_,0,⟨v,us,rfl,_,r⟩=>⟨v,us,rfl,trivial,r⟩
 |_::_,_,d+1,⟨v,us,rfl,h1,r⟩=>⟨v,us,rfl,h1,kP.aHb d r⟩
def aoS{E:CS}:∀(L:List aRz){cs:List AV}{vs:List aRA},kP E cs vs->kP E (asl L cs) vs
 |[],_,_,h=>h
 |o::L,cs,vs,h=>by
  simp only[asl];cases o.dst with
  |none=>exact aoS L h
  |some d=>exact aoS L (kP.aHb d h)
end
section region
variable {C:qC}
def nF.adi{U:Nat->aRA}{J:jS}{a:Act}{w:aRE}(S:nF C U J a w)(kE:Array aRz):nF C U {J with j9:=adi kE J.j9} a w:={S with j9:=aoS _ S.j9,defers:=S.defers}
def aHc(Ue:KL kE=true){c:Nat}{s0:List AV}(hQ:Q (.panic x) {j9:=adi kE s0,heap:=H',low,df}):
 ∀(fuel:Nat)(R:List Nat)(listed:Array Bool)(U:Nat->aRA)(J:jS)(a:Act)(w:aRE),R.length=fuel->amT kE R listed->c∈R->
 nF C U J a w->adi kE J.j9=adi kE s0->J.low=low->J.df=df->aCg C.P kE c H x H' R J->wpAnyIn (GK ro) 0 C.P .any kE (QC C Q) fuel listed a w:=by
 obtain⟨_,aa5⟩:=GL Ue;intro fuel;induction fuel with
 |zero=>
  grind
 |succ fuel ih=>
  intro R listed U J a w hl F hc S hs JB hdf h;have hpw:=F.pw;have hsz:=F.sz;have hR:=F.mem;have hnd:R.Nodup:=hpw.imp (fun h=>dy h);refine⟨?_,?_⟩
  ·intro aCe;exfalso;cases R with
   |nil=>simp at hl
   |cons r R=>
    have hr:=(hR r).1 (by simp);have ho:kE[r]? =some kE[r]:=cM hr.1
    have:r∈Region.ready .any kE listed:=by
     rw[Mr listed r hsz]
     grind [cR]
    grind
  ·intro i hi;rw[Mr listed i hsz]at hi;obtain⟨hi1,hi2,oi,VI,EV⟩:=hi;have hiR:=(hR i).2 ⟨hi1,hi2⟩
   have asi:∀r∈R,p7 kE r i=false:=by
    intro r hr;cases hq:p7 kE r i with
    |false=>rfl
    |true=>
     exfalso;have:=xO Ue F.cl VI EV hq
     grind
   obtain⟨o,v,ho,⟨hH,hst⟩,yd⟩:=aLs Ue h hiR hpw (fun r hr _=>asi r hr);rw[VI]at ho;cases ho;rcases hst with⟨rfl,hw,f,args,aHd,aLW⟩|azv|⟨sv,e,hup,hnw,hval,hS⟩
   ·unfold wpOpIn;simp only[VI];rw[z6 S hw];simp only[jM];have xK:=aLW J hH;obtain⟨vs,uB,hr⟩:=Mp S aHd xK.1;refine⟨fun _ _=>trivial,?_⟩;rw[dl _ _ _ (QP aHd),uB,dc];refine⟨fun h=>by simp [GK,cn]at h,Lc.2 ?_⟩;refine(xK.2 C U a w rfl S vs hr).mono fun en w' ⟨o',U',H2,⟨ho',hH2⟩,S',tD⟩=>?_
    subst ho' hH2;cases en with
    |returned v=>exact tD.elim
    |panicked chain=>
     obtain⟨u,hu,hr⟩:=tD;refine⟨U',{j9:=adi kE s0,heap:=H2,low,df},x,u,?_,hQ,hu,hr⟩;have:=S'.adi kE
     grind
    |outgrown=>exact tD.elim
   ·rw[asi c hc]at azv;cases azv
   ·refine PQ S VI hS ?_;rintro e' U' v' w' rfl S'
    have aPA:J.app oi.dst e'=J.put oi.dst v:=by
     rw[show J.app oi.dst e'=J.app oi.dst {val:=v} by simp [jS.app,hup,hnw,hval],Mo]
    rw[aPA]at S';refine ih (R.erase i) _ U' _ _ w' ?_ (F.next VI EV) ((hnd.mem_erase_iff).2 ⟨fun e=>sv e.symm,hc⟩) S' ?_ ?_ ?_ yd
    ·grind
    ·rw[azD VI];exact hs
    ·rw[<-JB];cases oi.dst<;>rfl
    ·rw[<-hdf];cases oi.dst<;>rfl
def aCh{id c:Nat}(hm:C.P.follows .mixedOrders=true)(Ue:KL kE=true)(hc:c<kE.size)(h:aCg C.P kE c J.heap x H' (cw kE.size) J)
 (hQ:Q (.panic x) {J with j9:=adi kE J.j9,heap:=H'}) (S:nF C U J a w):(Code.region id kE true).wpIn (GK ro) 0 C.P (QC C Q) a w:=by
 refine wpIn_region_any hm ?_;refine aHc Ue hQ kE.size (cw kE.size) _ U J a _ (by simp) ⟨dh,by simp,?_,?_⟩ (by simpa using hc) (S.drew _) rfl rfl rfl h
 all_goals grind [oX]
def awi(P:aRD)(kE:Array aRz)(c:Nat)(Q:oo->jS->Prop)(J:jS):Prop:=
 ∃o f args x H',kE[c]? =some o/\qG kE o J=some true/\nT J o.op=some (f,args)/\asj P f args J.heap x H'/\Q (.panic x) {J with j9:=adi kE J.j9,heap:=H'}
def aFp(Ue:KL kE=true){c k:Nat}(azE:azC kE c=true)(hk:kE.size=c+(k+1)):
 ∀(f:Nat)(R:List Nat)(listed:Array Bool)(U:Nat->aRA)(J:jS)(a:Act)(w:aRE),R.length+k=f->(∀r∈R,r<c)->amT kE (R++cN c (k+1)) listed->nF C U J a w->ajM C.P kE (awi C.P kE c Q) R [] J->wpAnyIn (GK ro) 0 C.P .any kE (QC C Q) (f+1) listed a w:=by
 obtain⟨_,aa5⟩:=GL Ue;obtain⟨hb,ha,xK⟩:=aFo azE;intro f;induction f using Nat.strongRecOn with
 |ind f ih=>
  intro R listed U J a w hl hRc F S h;have hpw:=F.pw;have hsz:=F.sz;have hR:=F.mem;have aNI:R.Pairwise (· < ·):=(List.pairwise_append.1 hpw).1;have hnd:R.Nodup:=aNI.imp (fun h=>dy h);have aLt:c∈R++cN c (k+1):=cG.2 (.inr (by rw[List.mem_range'_1];omega));refine⟨?_,?_⟩
  ·intro aCe;exfalso;generalize R++cN c (k+1)=L at hpw hR aLt;cases L with
   |nil=>simp at aLt
   |cons r L=>
    have hr:=(hR r).1 (by simp);have ho:kE[r]? =some kE[r]:=cM hr.1
    have:r∈Region.ready .any kE listed:=by
     rw[Mr listed r hsz];refine⟨hr.1,hr.2,_,ho,fun d hd=>?_⟩
     grind [cR]
    grind
  ·intro i hi;rw[Mr listed i hsz]at hi;obtain⟨hi1,hi2,oi,VI,EV⟩:=hi;have hiR:=(hR i).2 ⟨hi1,hi2⟩
   have asi:∀r∈R++cN c (k+1),p7 kE r i=false:=by
    intro r hr;cases hq:p7 kE r i with
    |false=>rfl
    |true=>
     exfalso;have:=xO Ue F.cl VI EV hq
     grind
   rcases cG.1 hiR with aLX|hiC
   ·have hno:∀r∈R,r<i->aqB kE r i=false:=fun r hr _=>KN (asi r (cG.2 (.inl hr))) (by
     cases ht:agP kE r i with
     |false=>rfl
     |true=>
      exfalso;obtain⟨_,_,aCc⟩:=GO ht;obtain⟨oc,hoc,hcc⟩:=xK;have h1:=hRc r hr;have h2:=hRc i aLX;rw[Ar (aCc c oc hoc (by omega) (by omega)).1]at hcc;cases hcc)
    obtain⟨o,E,ho,hst,hE⟩:=azu Ue h aLX aNI hno;have axp:=List.length_pos_of_mem aLX;obtain⟨f',rfl⟩:∃f',f=f'+1:=⟨f-1,by omega⟩;refine PQ S ho hst ?_;intro e U' v w' he S';obtain⟨_,yd⟩:=hE e he;refine ih f' (by omega) (R.erase i) _ U' _ _ w' ?_ (fun r hr=>hRc r (dw hr)) ?_ S' yd
    ·grind
    ·have:=F.next VI EV
     grind
   ·rw[List.mem_range'_1] at hiC;rcases Nat.eq_or_lt_of_le hiC.1 with e|sJ
    ·subst e
     have hR0:R=[]:=by
      cases R with
      |nil=>rfl
      |cons r R=>
       exfalso;have h1:=asi r (by simp)
       grind
     subst hR0;obtain⟨o,fn,args,x,H',ho,hw,aHd,aLW,hQ⟩:awi C.P kE c Q J:=h;rw[VI]at ho;cases ho;unfold wpOpIn;simp only[VI];rw[z6 S hw];simp only[jM];have xK:=aLW J rfl;obtain⟨vs,uB,hr⟩:=Mp S aHd xK.1;refine⟨fun _ _=>trivial,?_⟩;rw[dl _ _ _ (QP aHd),uB,dc];refine⟨fun h=>by simp [GK,cn]at h,Lc.2 ?_⟩;refine(xK.2 C U a w rfl S vs hr).mono fun en w' ⟨o',U',H2,⟨ho',hH2⟩,S',tD⟩=>?_
     subst ho' hH2;cases en with
     |returned v=>exact tD.elim
     |panicked chain=>
      obtain⟨u,hu,hr⟩:=tD;exact⟨U',{J with j9:=adi kE J.j9,heap:=H2},x,u,S'.adi kE,hQ,hu,hr⟩
     |outgrown=>exact tD.elim
    grind
def aCi{id c:Nat}(hm:C.P.follows .mixedOrders=true)(Ue:KL kE=true)(hc:c<kE.size)(azE:azC kE c=true)(h:ajM C.P kE (awi C.P kE c Q) (cw c) [] J)
 (S:nF C U J a w):(Code.region id kE true).wpIn (GK ro) 0 C.P (QC C Q) a w:=by
 refine wpIn_region_any hm ?_;obtain⟨k,hk⟩:∃k,kE.size=c+(k+1):=⟨kE.size-c-1,by omega⟩
 have aJl:cw c++cN c (k+1)=cw kE.size:=by
  rw[cD,cD,hk]
  grind
 have hF:amT kE (cw c++cN c (k+1)) (ck kE.size false):=by
  rw[aJl];refine⟨dh,by simp,?_,?_⟩
  all_goals grind [oX]
 have key:∀w',nF C U J a w'->wpAnyIn (GK ro) 0 C.P .any kE (QC C Q) kE.size (ck kE.size false) a w':=by
  intro w' S';have:=aFp (ro:=ro) (Q:=Q) Ue azE hk (c+k) (cw c) (ck kE.size false) U J a w' (by simp) (by simp) hF S' h
  grind
 exact key _ (S.drew _)
def VM(tr:List Tr):Bool:=tr.all fun t=>t.e.up.isEmpty&&t.e.nw.isEmpty
def aba (P:aRD) (kE:Array aRz) (c:Nat):List aRz->Nat->jS->Prop
 |[],_,_=>True
 |o::rest,j,J=>match p7 kE c j with
  |true=>aba P kE c rest (j+1) (J.put o.dst (.sV undef))
  |false=>match qG kE o J with
   |none=>False
   |some false=>aba P kE c rest (j+1) (J.put o.dst (.sV undef))
   |some true=>nT J o.op=none/\match lG P J o.op with
    |some e=>(e.pre/\e.up=[]/\e.nw=[])/\aba P kE c rest (j+1) (J.put o.dst e.val)
    |none=>False
theorem Qp{P:aRD}{c:Nat}{H H':List j5}{x:AV}:∀(rest:List aRz)(j:Nat)(J:jS),kE.toList.drop j=rest->c<j->J.heap=H->aba P kE c rest j J->aCg P kE c H x H' (cN j rest.length) J
 |[],_,_,_,_,_,_=>trivial
 |o::rest,j,J,hd,hcj,hH,h=>by
  have ho:kE[j]? =some o:=by
   have:=congrArg (fun l:List aRz=>l[0]?) hd;simpa using this
  have yd:kE.toList.drop (j+1)=rest:=by
   grind [dz]
  simp only[dH,dn];simp only[aba]at h;split at h
  ·rename_i hor;exact⟨o,.sV undef,ho,⟨hH,.inr (.inl hor)⟩,Qp rest (j+1) _ yd (by omega) (by rw[VK];exact hH) h⟩
  ·split at h
   ·exact h.elim
   ·rename_i hw;exact⟨o,.sV undef,ho,⟨hH,.inr (.inr ⟨by omega,{val:=.sV undef},rfl,rfl,rfl,.inl ⟨hw,fun _=>cg⟩⟩)⟩,Qp rest (j+1) _ yd (by omega) (by rw[VK];exact hH) h⟩
   ·rename_i hw;obtain⟨hc,h⟩:=h;split at h
    ·rename_i e he;obtain⟨⟨hp,hu,hn⟩,h⟩:=h;exact⟨o,e.val,ho,⟨hH,.inr (.inr ⟨by omega,e,hu,hn,rfl,.inr (.inl ⟨hw,hc,e,he,hp,fun _=>cg⟩)⟩)⟩,Qp rest (j+1) _ yd (by omega) (by rw[VK];exact hH) h⟩
    ·exact h.elim
end region
def oo.then(next:jS->Prop)(Q:oo->jS->Prop):oo->jS->Prop
 |.normal,J=>next J
 |e,J=>Q e J
def oo.inBlock(id:Nat)(Q:oo->jS->Prop):oo->jS->Prop
 |.exit id',J=>if id'=id then Q .normal J else Q (.exit id') J
 |e,J=>Q e J
def oo.noGoto(Q:oo->jS->Prop):oo->jS->Prop
 |.goto _,_=>False
 |e,J=>Q e J
def vF.aoT(e:vF):Bool:=e.rd.isEmpty&&e.up.isEmpty&&e.nw.isEmpty&& !e.whole
def PT(tr:List Tr)(j n:Nat)(e:vF):List Tr:=bif e.aoT then tr else tr++[⟨j,n,e⟩]
def adj(kE:Array aRz)(tr:List Tr)(j:Nat)(e:vF):Prop:=e.aoT=true\/Ee kE tr j e=true
def amU (P:aRD) (kE:Array aRz) (Q:oo->jS->Prop):List aRz->Nat->List Tr->jS->Prop
 |[],_,_,J=>Q .normal J
 |o::rest,j,tr,J=>match qG kE o J with
  |none=>False
  |some b=>(b=true->match nT J o.op with
    |some (f,args)=>(∃r,I5 P f args (fun v=>v=r)/\amU P kE Q rest (j+1) tr (J.put o.dst r))\/
      (∃e,IF P f args J e/\adj kE tr j e/\amU P kE Q rest (j+1) (PT tr j J.heap.length e) (J.app o.dst e))\/
      ∃x H',asj P f args J.heap x H'/\(azC kE j=true\/(VM tr=true/\aba P kE j rest (j+1) (J.put o.dst (.sV undef))))/\Q (.panic x) {J with j9:=adi kE J.j9,heap:=H'}
    |none=>match lG P J o.op with
     |some e=>e.pre/\adj kE tr j e/\amU P kE Q rest (j+1) (PT tr j J.heap.length e) (J.app o.dst e)
     |none=>False)/\
   (b=false->amU P kE Q rest (j+1) tr (J.put o.dst (.sV undef)))
def aHe(P:aRD)(g:aRF)(ps:Array Tmp)(aRs body:aRB)(Q:oo->jS->Prop)(J:jS):Prop:=
 ∀(C:qC)(U:Nat->aRA)(a:Act)(w:aRE),C.P=P->nF C U J a w->(Code.rangeFunc g ps aRs body).wpIn (GK none) 0 P (QC C Q) a w
def yx:aRB->Bool
 |.region _ kE _=>kE.toList.all fun o=> !aEk o.op
 |.seq x y=>yx x&&yx y
 |.cond _ x y=>yx x&&yx y
 |.block _ x=>yx x
 |.loop x=>yx x
 |.scope x=>yx x
 |.rangeFunc _ _ _ _=>false
 |_=>true
def awp(P:aRD):aRB->(oo->jS->Prop)->jS->Prop
 |.skip,Q,J=>Q .normal J
 |.region _ kE false,Q,J=>Zq P kE kE.toList Q J
 |.region _ kE true,Q,J=>(P.follows .mixedOrders=true/\KL kE=true)/\amU P kE Q kE.toList 0 [] J
 |.seq x y,Q,J=>awp P x (oo.then (fun J1=>∃J2,Lb J1 J2/\awp P y Q J2) Q) J
 | .cond c x y,Q,J=>match J.ev c with
   |.bool b=>(b=true->awp P x Q J)/\(b=false->awp P y Q J)
   |_=>False
 |.block id x,Q,J=>awp P x (oo.inBlock id Q) J
 |.loop x,Q,J=>∃(I:Nat->jS->Prop)(n:Nat)(J':jS),Lb J J'/\I n J'/\
     ∀n J,I n J->awp P x (oo.then (fun J1=>∃n' J',n'<n/\Lb J1 J'/\I n' J') Q) J
 |.exit id,Q,J=>Q (.exit id) J
 |.scope x,Q,J=>awp P x (oo.noGoto Q) J
 |.label _,Q,J=>Q .normal J
 |.ret,Q,J=>Q .ret J
 |.goto _,_,_=>False
 |.rangeFunc g ps aRs body,Q,J=>aHe P g ps aRs body Q J
 |.refuse _,_,_=>False
theorem amV{t:Tr}{e:vF}(h:e.aoT=true):CZ t e=true:=by
 grind [vF.aoT,CZ,Ld]
theorem aoU{t:Tr}{e:vF}(h:t.e.aoT=true):CZ t e=true:=by
 grind [vF.aoT,CZ,Ld]
def ap1{e:vF}(h:VM (PT tr j n e)=true):VM tr=true/\e.up=[]/\e.nw=[]:=by
 grind [PT,vF.aoT,VM]
def aJm(P:aRD)(kE:Array aRz)(Q:oo->jS->Prop)(j m:Nat)(tr:List Tr)(J:jS):Prop:=
 VM tr=true/\∃c x H',j<=c/\c<j+m/\aCg P kE c J.heap x H' (cN j m) J/\Q (.panic x) {J with j9:=adi kE J.j9,heap:=H'}
theorem aJm.step {m:Nat}{tr':List Tr}(ho:kE[j]? =some o)(ht:VM tr'=true->VM tr=true/\∃e:vF,e.up=[]/\e.nw=[]/\e.val=v/\yw P kE o J (fun e'=>e'=e))
 (h:aJm P kE Q (j+1) m tr' (J.put o.dst v)):aJm P kE Q j (m+1) tr J:=by
 obtain⟨h1,c,x,H',h2,h3,h4,h5⟩:=h;obtain⟨k1,k2⟩:=ht h1;refine⟨k1,c,x,H',by omega,by omega,?_,?_⟩
 ·rw[dn];rw[VK]at h4;exact⟨o,v,ho,⟨rfl,.inr (.inr ⟨by omega,k2⟩)⟩,h4⟩
 ·rw[azD ho]at h5;cases hd:o.dst<;>rw[hd]at h5<;>exact h5
theorem azF{e:vF}(hu:e.up=[])(hn:e.nw=[]):J.app d e=J.put d e.val:=by
 rw[show J.app d e=J.app d {val:=e.val,rd:=e.rd,pre:=e.pre} by simp [jS.app,hu,hn]];exact Mo _ _ _ _ _
def agT(P:aRD)(kE:Array aRz)(Q:oo->jS->Prop)(j n:Nat)(tr:List Tr)(J:jS):Prop:=
 ∃m K,ajM P kE K (cN j m) tr J/\((m=n/\K=Q .normal)\/(m<n/\azC kE (j+m)=true/\K=awi P kE (j+m) Q))
theorem agT.step{e:vF}(ho:kE[j]? =some o)(hst:yw P kE o J (fun e'=>e'=e))(hc:Ee kE tr j e=true)
 (h:agT P kE Q (j+1) n (tr++[⟨j,J.heap.length,e⟩]) (J.app o.dst e)):agT P kE Q j (n+1) tr J:=by
 obtain⟨m,K,h,hK⟩:=h;refine⟨m+1,K,?_,?_⟩
 ·rw[dn];exact⟨o,_,ho,hst,fun e' he=>by subst he;exact⟨hc,h⟩⟩
 grind
def JC{P:aRD}{kE:Array aRz}{Q:oo->jS->Prop}: ∀(rest:List aRz)(j:Nat)(tr tr':List Tr)(J:jS),kE.toList.drop j=rest->(∀t∈tr',t∈tr\/t.e.aoT=true)->
 amU P kE Q rest j tr J->agT P kE Q j rest.length tr' J\/aJm P kE Q j rest.length tr J
 |[],_,_,_,_,_,_,h=>.inl ⟨0,Q .normal,h,.inl ⟨rfl,rfl⟩⟩
 |o::rest,j,tr,tr',J,hd,htr,h=>by
  have ho:kE[j]? =some o:=by
   have:=congrArg (fun l:List aRz=>l[0]?) hd;simpa using this
  have yd:kE.toList.drop (j+1)=rest:=by
   grind [dz]
  have aEp:∀e,adj kE tr j e->Ee kE tr' j e=true:=by
   intro e he;unfold Ee;rw[List.all_eq_true];intro t ht;rcases he with he|he
   all_goals grind [amV,Ee,aoU]
  have aLu:∀n e,∀t∈tr'++[⟨j,n,e⟩],t∈PT tr j n e\/t.e.aoT=true:=by
   grind [PT]
  have aQv:∀x:AV,({val:=x}:vF).aoT=true:=fun _=>rfl
  have aHf:∀n x,∀t∈tr'++[⟨j,n,{val:=x}⟩],t∈tr\/t.e.aoT=true:=by
   grind
  simp only[amU]at h;simp only[dH];split at h
  ·exact h.elim
  ·rename_i b hb;cases b with
   |false=>
    have hst:yw P kE o J (fun e=>e={val:=.sV undef}):=.inl ⟨hb,fun _=>cg⟩;rcases JC rest (j+1) tr (tr'++[⟨j,J.heap.length,{val:=.sV undef}⟩]) _ yd (aHf _ _) (h.2 rfl)with hl|hr
    ·exact .inl (agT.step ho hst (aEp _ (.inl rfl)) (by rw[Mo];exact hl))
    ·exact .inr (hr.step ho fun ht=>⟨ht,_,rfl,rfl,rfl,hst⟩)
   |true=>
    have h:=h.1 rfl;split at h
    ·rename_i f args hc;rcases h with⟨r,hf,hK⟩|⟨e,hf,hcp,hK⟩|⟨x,H',hp,hsp|⟨ht,hri⟩,hQ⟩
     ·have hst:yw P kE o J (fun e=>e={val:=r}):=.inr (.inr (.inl ⟨hb,f,args,_,hc,hf,⟨r,rfl⟩,fun e=>⟨fun he=>⟨r,rfl,he⟩,fun ⟨r',h1,h2⟩=>by rw[h2,h1]⟩⟩));rcases JC rest (j+1) tr (tr'++[⟨j,J.heap.length,{val:=r}⟩]) _ yd (aHf _ _) hK with hl|hr
      ·exact .inl (agT.step ho hst (aEp _ (.inl rfl)) (by rw[Mo];exact hl))
      ·exact .inr (hr.step ho fun ht=>⟨ht,_,rfl,rfl,rfl,hst⟩)
     ·have hst:yw P kE o J (fun e'=>e'=e):=.inr (.inr (.inr ⟨hb,f,args,e,hc,hf,fun _=>cg⟩));rcases JC rest (j+1) _ (tr'++[⟨j,J.heap.length,e⟩]) _ yd (aLu _ _) hK with hl|hr
      ·grind [agT.step]
      ·right;have ht:=hr.1;obtain⟨t1,t2,t3⟩:=ap1 ht;rw[azF t2 t3]at hr;exact hr.step ho fun _=>⟨t1,e,t2,t3,rfl,hst⟩
     ·exact .inl ⟨0,awi P kE j Q,(⟨o,f,args,x,H',ho,hb,hc,hp,hQ⟩:awi P kE j Q J),.inr ⟨by omega,hsp,rfl⟩⟩
     ·right;refine⟨ht,j,x,H',cj _,by omega,?_,hQ⟩;rw[dn];refine⟨o,.sV undef,ho,⟨rfl,.inl ⟨rfl,hb,f,args,hc,hp⟩⟩,?_⟩
      grind [Qp,VK]
    ·rename_i hc;split at h
     ·rename_i e he;have hst:yw P kE o J (fun e'=>e'=e):=.inr (.inl ⟨hb,hc,e,he,h.1,fun _=>cg⟩);rcases JC rest (j+1) _ (tr'++[⟨j,J.heap.length,e⟩]) _ yd (aLu _ _) h.2.2 with hl|hr
      ·grind [agT.step]
      ·right;have ht:=hr.1;obtain⟨t1,t2,t3⟩:=ap1 ht;rw[azF t2 t3]at hr;exact hr.step ho fun _=>⟨t1,e,t2,t3,rfl,hst⟩
     ·exact h.elim
section sound
variable {C:qC}
def aEq{next:jS->Prop}{aLv:Act->aRE->Prop}(h:∀U J a w,nF C U J a w->next J->aLv a w){e:Exit}
 (hq:QC C (oo.then next Q) e a w):Exit.then aLv (QC C Q) e a w:=by
 cases e with
 |normal=>obtain⟨U,J,S,hn⟩:=hq;exact h U J a w S hn
 |exit id=>exact hq
 |goto l=>exact hq
 |ret=>exact hq
 |panic chain=>exact hq
 |outgrown=>exact hq
def aCj{id:Nat}{e:Exit}(hq:QC C (oo.inBlock id Q) e a w):Exit.inBlock id (QC C Q) e a w:=by
 cases e with
 |exit id'=>
  obtain⟨U,J,S,h⟩:=hq;simp only[oo.inBlock]at h;simp only[Exit.inBlock];split at h
  ·rename_i e;rw[if_pos e];exact⟨U,J,S,h⟩
  ·rename_i e;rw[if_neg e];exact⟨U,J,S,h⟩
 |normal=>exact hq
 |goto l=>exact hq
 |ret=>exact hq
 |panic chain=>exact hq
 |outgrown=>exact hq
def aFq{e:Exit}(hq:QC C (oo.noGoto Q) e a w):Exit.noGoto (QC C Q) e a w:=by
 cases e with
 |goto l=>obtain⟨U,J,S,h⟩:=hq;exact h.elim
 |normal=>exact hq
 |exit id=>exact hq
 |ret=>exact hq
 |panic chain=>exact hq
 |outgrown=>exact hq
def axq{Q:Exit->Act->aRE->Prop}(I:Nat->Act->aRE->Prop)(n₀:Nat)(h₀:I n₀ a w)
 (round:∀m a w,I m a w->c.wpIn F n P (Exit.then (fun a' w'=>∃m',m'<m/\I m' a' w') Q) a w):(Code.loop c).wpIn F n P Q a w:=by
 refine wpIn_loop (fun a w=>∃m,I m a w) (fun a w=>leastOf (fun m=>I m a w)) ⟨n₀,h₀⟩ ?_;intro a w hI;refine wpIn_mono (round _ a w (leastOf_spec hI).1) ?_;intro e a' w' hq;cases e with
 |normal=>
  obtain⟨m',sJ,hI'⟩:=hq;exact⟨⟨m',hI'⟩,Nat.lt_of_le_of_lt ((leastOf_spec ⟨m',hI'⟩).2 m' hI') sJ⟩
 |exit id=>exact hq
 |goto l=>exact hq
 |ret=>exact hq
 |panic chain=>exact hq
 |outgrown=>exact hq
def Lg{b:Frame}:step P (lone (b.atR a (.code (.scope c)::k)) cs w)=.next (lone (b.atR a (.code c::.inScope c::k)) cs w):=
 step_lone_go (by simp [stepG,stepG.exec,Frame.atR])
def auM{b:Frame}:step P (lone (b.atR a (.inScope c::k)) cs w)=.next (lone (b.atR a k) cs w):=
 step_lone_go (by simp [stepG,stepG.exec,Frame.atR])
def aoV{Q:Exit->Act->aRE->Prop}(h:c.wpIn F n P (Exit.noGoto Q) a w):(Code.scope c).wpIn F n P Q a w:=by
 intro b k cs hro hb hr;have h0:(lone (b.atR a (.code (.scope c)::k)) cs w).fenced P F:=fenced_calm (fr:=b.atR a (.code (.scope c)::k)) hb hr rfl;obtain⟨e,a₁,w₁,hq,auN⟩:=h b (.inScope c::k) cs hro hb hr;cases e with
 |normal=>exact⟨.normal,a₁,w₁,hq,.head h0 Lg (StepsIn.trans auN (.one (fenced_calm (fr:=b.atR a₁ (.inScope c::k)) hb hr rfl) auM))⟩
 |exit id=>
  have hx:exitTo id (.inScope c::k)=exitTo id k:=by simp [exitTo]
  exact⟨.exit id,a₁,w₁,hq,fun k' hk=>.head h0 Lg (auN.1 k' (by rw[hx];exact hk)),
   fun hr' hk=>let ⟨k₁,h1,h2⟩:=auN.2 hr' (by rw[hx];exact hk);⟨k₁,h1,.head h0 Lg h2⟩⟩
 |goto l=>exact hq.elim
 |ret=>exact⟨.ret,a₁,w₁,hq,.of_steps (.one h0 Lg) auN⟩
 |panic ch=>exact⟨_,a₁,w₁,hq,.of_steps (.one h0 Lg) auN⟩
 |outgrown=>exact⟨_,a₁,w₁,hq,.of_steps (.one h0 Lg) auN⟩
def yy{ro:Option Nat}: ∀(c:aRB)(Q:oo->jS->Prop)(U:Nat->aRA)(J:jS)(a:Act)(w:aRE),(ro=none\/yx c=true)->awp C.P c Q J->nF C U J a w->c.wpIn (GK ro) 0 C.P (QC C Q) a w
 |.skip,Q,U,J,a,w,_,h,S=>wpIn_skip ⟨U,J,S,h⟩
 | .region id kE false,Q,U,J,a,w,hn,h,S=>by
   have:=amI (ro:=ro) rfl kE.toList 0 hn (by simp) U J a w h S
   grind [wpIn_region,cD]
 | .region id kE true,Q,U,J,a,w,_,h,S=>by
   obtain⟨⟨hm,Ue⟩,h⟩:=h;rcases JC kE.toList 0 [] [] J (by simp) (by simp) h with⟨m,K,this,⟨hm',rfl⟩|⟨hm',hsp,rfl⟩⟩|⟨_,c,x,H',_,hc,hI,hQ⟩
   ·refine aCf hm Ue ?_ S
    grind [cD]
   ·rw[Nat.zero_add]at this hsp;exact aCi hm Ue (by simpa using hm') hsp (by rw[cD];exact this) S
   ·refine aCh (c:=c) (x:=x) (H':=H') hm Ue (by simpa using hc) ?_ hQ S
    grind [cD]
 | .seq x y,Q,U,J,a,w,hn,h,S=>
   wpIn_seq (wpIn_mono (yy x _ U J a w (hn.imp id fun h=>(cq _ _ ▸ h:yx x=true/\yx y=true).1) h S) fun _ _ _ hq=>aEq (fun U' J' a' w' S' h'=>by
    obtain⟨J2,I6,h2⟩:=h';obtain⟨U2,S2⟩:=I6 C U' a' w' S';exact yy y Q U2 J2 a' w' (hn.imp id fun h=>(cq _ _ ▸ h:yx x=true/\yx y=true).2) h2 S2) hq)
 | .cond c x y,Q,U,J,a,w,hn,h,S=>by
   simp only[awp]at h;have hc:=S.ev c;split at h
   ·rename_i b hb;rw[hb]at hc;simp only[pm]at hc;refine wpIn_cond hc ?_;cases b with
    |true=>exact yy x Q U J a w (hn.imp id fun h=>(cq _ _ ▸ h:yx x=true/\yx y=true).1) (h.1 rfl) S
    |false=>exact yy y Q U J a w (hn.imp id fun h=>(cq _ _ ▸ h:yx x=true/\yx y=true).2) (h.2 rfl) S
   ·exact h.elim
 |.block id x,Q,U,J,a,w,hn,h,S=>wpIn_block (wpIn_mono (yy x _ U J a w hn h S) fun _ _ _ hq=>aCj hq)
 | .loop x,Q,U,J,a,w,hn,h,S=>by
   obtain⟨I,n,J',I6,hI,aLY⟩:=h;obtain⟨U',S'⟩:=I6 C U a w S;refine axq (fun n a w=>∃U J,I n J/\nF C U J a w) n ⟨U',J',hI,S'⟩ ?_;rintro n a w ⟨U,J,hI,S⟩;refine wpIn_mono (yy x _ U J a w hn (aLY n J hI) S) fun _ _ _ hq=>aEq ?_ hq
   rintro U1 J1 a1 w1 S1 ⟨n',J2,sJ,I6,hI'⟩;obtain⟨U2,S2⟩:=I6 C U1 a1 w1 S1
   grind
 |.exit id,Q,U,J,a,w,_,h,S=>wpIn_exit ⟨U,J,S,h⟩
 |.scope x,Q,U,J,a,w,hn,h,S=>aoV (wpIn_mono (yy x _ U J a w hn h S) fun _ _ _ hq=>aFq hq)
 |.label l,Q,U,J,a,w,_,h,S=>wpIn_label ⟨U,J,S,h⟩
 |.ret,Q,U,J,a,w,_,h,S=>wpIn_ret ⟨U,J,S,h⟩
 |.goto l,Q,U,J,a,w,_,h,S=>h.elim
 | .rangeFunc f p x y,Q,U,J,a,w,hn,h,S=>by
   rcases hn with rfl|hn
   ·exact h C U a w rfl S
   ·cases hn
 |.refuse s,Q,U,J,a,w,_,h,S=>h.elim
def nF.amW{ds:List Deferred}(S:nF C U J {tmps,defers:=⟨.collected D,#[]⟩::ds} w):
 w.heap[D]? =some (.deferred (some []))/\nF C U J {tmps,defers:=ds} (w.putObj D (.deferred none)):=by
 obtain⟨hnd,aJl,hrd⟩:=S.defers;have hmk:amz (⟨.collected D,#[]⟩:Deferred)=true:=rfl;simp only[dJ,hmk,jM,Bool.not_true,db,if_false]at hnd hrd;obtain⟨D',hD,h1,h2,h3⟩:=aJl _ (cV) rfl;simp only[Deferred.mk.injEq,Target.collected.injEq,and_true]at hD;subst hD;refine⟨h1,?_⟩;have Ed:∀b,b≠D->(w.putObj D (.deferred none)).heap[b]? =w.heap[b]? :=fun b hb=>World.putObj_heap_other hb
 have ud:∀b o,(w.putObj D (.deferred none)).cell? ⟨b,o,none⟩=w.cell? ⟨b,o,none⟩:=by
  grind [World.cell?,World.putObj_heap_same]
 have hty:tyk w (w.putObj D (.deferred none)):=aw8 h1 (by intro c t fz h;cases h) Ed
 have le:(C.env U J.heap w).Le J.heap.length (C.env U J.heap (w.putObj D (.deferred none))):=
  qC.CU (cj _) (fun _ _=>⟨rfl,rfl⟩) (fun b o u hm hc=>⟨hm,by rw[ud];exact hc⟩)
 have B1:tv C U J.heap (w.putObj D (.deferred none)) J.df ds:=by
  rw[dK]at hnd;refine⟨hnd.2,fun d hd hm=>?_,hrd.mono le⟩
  grind
 refine {j9:=kP.mono le _ _ (kP.nb _ _ S.j9) S.j9,defers:=B1,om:=?_,apart:=S.apart,uh:=S.uh,size:=by grind [World.putObj_size],old:=fun b o hb hm=>by rw[ud];exact S.old b o hb hm,n8:=?_,Cn:=S.Cn,wZ:=?_,rest:=S.rest,low:=S.low,mA:=S.mA}
 ·intro l x hx;exact oP.mono (S.om l x hx) le (fun b hb=>Ed b (fun e=>by subst e;exact h3 l x hx hb))
 ·intro b hb hm;rw[Ed b (by omega)];exact S.n8 b hb hm
 ·intro x hx hm0;rw[<-S.wZ x hx hm0]
  grind [World.frozen?]
def nF.aEr{fn:Func}{R:aRG->aRE->Prop}{tm:Array aRA}(hu:u≠ .run)(hdf:J.df=[]):∀(ds:List Deferred)(w:aRE),nF C U J {tmps,defers:=ds} w->
 (∀w',nF C U J {tmps,defers:=[]} w'->LeavesIn cn 0 C.P fn tm R [] u w')->LeavesInM cn 0 C.P fn tm R ds u w
 |[],w,S,h=>h w S
 |d::ds,w,S,h=>by
  have hm:amz d=true:=by
   have:=S.defers.2.2;rw[hdf]at this;have alu:(d::ds).filter (fun d=> !amz d)=[]:=this;rw[List.filter_eq_nil_iff]at alu;simpa using alu d (cV)
  obtain⟨D,hD,_⟩:=S.defers.2.1 d (cV) hm;subst hD;obtain⟨h1,S'⟩:=S.amW;exact⟨hu,.inl ⟨D,_,rfl,run_takeDeferred h1,nF.aEr hu hdf ds _ S' h⟩⟩
end sound
def asn (P:aRD) (J:jS):ResultVar->Option AV
 |.tmp t=>some (J.j9.getD t .any)
 | .cell d t=>match mN P t,J.j9.getD d .any with
   |some (g,n),.ptr l off=>match J.heap[l]? with
    |some (.cells cs)=>kr g n (cs.drop off)
    |_=>none
   |_,_=>none
def BC(P:aRD)(J:jS):List ResultVar->Option (List AV)
 |[]=>some []
 |r::rs=>match asn P J r,BC P J rs with
  |some x,some xs=>some (x::xs)
  |_,_=>none
def Uf(P:aRD)(J:jS)(rs:List ResultVar):Option AV:=
 match BC P J rs with
 |some [x]=>some x
 |some xs=>some (.I3 xs)
 |none=>none
section results
variable {C:qC}
def axr(S:nF C U J a w){r:ResultVar}(h:asn C.P J r=some x):
 ∃v,(match r with|.tmp t=>pure (a.tmps.getD t undef)|.cell d t=>(do loadVar t (<-asAddr (a.tmps.getD d undef))):Sem aRA).run C.P w=.ok v w/\pm (C.env U J.heap w) x v:=by
 cases r with
 |tmp t=>
  simp only[asn,bZ]at h;subst h;exact⟨_,rfl,S.ev (.tmp t)⟩
 |cell d t=>
  simp only[asn]at h;have hd:=S.ev (.tmp d);simp only[jS.ev]at hd;split at h
  ·rename_i g n l off ht hp;rw[hp]at hd;split at h
   ·rename_i cs hl;obtain⟨u,hu,ru⟩:=azl S ht hl h hd;obtain⟨_,b,_,hv⟩:=hd;refine⟨u,?_,ru⟩;have hv':a.tmps.getD d undef=.pointer (some ⟨b,off,none⟩):=hv
    grind [asAddr,Instr.loadAt,Instr.sureAddr]
   ·cases h
  ·cases h
def akp(S:nF C U J a w):∀{rs:List ResultVar}{xs:List AV},BC C.P J rs=some xs->
 ∃vs:List aRA,(rs.mapM fun|.tmp t=>pure (a.tmps.getD t undef)|.cell d t=>(do loadVar t (<-asAddr (a.tmps.getD d undef))):Sem (List aRA)).run C.P w=.ok vs w/\kP (C.env U J.heap w) xs vs
 |[],_,h=>by simp only[BC,bZ]at h;subst h;exact⟨[],rfl,rfl⟩
 |r::rs,xs,h=>by
  simp only[BC]at h;split at h
  ·rename_i x ys h1 h2;cases h;obtain⟨v,hv,rv⟩:=axr S h1;obtain⟨vs,hvs,rvs⟩:=akp S h2;refine⟨v::vs,?_,v,vs,rfl,rv,rvs⟩
   simp_all
  ·cases h
def QR(S:nF C U J a w){fn:Func}(h:Uf C.P J fn.results.toList=some x):∃v,(results fn a.tmps).run C.P w=.ok v w/\pm (C.env U J.heap w) x v:=by
 unfold Uf at h
 have key:∀xs,BC C.P J fn.results.toList=some xs->∃vs:List aRA,(results fn a.tmps).run C.P w=.ok (if hh:vs.toArray.size=1 then vs.toArray[0] else .tuple vs.toArray) w/\kP (C.env U J.heap w) xs vs:=by
  intro xs hx;obtain⟨vs,hvs,rvs⟩:=akp S hx;refine⟨vs,?_,rvs⟩;unfold results;rw[Array.mapM_eq_mapM_toList];simp only[Sem.run_bind,Sem.run_map,Sem.run_pure];generalize hq:Sem.run C.P (List.mapM _ fn.results.toList) w=q;have hq':q=.ok vs w:=by rw[<-hq];exact hvs
  subst hq';simp
 split at h
 ·grind [kP]
 ·rename_i xs sv hx;cases h;obtain⟨vs,hv,rl⟩:=key _ hx;refine⟨_,hv,?_⟩;have hlen:=rl.length
  have hn1: ¬ vs.toArray.size=1:=by
   intro h1;have h2:xs.length=1:=by simp at h1;omega
   match xs,h2 with
   |[y],_=>exact sv y rfl
  rw[dif_neg hn1];exact⟨vs.toArray,rfl,rl⟩
 ·cases h
end results
def amX{V:AV->Prop}(h:I5 P f azG V)(hs:qn args azG)(hn:uc 0 args):I5 P f args V:=by
 obtain⟨he,_,hc⟩:=h;exact⟨he,hn,fun C U w hP h0 hN hM vs hr=>hc C U w hP h0 hN hM vs (hs _ _ hr)⟩
def aFr(V:AV->Prop)(H:List j5):Option AV->Prop
 |some x=>(frz 0 H x).nb 0/\∃r,OB (frz 0 H x) r/\V r
 |none=>False
def aJn(P:aRD)(rs:List ResultVar)(V:AV->Prop):oo->jS->Prop
 |.normal,J=>J.df=[]/\aFr V J.heap (Uf P J rs)
 |.ret,J=>J.df=[]/\aFr V J.heap (Uf P J rs)
 |_,_=>False
def azH{fn:Func}{V:AV->Prop}(hf:P.funcs[f]? =some fn)(hb:fn.body=some c)(sv:(fn.name != "runtime.NumGoroutine")=true)(GH:uc 0 args)
 (h:awp P c (aJn P fn.results.toList V) {j9:=args++cx (fn.ntmps-args.length) .any,heap:=[]}):I5 P f args V:=by
 refine⟨?_,GH,fun C U w hP h0 hN hM vs hr=>?_⟩
 ·grind [xE]
 ·subst hP;refine(callsIn_wide (n:=0)).1 (callsIn_of_wp_marks hf hb trivial ?_);have hsz:vs.size=args.length:=by have:=hr.length;simpa using this
  have S:nF C U {j9:=args++cx (fn.ntmps-args.length) .any,heap:=[]} {tmps:=vs++ck (fn.ntmps-vs.size) undef,defers:=[]} w:=by
   refine {j9:=?_,defers:=tv.nil,om:=by simp,apart:=by simp,uh:=by simp,size:=by rw[h0];exact cj _,old:=fun b o _ _=>by rw[h0],n8:=fun b _ _=>by rw[h0],Cn:=by simp,wZ:=fun x _ _=>by rw[h0],rest:=by rw[h0];exact⟨rfl,rfl⟩,low:=⟨hN,cj _⟩,mA:=fun l hl=>by grind};simp only[cZ,di];refine hr.append ?_;rw[hsz];have:=kP.Fl (E:=C.env U [] w) (cx (fn.ntmps-args.length) undef);simpa using this
  refine wpIn_mono (yy (ro:=none) c _ U _ _ w (.inl rfl) h S) ?_;intro e a' w' hq
  have y9:∀U' J',nF C U' J' a' w'->J'.df=[]/\aFr V J'.heap (Uf C.P J' fn.results.toList)->
   LeavesInM cn 0 C.P fn a'.tmps (fun e w'=>∃r v U',V r/\e=.returned v/\pm (C.env U' [] w') r v/\w.heap.size<=w'.heap.size/\(∀b,b<w.heap.size->w'.heap[b]? =w.heap[b]?)/\
    (∀x,x.block<w.heap.size->w'.frozen? x=w.frozen? x)/\w'.output=w.output/\w'.os=w.os) a'.defers .returning w':=by
   intro U' J' S' ⟨hdf,Zs⟩;refine nF.aEr (by simp) hdf _ _ S' (fun w' S'=>?_);cases hx:Uf C.P J' fn.results.toList with
   |none=>rw[hx]at Zs;exact Zs.elim
   |some x=>
   rw[hx]at Zs;obtain⟨hn,r0,amM,hV⟩:=Zs;obtain⟨v,hv,rv⟩:=QR S' hx;refine⟨v,hv,_,v,U',hV,rfl,amM _ _ (by have:=aoQ S' (S'.aLr (by rw[<-S'.low.1];exact hN)) x v;rw[<-S'.low.1,hN]at this;exact this hn rv),?_,?_,?_,?_⟩
   ·rw[<-h0];exact S'.size
   ·intro b hb;rw[<-h0];exact S'.n8 b (by rw[h0];exact hb) (fun o=>hM b o)
   ·intro y hy;rw[<-h0];exact S'.wZ y (by rw[h0];exact hy) (fun o=>hM y.block o)
   ·rw[<-h0];exact S'.rest
  cases e with
  |normal=>obtain⟨U',J',S',hq⟩:=hq;exact y9 U' J' S' hq
  |ret=>obtain⟨U',J',S',hq⟩:=hq;exact y9 U' J' S' hq
  |exit id=>obtain⟨_,_,_,hq⟩:=hq;exact hq.elim
  |goto l=>obtain⟨_,_,_,hq⟩:=hq;exact hq.elim
  |panic chain=>obtain⟨_,_,_,_,_,hq,_⟩:=hq;exact hq.elim
  |outgrown=>exact hq.elim
section co

def Co1.sub(h:OB x y)(hn:y.nb n):Co1 H n x y:=.inl ⟨h,hn⟩
def Co.any:Co H n x .any:=.inl (.inl ⟨OB.any _,trivial⟩)
theorem Co.same(h:x.nb n):Co H n x x:=.inl (.inl ⟨OB.refl _,h⟩)
def Co.sub(h:OB x y)(hn:y.nb n):Co H n x y:=.inl (.inl ⟨h,hn⟩)
theorem Aq.nil:Aq H n [] []:=rfl
theorem Aq.cons{x y:AV}{xs ys:List AV}(h:Co H n x y)(hs:Aq H n xs ys):Aq H n (x::xs) (y::ys):=⟨y,ys,rfl,h,hs⟩
theorem CoH.nil{xs:List j5}:CoH H n xs []:=by cases xs<;>trivial
theorem Aq.same(h:uc n xs):Aq H n xs xs:=by
 induction xs with
 |nil=>rfl
 |cons x xs ih=>exact Aq.cons (Co.same h.1) (ih h.2)
end co
def VN{X:AV}(h:I5 P f azG (fun r=>r=X))(hs:Aq J.heap n args azG):BB P f args J (fun o H=>o=.ret X/\H=J.heap):=by
 obtain⟨he,hc⟩:=amK (J:=J) (K:=fun o H=>o=.ret X/\H=J.heap) h (fun r hr=>⟨by rw[hr],rfl⟩);exact⟨he,fun C U a w hP S vs hr=>hc C U a w hP S vs (Aq.aPw S hs hr)⟩
def stP:Option aRB->LoopState
 |none=>.ready
 |some _=>.done
theorem axs(c:Option aRB):stP c≠ .busy:=by cases c<;>simp [stP]
section
variable {C:qC}
def nF.aHg(S:nF C U J a w)(k:xI)(rec:Loop)(hs:kP (C.env U J.heap w) j9 rec.tmps.toList)
 (afT:rec.params=k.ps/\rec.assign=k.assign/\rec.body=k.body/\rec.state=.ready/\rec.pending=none/\rec.defers=w.heap.size):
 nF C (fun l=>if l=J.heap.length then .func (.yield (w.heap.size+1)) #[] #[] else U l) {J with heap:=J.heap++[.loop k j9 .ready 0]} a ((w.alloc (.deferred (some []))).alloc (.loop rec)):=by
 let U':Nat->aRA:=fun l=>if l=J.heap.length then .func (.yield (w.heap.size+1)) #[] #[] else U l
 let w':=(w.alloc (.deferred (some []))).alloc (.loop rec)
 have hφ:∀l,l<J.heap.length->U' l=U l:=fun l hl=>by grind
 have hφn:U' J.heap.length=.func (.yield (w.heap.size+1)) #[] #[]:=by simp [U']
 have hsz:w'.heap.size=w.heap.size+2:=by
  show(World.more (World.more w _) _).heap.size=_;rw[Vy,Vy]
 have hold:∀b,b<w.heap.size->w'.heap[b]? =w.heap[b]? :=by
  intro b hb;show(World.more (World.more w _) _).heap[b]? =_
  grind [yZ]
 have hD:w'.heap[w.heap.size]? =some (.deferred (some [])):=by
  show(World.more (World.more w _) _).heap[_]? =_
  grind [World.more]
 have hL:w'.heap[w.heap.size+1]? =some (.loop rec):=by
  have:=Jz (World.more w (.deferred (some []))) (.loop rec);rw[Vy]at this;exact this
 have n9:∀(l:Nat)(x:j5),(J.heap++[.loop k j9 .ready 0])[l]? =some x->(l<J.heap.length/\J.heap[l]? =some x)\/(l=J.heap.length/\x=.loop k j9 .ready 0):=by
  grind
 have ud:∀b o,b<w.heap.size->w'.cell? ⟨b,o,none⟩=w.cell? ⟨b,o,none⟩:=by
  grind [World.cell?]
 have GH:∀b,(j5.loop k j9 .ready 0).block (U' J.heap.length) b->w.heap.size<=b:=by
  intro b hb;rw[hφn]at hb;rcases hb with rfl|hb<;>omega
 have OC:∀b o,GJ U' (J.heap++[.loop k j9 .ready 0]) b o->w.heap.size<=b\/GJ U J.heap b o:=by
  rintro b o ⟨l,x,hx,hm⟩;rcases n9 l x hx with⟨hl,hx⟩|⟨rfl,rfl⟩
  ·rw[hφ l hl]at hm;exact .inr ⟨l,x,hx,hm⟩
  grind [j5.ot]
 have le:(C.env U J.heap w).Le J.heap.length (C.env U' (J.heap++[.loop k j9 .ready 0]) w'):=by
  refine qC.CU (by simp) (fun l hl=>⟨hφ l hl,by rw[cz hl]⟩) (fun b i u hm hc=>?_)
  grind [F6]
 have B1:tv C U' (J.heap++[.loop k j9 .ready 0]) w' J.df a.defers:=by
  refine S.defers.step le (fun b hb _=>hold b hb) (fun l x b hx hb=>?_)
  grind
 refine {j9:=kP.mono le _ _ (kP.nb _ _ S.j9) S.j9,defers:=B1,om:=?_,apart:=?_,uh:=?_,size:=by show _<=w'.heap.size;have:=S.size;omega,old:=?_,n8:=?_,Cn:=?_,wZ:=?_,rest:=S.rest,low:=⟨S.low.1,by have:=S.low.2;simp;omega⟩,mA:=?_}
 ·intro l x hx;show oP _ x (U' l);rcases n9 l x hx with⟨hl,hx⟩|⟨rfl,rfl⟩
  ·have r0:=S.om l x hx;rw[hφ l hl];exact oP.mono r0 le (fun b hb=>hold b (r0.qP hb))
  ·rw[hφn];exact⟨w.heap.size,rec,rfl,hL,hD,afT,kP.mono le _ _ (kP.nb _ _ hs) hs⟩
 ·intro l l' x x' b hx BA hb sK;have hb:x.block (U' l) b:=hb;have sK:x'.block (U' l') b:=sK;rcases n9 l x hx with⟨hl,hx⟩|⟨rfl,rfl⟩<;>rcases n9 l' x' BA with⟨hl',BA⟩|⟨rfl,rfl⟩
  ·rw[hφ l hl]at hb;rw[hφ l' hl']at sK;exact S.apart l l' x x' b hx BA hb sK
  ·rw[hφ l hl]at hb;have h1:=(S.om l x hx).qP hb
   grind [qC.env]
  ·rw[hφ l' hl']at sK;have h1:=(S.om l' x' BA).qP sK
   grind [qC.env]
  ·rfl
 ·intro l x b o hx hb;have hb:x.block (U' l) b:=hb;rcases n9 l x hx with⟨hl,hx⟩|⟨rfl,rfl⟩
  ·rw[hφ l hl]at hb;exact S.uh l x b o hx hb
  ·intro hA;have h1:=C.hA _ _ hA;have h2:=GH b hb;have:=S.size;omega
 ·intro b i hb hm;rw[ud b i (cc hb S.size)];exact S.old b i hb hm
 ·intro b hb hm;rw[hold b (cc hb S.size)];exact S.n8 b hb hm
 ·intro l x b o hx hm hb;have hm:x.Bk (U' l) b o:=hm;rcases n9 l x hx with⟨hl,hx⟩|⟨rfl,rfl⟩
  ·rw[hφ l hl]at hm;exact S.Cn l x b o hx hm hb
  ·have h2:=GH b (j5.ot hm);have:=S.size;omega
 ·intro x hx hm0;have h1:=xa (World.more w (.deferred (some []))) (.loop rec) (by intro c t lo hi h;cases h) x;have h2:=xa w (.deferred (some [])) (by intro c t lo hi h;cases h) x;exact(h1.trans h2).trans (S.wZ x hx hm0)
 ·intro l hl;have sJ:l<J.heap.length:=by have:=S.low;omega
  have:=S.mA l hl
  grind
def nF.axt(S:nF C U J a w){k:xI}{st':LoopState}{OM:Int}{rec:Loop}(hl:J.heap[l]? =some (.loop k j9 st uA))(hφ:U l= .func (.yield (D+1)) #[] #[])
 (hw:w.heap[D+1]? =some (.loop rec)):nF C U {J with heap:=J.heap.set l (.loop k j9 st' OM)} a (w.putObj (D+1) (.loop {rec with state:=st',pending:=pV k.js OM})):=by
 have sJ:l<J.heap.length:=(b9.1 hl).1;have aGY:=(dD.1 hw).1
 have n9:∀(j:Nat)(x:j5),(J.heap.set l (.loop k j9 st' OM))[j]? =some x->(j=l/\x=.loop k j9 st' OM)\/(j≠l/\J.heap[j]? =some x):=by
  grind
 have hbb:(j5.loop k j9 st uA).block (U l) (D+1):=by rw[hφ];exact .inl rfl
 have hmb:∀o,(j5.loop k j9 st uA).Bk (U l) (D+1) o:=by intro o;rw[hφ];exact .inl rfl
 have Ed:∀b,b≠D+1->(w.putObj (D+1) (.loop {rec with state:=st',pending:=pV k.js OM})).heap[b]? =w.heap[b]? :=fun b hb=>World.putObj_heap_other hb
 have ud:∀b o,(w.putObj (D+1) (.loop {rec with state:=st',pending:=pV k.js OM})).cell? ⟨b,o,none⟩=w.cell? ⟨b,o,none⟩:=by
  grind [World.cell?,World.putObj_heap_same]
 have I4:∀b,(j5.loop k j9 st' OM).block (U l) b->(j5.loop k j9 st uA).block (U l) b:=by intro b hb;rw[hφ]at hb ⊢;exact hb
 have azj:∀b o,(j5.loop k j9 st' OM).Bk (U l) b o->(j5.loop k j9 st uA).Bk (U l) b o:=by intro b o hb;rw[hφ]at hb ⊢;exact hb
 have OC:∀b o,GJ U (J.heap.set l (.loop k j9 st' OM)) b o->GJ U J.heap b o:=by
  rintro b o ⟨j,x,hx,hm⟩;rcases n9 j x hx with⟨rfl,rfl⟩|⟨_,hx⟩
  ·exact⟨j,_,hl,azj b o hm⟩
  ·exact⟨j,x,hx,hm⟩
 have hlen:∀j:Nat,mR (J.heap.set l (.loop k j9 st' OM))[j]? =mR J.heap[j]? :=by
  intro j;by_cases e:j=l
  ·subst e;rw[dM sJ,hl];rfl
  grind
 have hty:=aw8 (w':=w.putObj (D+1) (.loop {rec with state:=st',pending:=pV k.js OM})) hw (by intro c t fz h;cases h) Ed
 have le:(C.env U J.heap w).Le J.heap.length (C.env U (J.heap.set l (.loop k j9 st' OM)) (w.putObj (D+1) (.loop {rec with state:=st',pending:=pV k.js OM}))):=
  qC.CU (by simp) (fun j _=>⟨rfl,hlen j⟩) (fun b o u hm hc=>⟨fun h=>hm (h.imp (OC b o) id),by rw[ud];exact hc⟩)
 have B1:tv C U (J.heap.set l (.loop k j9 st' OM)) (w.putObj (D+1) (.loop {rec with state:=st',pending:=pV k.js OM})) J.df a.defers:=by
  refine S.defers.step le (fun b _ hno=>Ed b (fun e=>by subst e;exact hno l _ hl hbb)) (fun j x b hx hb=>?_)
  grind
 refine {j9:=kP.mono le _ _ (kP.nb _ _ S.j9) S.j9,defers:=B1,om:=?_,apart:=?_,uh:=?_,size:=by rw[World.putObj_size];exact S.size,old:=fun b o hb hm=>by rw[ud];exact S.old b o hb hm,n8:=?_,Cn:=?_,wZ:=?_,rest:=S.rest,low:=⟨S.low.1,by simpa using S.low.2⟩,mA:=?_}
 ·intro j x hx;rcases n9 j x hx with⟨rfl,rfl⟩|⟨sv,hx⟩
  ·obtain⟨D',agU,e1,g1,g2,g3,rl⟩:=S.om j _ hl;rw[hφ]at e1;simp only[dr,Fn.yield.injEq,cO,and_true]at e1;subst e1
   have hwr:agU=rec:=by
    have g1:w.heap[D+1]? =some (.loop agU):=g1;rw[hw]at g1;cases g1;rfl
   subst hwr;refine⟨D,_,hφ,World.putObj_heap_same aGY,?_,⟨g3.1,g3.2.1,g3.2.2.1,rfl,rfl,g3.2.2.2.2.2⟩,kP.mono le _ _ (kP.nb _ _ rl) rl⟩;show(w.putObj (D+1) _).heap[D]? =_;rw[Ed D (by omega)];exact g2
  ·exact oP.mono (S.om j x hx) le (fun b hb=>Ed b (fun e=>by subst e;exact sv (S.apart j l x _ (D+1) hx hl hb hbb)))
 ·intro j j' x x' b hx BA hb sK;rcases n9 j x hx with⟨rfl,rfl⟩|⟨sv,Zp⟩<;>rcases n9 j' x' BA with⟨e2,rfl⟩|⟨auG,aQK⟩
  ·exact e2.symm
  ·exact S.apart j j' _ x' b hl aQK (I4 b hb) sK
  ·rw[e2]at sK ⊢;exact S.apart j l x _ b Zp hl hb (I4 b sK)
  ·exact S.apart j j' x x' b Zp aQK hb sK
 ·intro j x b o hx hb;rcases n9 j x hx with⟨rfl,rfl⟩|⟨_,hx⟩
  ·exact S.uh j _ b o hl (I4 b hb)
  ·exact S.uh j x b o hx hb
 ·intro b hb hm;rw[Ed b (fun e=>by subst e;exact hm 0 (S.Cn l _ (D+1) 0 hl (hmb 0) hb))];exact S.n8 b hb hm
 ·intro j x b o hx hm hb;rcases n9 j x hx with⟨rfl,rfl⟩|⟨_,hx⟩
  ·exact S.Cn j _ b o hl (azj b o hm) hb
  ·exact S.Cn j x b o hx hm hb
 ·intro x hx hm0;rw[<-S.wZ x hx hm0]
  grind [World.frozen?,World.putObj_heap_same]
 ·intro j hj;have:=S.mA j hj;rw[hlen j];exact this
def nF.endLoop(S:nF C U J a w){k:xI}(hl:J.heap[l]? =some (.loop k j9 st uA))(hφ:U l= .func (.yield (D+1)) #[] #[])(hD:C.w0.heap.size<=D):
 nF C U {J with heap:=J.heap.set l .vZ} {a with defers:=⟨.collected D,#[]⟩::a.defers} w:=by
 have sJ:l<J.heap.length:=(b9.1 hl).1;have JB:C.N0<=l\/l<C.N0:=by omega
 have aNJ:∀b o,GJ U (J.heap.set l .vZ) b o->GJ U J.heap b o:=by
  rintro b o ⟨j,x,hx,hm⟩;by_cases e:j=l
  ·grind [j5.Bk]
  ·rw[dx (fun h=>e h.symm)]at hx;exact⟨j,x,hx,hm⟩
 have n9:∀(j:Nat)(x:j5),(J.heap.set l .vZ)[j]? =some x->(j=l/\x=.vZ)\/(j≠l/\J.heap[j]? =some x):=by
  grind
 have hlen:∀j:Nat,mR (J.heap.set l .vZ)[j]? =mR J.heap[j]? :=by
  intro j;by_cases e:j=l
  ·subst e;rw[dM sJ,hl];rfl
  grind
 have le:(C.env U J.heap w).Le J.heap.length (C.env U (J.heap.set l .vZ) w):=
  qC.CU (by simp) (fun j _=>⟨rfl,hlen j⟩) (fun b o u hm hc=>⟨fun h=>hm (h.imp (aNJ b o) id),hc⟩)
 have hbD:(j5.loop k j9 st uA).block (U l) D:=by rw[hφ];exact .inr rfl
 have B1:tv C U (J.heap.set l .vZ) w J.df (⟨.collected D,#[]⟩::a.defers):=by
  obtain⟨hnd,aJl,hrd⟩:=S.defers;have hmk:amz (⟨.collected D,#[]⟩:Deferred)=true:=rfl;refine⟨?_,fun d hd hm=>?_,?_⟩
  ·grind
  ·rcases cH.1 hd with rfl|hd
   ·refine⟨D,rfl,?_,hD,fun j x hx hb=>?_⟩
    ·obtain⟨D',agU,e1,g1,g2,_⟩:=S.om l _ hl;rw[hφ]at e1;simp only[dr,Fn.yield.injEq,cO,and_true]at e1;subst e1;exact g2
    ·rcases n9 j x hx with⟨rfl,rfl⟩|⟨sv,hx⟩
     ·simp [j5.block]at hb
     ·exact sv (S.apart j l x _ D hx hl hb hbD)
   grind [j5.block]
  ·simp only[dJ,hmk,Bool.not_true,db,if_false];exact hrd.mono le
 refine {j9:=kP.mono le _ _ (kP.nb _ _ S.j9) S.j9,defers:=B1,om:=?_,apart:=?_,uh:=?_,size:=S.size,old:=S.old,n8:=S.n8,Cn:=?_,wZ:=S.wZ,rest:=S.rest,low:=⟨S.low.1,by simpa using S.low.2⟩,mA:=?_}
 ·intro j x hx;rcases n9 j x hx with⟨rfl,rfl⟩|⟨_,hx⟩
  ·trivial
  ·exact oP.mono (S.om j x hx) le (fun _ _=>rfl)
 ·intro j j' x x' b hx BA hb sK;rcases n9 j x hx with⟨rfl,rfl⟩|⟨_,hx⟩
  ·simp [j5.block]at hb
  ·rcases n9 j' x' BA with⟨rfl,rfl⟩|⟨_,BA⟩
   ·simp [j5.block]at sK
   ·exact S.apart j j' x x' b hx BA hb sK
 ·intro j x b o hx hb;rcases n9 j x hx with⟨rfl,rfl⟩|⟨_,hx⟩
  ·simp [j5.block]at hb
  ·exact S.uh j x b o hx hb
 ·intro j x b o hx hm hb;rcases n9 j x hx with⟨rfl,rfl⟩|⟨_,hx⟩
  ·simp [j5.Bk]at hm
  ·exact S.Cn j x b o hx hm hb
 ·intro j hj;have:=S.mA j hj;rw[hlen j];exact this
def aNK(Q:oo->jS->Prop)(J:jS):Option aRB->Prop
 |none=>Q .normal J
 |some .ret=>Q .ret J
 |some (.exit id)=>Q (.exit id) J
 |_=>False
def azI{g:aRF}{ps:Array Tmp}{aRs body:aRB}{js:List (Int×aRB)}{first cap:List AV}(hg:J.ev g= .func (.func f) first cap)
 (xK:BB P f (first++[.map J.heap.length]++cap) {J with j9:=J.j9++[.map J.heap.length],heap:=J.heap++[.loop ⟨ps,aRs,body,js⟩ J.j9 .ready 0]}
   (fun o H'=>∃r k s uA,o=.ret r/\H'[J.heap.length]? =some (.loop k s (stP (pV k.js uA)) uA)/\aNK Q {J with heap:=H'.set J.heap.length .vZ} (pV k.js uA))):aHe P g ps aRs body Q J:=by
 intro C U a w hP S;subst hP;refine wpIn_rangeFunc ?_;intro fn _;have hx:=S.ev g;rw[hg]at hx;obtain⟨f',c',hx,rf,rc⟩:=hx
 let lp:Loop:={state:=.ready,pending:=none,fn,tmps:=a.tmps,params:=ps,assign:=aRs,body,defers:=w.heap.size}
 let w1:=(w.alloc (.deferred (some []))).alloc (.loop lp)
 let aQU:aRA:=.func (.yield (w.heap.size+1)) #[] #[]
 have S1:=S.aHg ⟨ps,aRs,body,js⟩ lp S.j9 ⟨rfl,rfl,rfl,rfl,rfl,rfl⟩
 have rY:pm (C.env (fun l=>if l=J.heap.length then aQU else U l) (J.heap++[.loop ⟨ps,aRs,body,js⟩ J.j9 .ready 0]) w1) (.map J.heap.length) aQU:=by
  refine⟨by simp [qC.env],by simp [qC.env,aQU],w.heap.size+1,?_⟩;simp [qC.env,aQU,hdl]
 have S2:nF C (fun l=>if l=J.heap.length then aQU else U l) {J with j9:=J.j9++[.map J.heap.length],heap:=J.heap++[.loop ⟨ps,aRs,body,js⟩ J.j9 .ready 0]} {a with tmps:=a.tmps.push aQU} w1:=by
  refine {S1 with j9:=?_,defers:=S1.defers};simp only[cK];exact S1.j9.append ⟨aQU,[],rfl,rY,rfl⟩
 have hle:(C.env U J.heap w).Le J.heap.length (C.env (fun l=>if l=J.heap.length then aQU else U l) (J.heap++[.loop ⟨ps,aRs,body,js⟩ J.j9 .ready 0]) w1):=by
  refine qC.CU (ht:=(amy _ rfl).trans (amy _ rfl)) (by simp) (fun l hl=>⟨by rw[if_neg (by omega)],by rw[cz hl]⟩) (fun b i u hm hc=>?_);have hb:=F6 hc
  have hold:w1.heap[b]? =w.heap[b]? :=by
   show(World.more (World.more w _) _).heap[b]? =_
   grind [World.more]
  refine⟨fun h=>?_,by grind [World.cell?]⟩;rcases h with⟨l,x,hx,hm'⟩|h
  ·by_cases hl:l<J.heap.length
   ·rw[cz hl]at hx;have hm':x.Bk (if l=J.heap.length then aQU else U l) b i:=hm';rw[if_neg (by omega)]at hm';exact hm (.inl ⟨l,x,hx,hm'⟩)
   ·have hl':l=J.heap.length:=by
     grind
    subst hl';simp at hx;subst hx;have hm':(j5.loop ⟨ps,aRs,body,js⟩ J.j9 .ready 0).Bk (if J.heap.length=J.heap.length then aQU else U J.heap.length) b i:=hm';rw[if_pos rfl]at hm';rcases hm' with rfl|h<;>omega
  ·exact hm (.inr h)
 have Ye:kP (C.env (fun l=>if l=J.heap.length then aQU else U l) (J.heap++[.loop ⟨ps,aRs,body,js⟩ J.j9 .ready 0]) w1) (first++[.map J.heap.length]++cap) (f'++ #[aQU]++c').toList:=by
  have hY:kP (C.env (fun l=>if l=J.heap.length then aQU else U l) (J.heap++[.loop ⟨ps,aRs,body,js⟩ J.j9 .ready 0]) w1) [.map J.heap.length] [aQU]:=⟨aQU,[],rfl,rY,rfl⟩;simp only[cZ];exact((kP.mono hle _ _ (kP.nb _ _ rf) rf).append hY).append (kP.mono hle _ _ (kP.nb _ _ rc) rc)
 obtain⟨he,hc⟩:=xK
 have ON: ∃fnc,C.P.funcs[f]? =some fnc/\fnc.name≠ "runtime.NumGoroutine" /\fnc.body≠none:=by
  grind [xE]
 obtain⟨fnc,hf,aNL,awb⟩:=ON;refine⟨w.heap.size+1,[⟨.collected w.heap.size,#[]⟩],w1,{target:=.fn (.func f) c',args:=f'++ #[aQU]},w1,f,f'++ #[aQU]++c',w1,?_,?_,fun _ _=>trivial,?_,fun h=>by simp [GK,cn]at h,?_⟩
 ·exact run_enterLoop_outer _ _ _ _ _
 ·have hev:a.eval g=.func (.func f) f' c':=hx;have hY2:a.eval (.const aQU)=aQU:=rfl;simp [resolve,hev,Deferred.ofValue];rfl
 ·simp [invoke,callFunc,hf,aNL,awb]
 ·refine Lc.2 ((hc C _ _ w1 rfl S2 _ Ye).mono ?_);rintro e w' ⟨o,U2,H',⟨r,k,s,uA,rfl,hH,hj⟩,S3,tD⟩;cases e with
  |panicked chain=>exact tD.elim
  |outgrown=>exact tD.elim
  |returned v=>
   have aHh:U2 J.heap.length=aQU:=by
    have hsl:=S3.j9;have hlen:a.tmps.toList.length=J.j9.length:=S.j9.length;have:=hsl.drop J.j9.length;simp only[cK]at this;rw[cU rfl,cU hlen]at this;obtain⟨u,us,he2,r1,_⟩:=this;simp only[cC]at he2;obtain⟨rfl,_⟩:=he2;exact r1.2.1.symm
   have S4:nF C U2 {J with heap:=H'} a w':=by
    have hsl:=S3.j9;have hlen:a.tmps.toList.length=J.j9.length:=S.j9.length;have:=hsl.take J.j9.length;simp only[cK]at this;rw[cT rfl,cT hlen]at this;exact {S3 with j9:=this,defers:=S3.defers}
   obtain⟨D,agU,e1,g1,g2,g3,_⟩:=S4.om _ _ hH;rw[aHh]at e1;simp only[aQU,dr,Fn.yield.injEq,cO,and_true]at e1;subst e1;have g1:w'.heap[w.heap.size+1]? =some (.loop agU):=g1;have Zs:=run_endLoop (P:=C.P) g1 (by grind [axs]);rw[g3.2.2.2.2.1]at Zs;refine⟨pV k.js uA,_,Zs,?_⟩
   have S5:nF C U2 {J with heap:=H'.set J.heap.length .vZ} {a with defers:=⟨.collected w.heap.size,#[]⟩::a.defers} (w'.putObj (w.heap.size+1) (.loop {agU with state:=.exhausted,pending:=pV k.js uA})):=by
    have h5:=S4.axt (st':=.exhausted) (OM:=uA) hH aHh g1
    have h6:=h5.endLoop (l:=J.heap.length) (D:=w.heap.size) (k:=k) (j9:=s) (st:=.exhausted) (uA:=uA) (by
     grind) aHh S.size
    simp_all
   generalize pV k.js uA=pc at*;cases pc with
   |none=>exact⟨U2,_,S5,hj⟩
   |some c=>
    cases c with
    |ret=>exact wpIn_ret ⟨U2,_,S5,hj⟩
    |exit id=>exact wpIn_exit ⟨U2,_,S5,hj⟩
    |_=>exact hj.elim
end
inductive CO where
 |ret (e:vF)
 |pan (x:AV) (H:List j5)
structure kK(R:Type) where
 P:aRD
 body:aRB
 cl:aRC->List AV->List j5->Option (AV×List j5)
 cd:aRC->List AV->Option AV
 qj:List Nat->jS->Option jS
 cut:List Nat->jS->Option jS
 n:Nat
 out:jS->Option R
 cy:Nat->List AV->List j5->Option (AV×List j5):=fun _ _ _=>none
 l1:oo->jS->Option R:=fun _ _=>none
 js:List Nat->List (Int×aRB):=fun _=>[]
 uC:aRC->Bool:=fun _=>false
 ce:aRC->List AV->List j5->Option vF:=fun _ _ _=>none
 wx:aRC->Bool:=fun _=>false
 cp:aRC->List AV->List j5->Option (vu×List j5):=fun _ _ _=>none
 uz:aRC->Bool:=fun _=>false
 co:aRC->List AV->List j5->Option CO:=fun _ _ _=>none
 rk:AV->jS->Option R:=fun _ _=>none
def nX(p:Prop)(x:Option R):Option R:= @ite _ p (Classical.propDecidable p) x none
theorem mX{x:Option R}{r:R}:nX p x=some r↔p/\x=some r:=by
 grind [nX]
def aCk{x:Option R}:nX True x=x:=by simp [nX]
theorem ajD {q:Prop}{x:Option R}:nX (p/\q) x=nX p (nX q x):=by
 grind [nX]
def awj[Decidable p]{x:Option R}:nX p x=bif decide p then x else none:=by
 grind [nX]
def aso(x:aRF)(b:Bool)(J:jS):jS:=
 match x with
 |.tmp t=>{J with j9:=J.j9.set t (.bool b)}
 |_=>J
def aEs{x:aRF}(h:J.ev x=.bool b):aso x b J=J:=by
 cases x with
 |tmp t=>
  simp only[jS.ev,List.getD]at h;cases hg:J.j9[t]? with
  |none=>rw[hg]at h;simp at h
  |some v=>
   rw[hg]at h;simp only[dm]at h;subst h;obtain⟨sJ,he⟩:=b9.1 hg;simp only[aso];rw[<-he,dN]
 |_=>rfl
def wq(kE:Array aRz)(o:aRz)(b:Bool)(J:jS):jS:=
 match o.guard with
 |none=>J
 |some (j,want)=>match (kE[j]?).bind (·.dst)with
  |some d=>match J.j9[d]? with
   |some (.bool _)=>{J with j9:=J.j9.set d (.bool (b==want))}
   |_=>J
  |none=>J
def axu(h:qG kE o J=some b):wq kE o b J=J:=by
 unfold qG at h;unfold wq;split
 ·rfl
 ·rename_i j want hg;simp only[hg]at h;split
  ·rename_i d hd;simp only[hd]at h;split
   ·rename_i c hc;simp only[hc,bZ]at h;have:(b==want)=c:=by subst h;cases c<;>cases want<;>rfl
    rw[this];obtain⟨sJ,he⟩:=b9.1 hc;rw[<-he,dN]
   ·rfl
  ·rfl
section

def vW (M:kK R) (kE:Array aRz):List aRz->jS->Option (oo×jS)
 |[],J=>some (.normal,J)
 |o::rest,J=>match qG kE o J with
  |none=>none
  |some b=>bif b then (match nT (wq kE o true J) o.op with
    |some (f,args)=>bif M.wx f then(match M.cp f args (wq kE o true J).heap with
      |some (.ret r,H')=>vW M kE rest (jS.put {wq kE o true J with heap:=H'} o.dst r)
      |some (.panic x,H')=>some (.panic x,{wq kE o true J with heap:=H'})
      |none=>none)
     else match M.cl f args (wq kE o true J).heap with
     |some (r,H')=>vW M kE rest (jS.put {wq kE o true J with heap:=H'} o.dst r)
     |none=>none
    |none=>match Ig (wq kE o true J) o.op with
     |some (l,args)=>match M.cy l args (wq kE o true J).heap with
      |some (r,H')=>vW M kE rest (jS.put {wq kE o true J with heap:=H'} o.dst r)
      |none=>none
     |none=>match lG M.P (wq kE o true J) o.op with
      |some e=>nX e.pre (vW M kE rest ((wq kE o true J).app o.dst e))
      |none=>match Ih (wq kE o true J) o.op with
       |some p=>vW M kE rest ((wq kE o true J).dfr p o.dst)
       |none=>match aa4 (wq kE o true J) o.op with
        |some x=>some (.panic x,wq kE o true J)
        |none=>none)
   else vW M kE rest ((wq kE o false J).put o.dst (.sV undef))
def Ms (M:kK R) (kE:Array aRz):List aRz->Nat->List Tr->jS->Option (oo×jS)
 |[],_,_,J=>some (.normal,J)
 |o::rest,j,tr,J=>match qG kE o J with
  |none=>none
  |some b=>bif b then(match nT (wq kE o true J) o.op with
    |some (f,args)=>bif M.uz f then(match M.co f args (wq kE o true J).heap with
      |some (.ret e)=>nX (e.pre/\adj kE tr j e) (Ms M kE rest (j+1) (PT tr j (wq kE o true J).heap.length e) ((wq kE o true J).app o.dst e))
      |some (.pan x H')=>nX (azC kE j=true\/(VM tr=true/\aba M.P kE j rest (j+1) ((wq kE o true J).put o.dst (.sV undef)))) (some (.panic x,{wq kE o true J with j9:=adi kE (wq kE o true J).j9,heap:=H'}))
      |none=>none)
     else bif M.uC f then(match M.ce f args (wq kE o true J).heap with
      |some e=>nX (e.pre/\adj kE tr j e) (Ms M kE rest (j+1) (PT tr j (wq kE o true J).heap.length e) ((wq kE o true J).app o.dst e))
      |none=>none)
     else match M.cd f args with
     |some r=>Ms M kE rest (j+1) tr ((wq kE o true J).put o.dst r)
     |none=>none
    |none=>match lG M.P (wq kE o true J) o.op with
     |some e=>nX (e.pre/\adj kE tr j e) (Ms M kE rest (j+1) (PT tr j (wq kE o true J).heap.length e) ((wq kE o true J).app o.dst e))
     |none=>none)
   else Ms M kE rest (j+1) tr ((wq kE o false J).put o.dst (.sV undef))
def lqN(qj:jS->Option jS)(body:jS->Option (oo×jS)):Nat->jS->Option (oo×jS)
 |0,_=>none
 |m+1,J=>match body J with
  |some (.normal,J')=>(qj J').bind (lqN qj body m)
  |r=>r
def azJ(J:jS):Option aRB->Option (oo×jS)
 |none=>some (.normal,J)
 |some .ret=>some (.ret,J)
 |some (.exit id)=>some (.exit id,J)
 |_=>none
def aJo(J:jS)(H':List j5):Option j5->Option (oo×jS)
 |some (.loop lk _ st uA)=>nX (st=stP (pV lk.js uA)) (azJ {J with heap:=H'.set J.heap.length .vZ} (pV lk.js uA))
 |_=>none
def aHi(M:kK R)(lk:xI)(J:jS):AV->Option (oo×jS)
 | .func (.func f) first cap=>match M.cl f (first++[.map J.heap.length]++cap) (J.heap++[.loop lk J.j9 .ready 0]) with
   |some (_,H')=>aJo J H' H'[J.heap.length]?
   |none=>none
 |_=>none
def exec(M:kK R):aRB->List Nat->jS->Option (oo×jS)
 |.skip,_,J=>some (.normal,J)
 |.region _ kE false,_,J=>vW M kE kE.toList J
 |.region _ kE true,_,J=>nX (M.P.follows .mixedOrders=true/\KL kE=true) (Ms M kE kE.toList 0 [] J)
 | .seq x y,p,J=>match exec M x (0::p) J with
   |some (.normal,J')=>(M.cut (1::p) J').bind (exec M y (1::p))
   |r=>r
 | .cond c x y,p,J=>match J.ev c with
   |.bool b=>bif b then exec M x (0::p) (aso c true J)else exec M y (1::p) (aso c false J)
   |_=>none
 | .block id x,p,J=>match exec M x (0::p) J with
   |some (.exit id',J')=>if id'=id then some (.normal,J')else some (.exit id',J')
   |r=>r
 |.loop x,p,J=>(M.qj p J).bind (lqN (M.qj p) (exec M x (0::p)) M.n)
 |.exit id,_,J=>some (.exit id,J)
 |.scope x,p,J=>exec M x (0::p) J
 |.label _,_,J=>some (.normal,J)
 |.ret,_,J=>some (.ret,J)
 |.goto _,_,_=>none
 |.rangeFunc g ps aRs body,p,J=>aHi M ⟨ps,aRs,body,M.js p⟩ J (J.ev g)
 |.refuse _,_,_=>none
structure Fw(M:kK R):Prop where
 cl:∀f args J r H',M.cl f args J.heap=some (r,H')->BB M.P f args J (fun o F7=>o=.ret r/\F7=H')
 cd:∀f args r,M.cd f args=some r->I5 M.P f args (fun v=>v=r)
 qj:∀p J J',M.qj p J=some J'->Lb J J'
 cut:∀p J J',M.cut p J=some J'->Lb J J'
 cy:∀l args J r H',M.cy l args J.heap=some (r,H')->PP M.P l args J (fun o F7=>o=.ret r/\F7=H')
 ce:∀f args J e,M.ce f args J.heap=some e->IF M.P f args J e
 cp:∀f args J o H',M.cp f args J.heap=some (o,H')->BB M.P f args J (fun o' F7=>o'=o/\F7=H')
 co:∀f args J,(∀e,M.co f args J.heap=some (.ret e)->IF M.P f args J e)/\∀x H',M.co f args J.heap=some (.pan x H')->asj M.P f args J.heap x H'
def sA:∀(f:aRC)(args:List AV)(J:jS)(o:vu)(H':List j5),(fun _ _ _=>none:aRC->List AV->List j5->Option (vu×List j5)) f args J.heap=some (o,H')->BB P f args J (fun o' F7=>o'=o/\F7=H'):=by
 intro f args J o H' h;cases h
def rX:∀(f:aRC)(args:List AV)(J:jS),(∀e,(fun _ _ _=>none:aRC->List AV->List j5->Option CO) f args J.heap=some (.ret e)->IF P f args J e)/\∀x H',(fun _ _ _=>none:aRC->List AV->List j5->Option CO) f args J.heap=some (.pan x H')->asj P f args J.heap x H':=by
 grind
def BB.mono {K':vu->List j5->Prop}(h:BB P f args J K)(hk:∀o H,K o H->K' o H):BB P f args J K':=by
 obtain⟨he,hc⟩:=h;refine⟨he,fun C U a w hP S vs hr=>(hc C U a w hP S vs hr).mono ?_⟩
 grind
def PP.mono {K':vu->List j5->Prop}(h:PP P l args J K)(hk:∀o H,K o H->K' o H):PP P l args J K':=by
 obtain⟨he,hc⟩:=h;refine⟨he,fun C U a w hP S vs hr D rec h1 h2=>(hc C U a w hP S vs hr D rec h1 h2).mono ?_⟩
 grind
def rK:∀(l:Nat)(args:List AV)(J:jS)(r:AV)(H':List j5),(fun _ _ _=>none:Nat->List AV->List j5->Option (AV×List j5)) l args J.heap=some (r,H')->PP P l args J (fun o F7=>o=.ret r/\F7=H'):=by
 intro l args J r H' h;cases h
def B2 {M:kK R} (G:Fw M) {kE:Array aRz} {Q:oo->jS->Prop}: ∀ (rest:List aRz) (J J':jS) (e:oo),vW M kE rest J=some (e,J')->Q e J'->Zq M.P kE rest Q J
 |[],J,J',e,h,hq=>by simp only[vW,bZ,cf]at h;obtain⟨rfl,rfl⟩:=h;exact hq
 |o::rest,J,J',en,h,hq=>by
  simp only[vW]at h;simp only[Zq];cases hw:qG kE o J with
  |none=>simp only[hw]at h;cases h
  |some b=>
   simp only[hw]at h;have hg:=axu hw;cases b with
   |false=>
    refine⟨fun h=>(by cases h),fun _=>?_⟩;simp only[jF,hg]at h;exact B2 G rest _ J' _ h hq
   |true=>
    refine⟨fun _=>?_,fun h=>by cases h⟩;simp only[jE,hg]at h;cases hc:nT J o.op with
    |some p=>
     obtain⟨f,args⟩:=p;simp only[hc]at h ⊢;cases hi:M.wx f with
     |true=>
      simp only[hi,jE]at h;cases ha:M.cp f args J.heap with
      |none=>simp only[ha]at h;cases h
      |some q=>
       obtain⟨r,H'⟩:=q;refine(G.cp f args J r H' ha).mono ?_;cases r with
       |ret r=>
        simp only[ha]at h;rintro o' F7 ⟨rfl,rfl⟩;exact B2 G rest _ J' _ h hq
       |panic x=>
        grind
     |false=>
      simp only[hi,jF]at h;cases ha:M.cl f args J.heap with
      |none=>simp only[ha]at h;cases h
      |some q=>
       obtain⟨r,H'⟩:=q;simp only[ha]at h;refine(G.cl f args J r H' ha).mono ?_;rintro o' F7 ⟨rfl,rfl⟩;exact B2 G rest _ J' _ h hq
    |none=>
     simp only[hc]at h ⊢;cases hy:Ig J o.op with
     |some p=>
      obtain⟨l,args⟩:=p;simp only[hy]at h ⊢;cases ha:M.cy l args J.heap with
      |none=>simp only[ha]at h;cases h
      |some q=>
       obtain⟨r,H'⟩:=q;simp only[ha]at h;refine(G.cy l args J r H' ha).mono ?_;rintro o' F7 ⟨rfl,rfl⟩;exact B2 G rest _ J' _ h hq
     |none=>
      simp only[hy]at h ⊢;cases he:lG M.P J o.op with
      |none=>
       simp only[he]at h ⊢;cases hd:Ih J o.op with
       |some p=>
        simp only[hd]at h ⊢;exact B2 G rest _ J' _ h hq
       |none=>
        grind
      |some e=>
       simp only[he]at h;rw[mX]at h;exact⟨h.1,B2 G rest _ J' _ h.2 hq⟩
def Lh {M:kK R} (G:Fw M) {kE:Array aRz} {Q:oo->jS->Prop}: ∀ (rest:List aRz) (j:Nat) (tr:List Tr) (J J':jS) (e:oo),Ms M kE rest j tr J=some (e,J')->Q e J'->amU M.P kE Q rest j tr J
 |[],_,_,J,J',e,h,hq=>by simp only[Ms,bZ,cf]at h;obtain⟨rfl,rfl⟩:=h;exact hq
 |o::rest,j,tr,J,J',en,h,hq=>by
  simp only[Ms]at h;simp only[amU];cases hw:qG kE o J with
  |none=>simp only[hw]at h;cases h
  |some b=>
   simp only[hw]at h;have hg:=axu hw;cases b with
   |false=>
    refine⟨fun h=>(by cases h),fun _=>?_⟩;simp only[jF,hg]at h;exact Lh G rest _ _ _ J' _ h hq
   |true=>
    refine⟨fun _=>?_,fun h=>(by cases h)⟩;simp only[jE,hg]at h;cases hc:nT J o.op with
    |some p=>
     obtain⟨f,args⟩:=p;simp only[hc]at h ⊢;cases hic:M.uz f with
     |true=>
      simp only[hic,jE]at h;cases ha:M.co f args J.heap with
      |none=>simp only[ha]at h;cases h
      |some q=>
       cases q with
       |ret e=>
        simp only[ha]at h;rw[mX]at h;exact .inr (.inl ⟨e,(G.co f args J).1 e ha,h.1.2,Lh G rest _ _ _ J' _ h.2 hq⟩)
       |pan x H'=>
        simp only[ha]at h;rw[mX]at h;obtain⟨h1,h⟩:=h;simp only[bZ,cf]at h;obtain⟨rfl,rfl⟩:=h;exact .inr (.inr ⟨x,H',(G.co f args J).2 x H' ha,h1,hq⟩)
     |false=>
     simp only[hic,jF]at h;cases hi:M.uC f with
     |true=>
      simp only[hi,jE]at h;cases ha:M.ce f args J.heap with
      |none=>simp only[ha]at h;cases h
      |some e=>
       simp only[ha]at h;rw[mX]at h;exact .inr (.inl ⟨e,G.ce f args J e ha,h.1.2,Lh G rest _ _ _ J' _ h.2 hq⟩)
     |false=>
     simp only[hi,jF]at h;cases ha:M.cd f args with
     |none=>simp only[ha]at h;cases h
     |some r=>
      simp only[ha]at h;exact .inl ⟨r,G.cd f args r ha,Lh G rest _ _ _ J' _ h hq⟩
    |none=>
     simp only[hc]at h ⊢;cases he:lG M.P J o.op with
     |none=>simp only[he]at h;cases h
     |some e=>
      simp only[he]at h;rw[mX]at h;exact⟨h.1.1,h.1.2,Lh G rest _ _ _ J' _ h.2 hq⟩
def asp{qj:jS->Option jS}{body:jS->Option (oo×jS)}(hb: ∀J l J',body J≠some (.goto l,J')): ∀(m:Nat)(J:jS)(l:Nat)(J':jS),lqN qj body m J≠some (.goto l,J')
 |0,_,_,_=>by simp [lqN]
 |m+1,J,l,J'=>by
  intro h;simp only[lqN]at h;cases hx:body J with
  |none=>simp only[hx]at h;cases h
  |some r=>
   obtain⟨e1,J1⟩:=r;cases e1 with
   |normal=>
    simp only[hx]at h;cases hn:qj J1 with
    |none=>grind
    |some J2=>simp only[hn,cP]at h;exact asp hb m J2 l J' h
   |goto l'=>exact hb _ _ _ hx
   |_=>grind
theorem aCl{M:kK R}:∀(rest:List aRz)(J:jS)(l:Nat)(J':jS),vW M kE rest J≠some (.goto l,J'):=by
 intro rest;induction rest with
 |nil=>grind [vW]
 |cons o rest ih=>
  intro J l J' h;simp only[vW]at h
  grind [mX]
theorem aHj{M:kK R}:∀(rest:List aRz)(j:Nat)(tr:List Tr)(J:jS)(l:Nat)(J':jS),Ms M kE rest j tr J≠some (.goto l,J'):=by
 intro rest;induction rest with
 |nil=>grind [Ms]
 |cons o rest ih=>
  grind [Ms,mX]
theorem aHk{c:Option aRB}:azJ J c≠some (.goto l,J'):=by
 intro h;unfold azJ at h;split at h<;>simp at h
def aJp{M:kK R}{lk:xI}:aHi M lk J v≠some (.goto l,J'):=by
 intro h;unfold aHi at h;split at h
 ·split at h
  ·unfold aJo at h
   grind [mX,aHk]
  ·cases h
 ·cases h
theorem Yf(M:kK R):∀(c:aRB)(p:List Nat)(J:jS)(l:Nat)(J':jS),exec M c p J≠some (.goto l,J')
 |.skip,_,_,_,_=>by simp [exec]
 |.label _,_,_,_,_=>by simp [exec]
 |.ret,_,_,_,_=>by simp [exec]
 |.exit id,_,_,_,_=>by simp [exec]
 |.region _ kE false,_,_,_,_=>by grind [exec,aCl]
 | .region _ kE true,_,_,_,_=>by
   grind [exec,mX,aHj]
 | .seq x y,p,J,l,J'=>by
   intro h;simp only[exec]at h;cases hx:exec M x (0::p) J with
   |none=>simp only[hx]at h;cases h
   |some r=>
    obtain⟨e1,J1⟩:=r;cases e1 with
    |normal=>
     simp only[hx]at h;cases hc:M.cut (1::p) J1 with
     |none=>grind
     |some J2=>simp only[hc,cP]at h;exact Yf M y _ _ _ _ h
    |goto l'=>exact Yf M x _ _ _ _ hx
    |_=>grind
 | .cond c x y,p,J,l,J'=>by
   intro h;simp only[exec]at h;cases hv:J.ev c with
   |bool b=>
    simp only[hv]at h;cases b with
    |true=>exact Yf M x _ _ _ _ h
    |false=>exact Yf M y _ _ _ _ h
   |_=>simp only[hv]at h;cases h
 | .block id x,p,J,l,J'=>by
   intro h;simp only[exec]at h;cases hx:exec M x (0::p) J with
   |none=>simp only[hx]at h;cases h
   |some r=>
    obtain⟨e1,J1⟩:=r;cases e1 with
    |exit id'=>
     grind
    |goto l'=>exact Yf M x _ _ _ _ hx
    |_=>grind
 | .loop x,p,J,l,J'=>by
   intro h;simp only[exec]at h;cases hn:M.qj p J with
   |none=>grind
   |some J1=>
    simp only[hn,cP]at h;exact asp (fun _ _ _=>Yf M x _ _ _ _) _ _ _ _ h
 | .scope x,p,J,l,J'=>by
   intro h;simp only[exec]at h;exact Yf M x _ _ _ _ h
 |.goto _,_,_,_,_=>by simp [exec]
 |.rangeFunc g ps aRs body,_,_,_,_=>by simp only[exec];exact aJp
 |.refuse _,_,_,_,_=>by simp [exec]
def As {M:kK R} (G:Fw M): ∀ (c:aRB) (p:List Nat) (Q:oo->jS->Prop) (J:jS) (e:oo) (J':jS),exec M c p J=some (e,J')->Q e J'->awp M.P c Q J
 |.skip,_,Q,J,e,J',h,hq=>by simp only[exec,bZ,cf]at h;obtain⟨rfl,rfl⟩:=h;exact hq
 |.label _,_,Q,J,e,J',h,hq=>by simp only[exec,bZ,cf]at h;obtain⟨rfl,rfl⟩:=h;exact hq
 |.ret,_,Q,J,e,J',h,hq=>by simp only[exec,bZ,cf]at h;obtain⟨rfl,rfl⟩:=h;exact hq
 |.exit id,_,Q,J,e,J',h,hq=>by simp only[exec,bZ,cf]at h;obtain⟨rfl,rfl⟩:=h;exact hq
 | .region _ kE false,_,Q,J,e,J',h,hq=>by
   simp only[exec]at h;exact B2 G _ _ _ _ h hq
 | .region _ kE true,_,Q,J,e,J',h,hq=>by
   simp only[exec]at h;rw[mX]at h;obtain⟨hp,h⟩:=h;exact⟨hp,Lh G _ _ _ _ _ _ h hq⟩
 | .seq x y,p,Q,J,e,J',h,hq=>by
   simp only[exec]at h;cases hx:exec M x (0::p) J with
   |none=>simp only[hx]at h;cases h
   |some r=>
    obtain⟨e1,J1⟩:=r;refine As G x (0::p) _ J e1 J1 hx ?_;cases e1 with
    |normal=>
     simp only[hx]at h;cases hc:M.cut (1::p) J1 with
     |none=>grind
     |some J2=>
      simp only[hc,cP]at h;exact⟨J2,G.cut _ _ _ hc,As G y (1::p) Q J2 e J' h hq⟩
    |_=>
     simp only[hx,bZ,cf]at h;obtain⟨rfl,rfl⟩:=h;exact hq
 | .cond c x y,p,Q,J,e,J',h,hq=>by
   simp only[exec]at h;simp only[awp];cases hv:J.ev c with
   |bool b=>
    simp only[hv]at h ⊢;cases b with
    |true=>simp only[jE,aEs hv]at h;exact⟨fun _=>As G x (0::p) Q J e J' h hq,fun h=>(by cases h)⟩
    |false=>simp only[jF,aEs hv]at h;exact⟨fun h=>(by cases h),fun _=>As G y (1::p) Q J e J' h hq⟩
   |_=>simp only[hv]at h;cases h
 | .block id x,p,Q,J,e,J',h,hq=>by
   simp only[exec]at h;cases hx:exec M x (0::p) J with
   |none=>simp only[hx]at h;cases h
   |some r=>
    obtain⟨e1,J1⟩:=r;refine As G x (0::p) _ J e1 J1 hx ?_;cases e1 with
    |exit id'=>
     grind [oo.inBlock]
    |_=>
     simp only[hx,bZ,cf]at h;obtain⟨rfl,rfl⟩:=h;exact hq
 | .loop x,p,Q,J,e,J',h,hq=>by
   simp only[exec]at h;cases hn:M.qj p J with
   |none=>grind
   |some J1=>
    simp only[hn,cP]at h;refine⟨fun m J2=>lqN (M.qj p) (exec M x (0::p)) m J2=some (e,J'),M.n,J1,G.qj _ _ _ hn,h,?_⟩;intro m J2 h2;cases m with
    |zero=>simp only[lqN]at h2;cases h2
    |succ m=>
     simp only[lqN]at h2;cases hx:exec M x (0::p) J2 with
     |none=>simp only[hx]at h2;cases h2
     |some r=>
      obtain⟨e1,J3⟩:=r;refine As G x (0::p) _ J2 e1 J3 hx ?_;cases e1 with
      |normal=>
       simp only[hx]at h2;cases hn2:M.qj p J3 with
       |none=>grind
       |some J4=>
        simp only[hn2,cP]at h2;exact⟨m,J4,Nat.lt_succ_self _,G.qj _ _ _ hn2,h2⟩
      |_=>
       simp only[hx,bZ,cf]at h2;obtain⟨rfl,rfl⟩:=h2;exact hq
 | .scope x,p,Q,J,e,J',h,hq=>by
   simp only[exec]at h;refine As G x (0::p) _ J e J' h ?_;cases e with
   |goto l=>grind [Yf]
   |_=>exact hq
 |.goto _,_,_,_,_,_,h,_=>by simp only[exec]at h;cases h
 | .rangeFunc g ps aRs body,p,Q,J,e,J',h,hq=>by
   simp only[exec]at h;simp only[awp];unfold aHi at h;split at h
   ·rename_i f first cap hv
    split at h
    ·rename_i r H' hc;refine azI hv ((G.cl f _ {J with j9:=J.j9++[.map J.heap.length],heap:=J.heap++[.loop ⟨ps,aRs,body,M.js p⟩ J.j9 .ready 0]} r H' hc).mono ?_);rintro o' F7 ⟨rfl,rfl⟩;unfold aJo at h;split at h
     ·rename_i k s st uA hH;rw[mX]at h;obtain⟨hst,h⟩:=h;subst hst;refine⟨r,k,s,uA,rfl,hH,?_⟩;generalize pV k.js uA=pc at*;unfold azJ at h;split at h
      ·simp only[bZ,cf]at h;obtain⟨rfl,rfl⟩:=h;exact hq
      ·simp only[bZ,cf]at h;obtain⟨rfl,rfl⟩:=h;exact hq
      ·simp only[bZ,cf]at h;obtain⟨rfl,rfl⟩:=h;exact hq
      ·cases h
     ·cases h
    ·cases h
   ·cases h
 |.refuse _,_,_,_,_,_,h,_=>by simp only[exec]at h;cases h
end
def aJq(C:qC)(U:Nat->aRA)(H:List j5)(w:aRE):Prop:=nF C U {j9:=[],heap:=H,low:=H.length} {tmps:= #[],defers:=[]} w
def FnG(P:aRD)(f:aRC)(args:List AV)(H:List j5)(V:vu->List j5->Prop):Prop:=
 xE P f=true/\uc H.length args/\(∀x∈H,sk H.length x)/\∀(C:qC)(U:Nat->aRA)(w:aRE),C.P=P->C.w0=w->C.N0=H.length->(∀l,l<H.length->C.U0 l=U l/\C.ln0 l=mR H[l]?)->(∀b o,C.M0 b o↔GJ U H b o)->
  aJq C U H w->∀vs:Array aRA,kP (C.env U H w) args vs.toList->
  Calls P f vs w fun e w'=>∃o U' H',V o H'/\nF C U' {j9:=[],heap:=H',low:=H.length} {tmps:= #[],defers:=[]} w'/\o.rep (C.env U' H' w') e
def sL:List j5->List Nat->List j5->List j5
 |H,l::ls,x::xs=>sL (H.set l x) ls xs
 |H,_,_=>H
def pe(Y:List Nat)(n:Nat)(l:Nat):Nat:=if l<Y.length then Y.getD l 0 else n+(l-Y.length)
def xq(Y:List Nat)(H H':List j5):List j5:=
 sL H Y (H'.map (j5.qo (pe Y H.length)))++(H'.drop Y.length).map (j5.qo (pe Y H.length))
theorem xP:∀(H:List j5)(ls:List Nat)(xs:List j5),(sL H ls xs).length=H.length
 |_,[],_=>by simp [sL]
 |_,_::_,[]=>by simp [sL]
 |H,l::ls,x::xs=>by rw[sL,xP,List.length_set]
theorem Ii:∀(ls:List Nat)(H:List j5)(xs:List j5)(k:Nat),k ∉ ls->(sL H ls xs)[k]? =H[k]?
 |[],_,_,_,_=>by simp [sL]
 |_::_,_,[],_,_=>by simp [sL]
 |l::ls,H,x::xs,k,h=>by
  simp only[cH,not_or]at h;rw[sL,Ii ls _ xs k h.2,dx (fun e=>h.1 e.symm)]
theorem abb:∀(ls:List Nat)(H:List j5)(xs:List j5)(i k:Nat)(x:j5),ls.Nodup->ls[i]? =some k->xs[i]? =some x->k<H.length->(sL H ls xs)[k]? =some x
 |[],_,_,_,_,_,_,h,_,_=>by simp at h
 |_::_,_,[],_,_,_,_,_,h,_=>by simp at h
 |l::ls,H,y::ys,0,k,x,hnd,h,hx,hk=>by
  grind [sL,Ii]
 |l::ls,H,y::ys,i+1,k,x,hnd,h,hx,hk=>by
  simp at h hx;rw[dK]at hnd;rw[sL];exact abb ls _ ys i k x hnd.2 h hx (by rw[List.length_set];exact hk)
def asq:List Nat->Nat->Option Nat
 |[],_=>none
 |x::xs,k=>if x=k then some 0 else(asq xs k).map (· +1)
theorem amY:∀(Y:List Nat)(l k:Nat),Y.Nodup->Y[l]? =some k->asq Y k=some l
 |[],_,_,_,h=>by simp at h
 |x::xs,0,k,_,h=>by simp at h;subst h;simp [asq]
 |x::xs,l+1,k,hnd,h=>by
  simp at h;rw[dK]at hnd;have sv:x≠k:=fun e=>hnd.1 (e ▸ cX h)
  simp [asq,sv,amY xs l k hnd.2 h]
theorem asr:∀(Y:List Nat)(k:Nat),k ∉ Y->asq Y k=none
 |[],_,_=>rfl
 |x::xs,k,h=>by
  simp only[cH,not_or]at h;have sv:x≠k:=fun e=>h.1 e.symm
  simp [asq,sv,asr xs k h.2]
section call
variable {C:qC}
structure agV(T:aRA->aRE->Array aRA->(aRG->aRE->Prop)->Prop):Prop where
 mono:∀h w vs R R',(∀e w',R e w'->R' e w')->T h w vs R->T h w vs R'
def FnT(P:aRD)(T:aRA->aRE->Array aRA->(aRG->aRE->Prop)->Prop)(args:List AV)(H:List j5)(V:vu->List j5->Prop):Prop:=
 uc H.length args/\(∀x∈H,sk H.length x)/\∀(C:qC)(U:Nat->aRA)(w:aRE),C.P=P->C.w0=w->C.N0=H.length->(∀l,l<H.length->C.U0 l=U l/\C.ln0 l=mR H[l]?)->(∀b o,C.M0 b o↔GJ U H b o)->
  aJq C U H w->∀vs:Array aRA,kP (C.env U H w) args vs.toList->
  T (U 0) w vs fun e w'=>∃o U' H',V o H'/\nF C U' {j9:=[],heap:=H',low:=H.length} {tmps:= #[],defers:=[]} w'/\o.rep (C.env U' H' w') e
def Yg(P:aRD)(T:aRA->aRE->Array aRA->(aRG->aRE->Prop)->Prop)(l:Nat)(args:List AV)(J:jS)(K:vu->List j5->Prop):Prop:=
 ∀ (C:qC) (U:Nat->aRA) (a:Act) (w:aRE),C.P=P->nF C U J a w-> ∀vs:Array aRA,kP (C.env U J.heap w) args vs.toList->
   T (U l) w vs fun e w'=>∃o U' H',K o H'/\nF C U' {J with heap:=H'} a w'/\o.rep (C.env U' H' w') e
def amZ{T:aRA->aRE->Array aRA->(aRG->aRE->Prop)->Prop}(hT:agV T){l0:Nat}{Ug:List AV}(h:FnT P T args H V)(Y:List Nat)(hlen:Y.length=H.length)(hnd:Y.Nodup)
 (hz:∀U:Nat->aRA,T (U (pe Y J.heap.length 0))=T (U l0))
 (Ye:qn Ug (s6 (pe Y J.heap.length) args)) (Sm:∀(i:Nat)(k:Nat)(x:j5),Y[i]? =some k->H[i]? =some x->J.heap[k]? =some (x.qo (pe Y J.heap.length)))
 (hK:∀o H',V o H'->K (o.qo (pe Y J.heap.length)) (xq Y J.heap H')):Yg P T l0 Ug J K:=by
 obtain⟨aPB,I7,hc⟩:=h;intro C U a w hP S vs hr
 let ρf:Nat->Nat:=pe Y J.heap.length
 have hρ:∀l,l<H.length->Y[l]? =some (ρf l):=by
  grind [pe]
 let φc:Nat->aRA:=fun l=>U (ρf l)
 have ass:∀(l:Nat)(x:j5),H[l]? =some x->J.heap[ρf l]? =some (x.qo ρf):=fun l x hx=>Sm l _ x (hρ l (b9.1 hx).1) hx
 have aQB:∀l,l<H.length->ρf l<J.heap.length:=by
  intro l hl;have:=ass l H[l] (bY hl)
  grind
 have hinj:∀l l',l<H.length->l'<H.length->ρf l=ρf l'->l=l':=by
  grind [List.getElem_inj]
 have ast:∀b o,GJ φc H b o->GJ U J.heap b o:=by
  rintro b o ⟨l,x,hx,hm⟩;exact⟨ρf l,_,ass l x hx,aa8.2 hm⟩
 have hA0:∀b o,((GJ U J.heap b o\/C.A b o)/\ ¬ GJ φc H b o)->b<w.heap.size:=by
  rintro b o ⟨⟨l,x,hx,hm⟩|hA,_⟩
  ·exact(S.om l x hx).qP (j5.ot hm)
  ·exact cc (C.hA b o hA) S.size
 let C':qC:=qC.mk C.P w (GJ φc H) (fun b o=>(GJ U J.heap b o\/C.A b o)/\ ¬ GJ φc H b o) hA0 ⟨fun b o h=>let ⟨v,h1,h2,h3⟩:=S.know.cell b o h;⟨v,h1,h2,fun hm=>h3 (ast b o hm)⟩,fun b h=>⟨fun o hm=>(S.know.row b h).1 o (ast b o hm),(S.know.row b h).2⟩⟩ H.length φc (fun l=>mR H[l]?)
 have aNM:∀b o,(GJ φc H b o\/C'.A b o)↔(GJ U J.heap b o\/C.A b o):=by
  grind
 have un:azy H.length ρf (C.env U J.heap w) (C'.env φc H w):=by
  refine⟨cj _,fun l hl=>⟨rfl,?_⟩,fun b o u hm ud=>⟨fun hh=>hm ((aNM b o).1 hh),ud⟩,CT _⟩
  grind [qC.env,GM]
 have I4:∀(l:Nat)(x:j5)(b:Nat),H[l]? =some x->x.block (φc l) b->∃y:j5,J.heap[ρf l]? =some y/\y.block (U (ρf l)) b:=fun l x b hx hb=>⟨_,ass l x hx,C0.2 hb⟩
 have agN:∀(l:Nat)(x:j5)(b:Nat),H[l]? =some x->x.block (φc l) b->∀o,GJ U J.heap b o->GJ φc H b o:=by
  rintro l x b hx hb o ⟨k,y,hy,hm⟩;obtain⟨z,hz,hzb⟩:=I4 l x b hx hb;have hk:=S.apart k (ρf l) y z b hy hz (j5.ot hm) hzb;subst hk;have hf:=ass l x hx;rw[hy]at hf;cases hf;exact⟨l,x,hx,aa8.1 hm⟩
 have hS':aJq C' φc H w:=by
  refine {j9:=rfl,defers:=tv.nil,om:=?_,apart:=?_,uh:=?_,size:=cj _,old:=fun _ _ _ _=>rfl,n8:=fun _ _ _=>rfl,Cn:=?_,wZ:=fun _ _ _=>rfl,rest:=⟨rfl,rfl⟩,low:=⟨rfl,cj _⟩,mA:=fun l hl=>.inl ⟨rfl,.inl rfl⟩}
  ·intro l x hx;exact oP.D2 un (I7 x (cX hx)) (fun _ _=>rfl) (S.om (ρf l) _ (ass l x hx))
  ·intro l l' x x' b hx BA hb sK;obtain⟨z,hz,hzb⟩:=I4 l x b hx hb;obtain⟨z',hz',aLZ⟩:=I4 l' x' b BA sK;exact hinj l l' (b9.1 hx).1 (b9.1 BA).1 (S.apart _ _ z z' b hz hz' hzb aLZ)
  ·rintro l x b o hx hb ⟨hA|hA,hn⟩
   ·exact hn (agN l x b hx hb o hA)
   ·obtain⟨z,hz,hzb⟩:=I4 l x b hx hb;exact S.uh _ z b o hz hzb hA
  ·intro l x b o hx hm _;exact⟨l,x,hx,hm⟩
 have hr':kP (C'.env φc H w) args vs.toList:=kP.D2 un _ _ aPB (Ye _ _ hr);have xK:=hc C' φc w hP rfl rfl (fun l _=>⟨rfl,rfl⟩) (fun _ _=>cg) hS' vs hr';rw[show φc 0=U (pe Y J.heap.length 0)from rfl,hz U]at xK;refine hT.mono _ _ _ _ _ ?_ xK;rintro e w' ⟨o,U',H',hV,S',tD⟩;have aQC:H.length<=H'.length:=S'.low.2
 let n:=J.heap.length
 have aEn:∀k,k<n->(∃l,l<H.length/\ρf l=k)\/k ∉ Y:=by
  grind [dQ]
 let ix:Nat->Option Nat:=asq Y
 have hix:∀l,l<H.length->ix (ρf l)=some l:=by
  grind [amY]
 have aQD:∀k,k ∉ Y->ix k=none:=by
  grind [asr]
 let U2:Nat->aRA:=fun k=>if k<n then(match ix k with|some l=>U' l|none=>U k)else U' (H.length+(k-n))
 have asu:∀l,l<H'.length->U2 (ρf l)=U' l:=by
  intro l hl;by_cases h1:l<H.length
  ·grind
  ·have h2:ρf l=n+(l-H.length):=by
    grind [pe]
   simp only[U2];rw[if_neg (by omega),h2];congr 1;omega
 have azK:∀k,k<n->k ∉ Y->U2 k=U k:=by
  grind
 let H2:List j5:=xq Y J.heap H'
 have aL0:∀(l:Nat)(hl:l<H'.length),H2[ρf l]? =some ((H'[l]).qo ρf):=by
  intro l hl;simp only[H2,xq];by_cases h1:l<H.length
  ·grind [xP,abb]
  ·have h2:ρf l=n+(l-H.length):=by
    grind [pe]
   rw[h2,cJ (by rw[xP];omega),xP];rw[List.getElem?_map,List.getElem?_drop,hlen];have e:H.length+(n+(l-H.length)-J.heap.length)=l:=by simp only[n];omega
   grind
 have aPC:∀k,k<n->k ∉ Y->H2[k]? =J.heap[k]? :=by
  grind [xq,xP,Ii]
 have aPD:H2.length=n+(H'.length-H.length):=by
  grind [xq,xP]
 have hH2:∀(k:Nat)(y:j5),H2[k]? =some y->(∃l,∃hl:l<H'.length,k=ρf l/\y=(H'[l]).qo ρf)\/(k<n/\k ∉ Y/\J.heap[k]? =some y):=by
  intro k y hy;have hk:k<H2.length:=(b9.1 hy).1;by_cases h1:k<n
  ·rcases aEn k h1 with⟨l,hl,rfl⟩|hm
   all_goals grind
  ·left;have hl:H.length+(k-n)<H'.length:=by omega
   grind [pe]
 have aLw:∀b o,GJ U2 H2 b o->GJ U' H' b o\/∃(k:Nat)(y:j5),k<n/\k ∉ Y/\J.heap[k]? =some y/\y.Bk (U k) b o:=by
  rintro b o ⟨k,y,hy,hm⟩;rcases hH2 k y hy with⟨l,hl,rfl,rfl⟩|⟨h1,h2,h3⟩
  ·left;rw[asu l hl]at hm;exact⟨l,_,bY hl,aa8.1 hm⟩
  grind
 have azE:∀(k:Nat)(y:j5)(b:Nat),k<n->k ∉ Y->J.heap[k]? =some y->y.block (U k) b->∀o,¬ GJ φc H b o:=by
  rintro k y b hk hm hy hb o ⟨l,x,hx,hmu⟩;obtain⟨z,hz,hzb⟩:=I4 l x b hx (j5.ot hmu);have e:=S.apart k (ρf l) y z b hy hz hb hzb
  grind
 have arN:∀(l:Nat)(hl:l<H'.length)(b:Nat),(H'[l]).block (U' l) b->b<w.heap.size->∃(k:Nat)(x:j5),H[k]? =some x/\x.block (φc k) b:=by
  intro l hl b hb sJ;obtain⟨o,hmu⟩:=Zr hb;obtain⟨k,x,hx,hmx⟩:=S'.Cn l _ b o (bY hl) hmu sJ
  grind [j5.ot]
 have le:(C.env U J.heap w).Le n (C.env U2 H2 w'):=by
  refine⟨by simp only[qC.env];omega,fun k hk=>?_,fun b o' u hm ud=>?_,S'.ty⟩
  ·rcases aEn k hk with⟨l,hl,rfl⟩|hm
   ·have hn:=S'.mA l hl;simp only[qC.env];rw[asu l (by omega),aL0 l (by omega),GM,ass l H[l] (bY hl),GM];have h1:mR H'[l]? =mR (some H'[l]):=by grind
    have h2:C'.ln0 l=mR (some H[l]):=by grind
    rw[h1,h2]at hn;exact hn
   grind [qC.env]
  ·have hb:=F6 ud;simp only[qC.env]at hb hm ⊢;have hnc: ¬ GJ φc H b o':=fun hh=>hm (.inl (ast b o' hh))
   refine⟨?_,by rw[S'.old b o' hb hnc];exact ud⟩;rintro(hh|hh)
   ·rcases aLw b o' hh with⟨l,x,hx,hmu⟩|⟨k,y,_,_,hy,hmu⟩
    ·exact hnc (S'.Cn l x b o' hx hmu hb)
    ·exact hm (.inl ⟨k,y,hy,hmu⟩)
   ·exact hm (.inr hh)
 have qo:amR H'.length ρf (C'.env U' H' w') (C.env U2 H2 w'):=by
  refine⟨fun l hl=>?_,fun l hl=>?_,fun b o' u hm ud=>⟨?_,ud⟩,CT _⟩
  ·have:=aL0 l hl;exact(b9.1 this).1
  ·grind [qC.env,GM]
  ·simp only[qC.env]at hm ⊢;rintro(hh|hh)
   ·rcases aLw b o' hh with h1|⟨k,y,hk,hkm,hy,hmu⟩
    ·exact hm (.inl h1)
    ·exact hm (.inr ⟨.inl ⟨k,y,hy,hmu⟩,azE k y b hk hkm hy (j5.ot hmu) o'⟩)
   ·refine hm (.inr ⟨.inr hh,?_⟩);rintro⟨l,x,hx,hmu⟩;obtain⟨z,hz,hzb⟩:=I4 l x b hx (j5.ot hmu);exact S.uh _ z b o' hz hzb hh
 have S2:nF C U2 {J with heap:=H2} a w':=by
  have B1:tv C U2 H2 w' J.df a.defers:=by
   refine S.defers.step le (fun b hb hno=>S'.n8 b hb (fun o' hh=>?_)) (fun k x b hx hb=>?_)
   ·obtain⟨l,x,hx,hmu⟩:=hh
    grind [j5.ot]
   ·by_cases hbs:b<w.heap.size
    ·rcases hH2 k x hx with⟨l,hl,rfl,rfl⟩|⟨h1,h2,h3⟩
     ·rw[asu l hl]at hb;obtain⟨q,z,hz',hzb⟩:=arN l hl b (C0.1 hb) hbs
      grind
     grind
    ·exact .inr (by omega)
  refine {j9:=kP.mono le _ _ (kP.nb _ _ S.j9) S.j9,defers:=B1,om:=?_,apart:=?_,uh:=?_,size:=Nat.le_trans S.size S'.size,old:=?_,n8:=?_,Cn:=?_,wZ:=fun x hx hm0=>(S'.wZ x (cc hx S.size) (fun o' hh=>by obtain⟨l,x',BA,hmu⟩:=ast x.block o' hh;exact hm0 o' (S.Cn l x' _ o' BA hmu hx))).trans (S.wZ x hx hm0),rest:=⟨S'.rest.1.trans S.rest.1,S'.rest.2.trans S.rest.2⟩,low:=⟨S.low.1,by have:=S.low.2;show J.low<=H2.length;omega⟩,mA:=?_}
  ·intro k y hy;rcases hH2 k y hy with⟨l,hl,rfl,rfl⟩|⟨h1,h2,h3⟩
   ·rw[asu l hl];have r0:=S'.om l _ (bY hl);exact oP.qo qo (aa9 r0) (fun _ _=>rfl) r0
   ·rw[azK k h1 h2];have r0:=S.om k y h3;exact oP.mono r0 le (fun b hb=>S'.n8 b (r0.qP hb) (azE k y b h1 h2 h3 hb))
  ·intro k k' x x' b hx BA hb sK;rcases hH2 k x hx with⟨l,hl,rfl,rfl⟩|⟨h1,h2,h3⟩<;>rcases hH2 k' x' BA with⟨l',hl',rfl,rfl⟩|⟨h1',h2',h3'⟩
   ·rw[asu l hl]at hb;rw[asu l' hl']at sK;have:=S'.apart l l' _ _ b (bY hl) (bY hl') (C0.1 hb) (C0.1 sK);rw[this]
   ·rw[asu l hl]at hb;rw[azK k' h1' h2']at sK;exfalso;obtain⟨q,z,hz,hzb⟩:=arN l hl b (C0.1 hb) ((S.om k' x' h3').qP sK);obtain⟨o'',hmu⟩:=Zr hzb;exact azE k' x' b h1' h2' h3' sK o'' ⟨q,z,hz,hmu⟩
   ·rw[asu l' hl']at sK;rw[azK k h1 h2]at hb;exfalso;obtain⟨q,z,hz,hzb⟩:=arN l' hl' b (C0.1 sK) ((S.om k x h3).qP hb);obtain⟨o'',hmu⟩:=Zr hzb;exact azE k x b h1 h2 h3 hb o'' ⟨q,z,hz,hmu⟩
   ·rw[azK k h1 h2]at hb;rw[azK k' h1' h2']at sK;exact S.apart k k' x x' b h3 h3' hb sK
  ·intro k x b o' hx hb;rcases hH2 k x hx with⟨l,hl,rfl,rfl⟩|⟨h1,h2,h3⟩
   ·rw[asu l hl]at hb;intro hA;have hbs:b<w.heap.size:=cc (C.hA b o' hA) S.size;obtain⟨q,z,hz,hzb⟩:=arN l hl b (C0.1 hb) hbs;obtain⟨z',hz',aLZ⟩:=I4 q z b hz hzb;exact S.uh _ z' b o' hz' aLZ hA
   ·rw[azK k h1 h2]at hb;exact S.uh k x b o' h3 hb
  ·intro b o' hb hm;have sK:b<w.heap.size:=cc hb S.size
   have hnc: ¬ GJ φc H b o':=by
    intro hh;obtain⟨k,y,hy,hmu⟩:=ast b o' hh;exact hm (S.Cn k y b o' hy hmu hb)
   exact(S'.old b o' sK hnc).trans (S.old b o' hb hm)
  ·intro b hb hm;have sK:b<w.heap.size:=cc hb S.size
   have hnc:∀o',¬ GJ φc H b o':=by
    intro o' hh;obtain⟨k,y,hy,hmu⟩:=ast b o' hh;exact hm o' (S.Cn k y b o' hy hmu hb)
   exact(S'.n8 b sK hnc).trans (S.n8 b hb hm)
  ·intro k x b o' hx hmu hb;rcases hH2 k x hx with⟨l,hl,rfl,rfl⟩|⟨h1,h2,h3⟩
   ·rw[asu l hl]at hmu;obtain⟨q,z,hz,hmz⟩:=S'.Cn l _ b o' (bY hl) (aa8.1 hmu) (cc hb S.size);obtain⟨k2,y2,hy2,aPE⟩:=ast b o' ⟨q,z,hz,hmz⟩;exact S.Cn k2 y2 b o' hy2 aPE hb
   ·rw[azK k h1 h2]at hmu;exact S.Cn k x b o' h3 hmu hb
  ·intro k hk;have hkn:k<n:=by have:=S.low;simp only[n];omega
   have hn:=S.mA k hk;show(U2 k=_/\_)\/_;rcases aEn k hkn with⟨l,hl,rfl⟩|hm
   ·have hn':=S'.mA l hl;rw[asu l (by omega),aL0 l (by omega),GM];rw[ass l H[l] (bY hl),GM]at hn;have h1:mR H'[l]? =mR (some H'[l]):=by rw[bY (by omega)]
    have h2:C'.ln0 l=mR (some H[l]):=by show mR H[l]? =_;rw[bY hl]
    have h3:C'.U0 l=U (ρf l):=rfl;rw[h1,h2,h3]at hn';rcases hn' with⟨ha,hb|hb⟩|⟨⟨q,hq,sJ⟩,hp,hmp⟩
    ·rw[ha,hb];exact hn
    ·rw[hb];rcases hn with⟨hc1,_⟩|⟨⟨q,hq,_⟩,hp,hmp⟩
     ·exact .inl ⟨by rw[ha];exact hc1,.inr rfl⟩
     ·exact .inr ⟨⟨q,hq,fun k' PL=>by cases PL⟩,hp,hmp⟩
    ·right;rcases hn with⟨hc1,hc2|hc2⟩|⟨⟨q2,hq2,aPF⟩,hp2,aPG⟩
     ·rw[hq]at hc2;exact⟨⟨q,hc2.symm,sJ⟩,by rw[<-hc1];exact⟨hp,hmp⟩⟩
     ·rw[hq]at hc2;cases hc2
     ·exact⟨⟨q2,hq2,fun k' PL=>by have:=sJ k' PL;have:=aPF q hq;omega⟩,hp2,aPG⟩
   ·rw[azK k hkn hm,aPC k hkn hm];exact hn
 refine⟨o.qo ρf,U2,H2,hK o H' hV,S2,?_⟩;cases o with
 |ret r=>
  cases e with
  |returned v=>exact pm.qo qo r v (pm.nb _ _ tD) tD
  |panicked chain=>exact tD.elim
  |outgrown=>exact tD.elim
 |panic x=>
  cases e with
  |returned v=>exact tD.elim
  |panicked chain=>
   obtain⟨v,hv,hr⟩:=tD;exact⟨v,hv,pm.qo qo x v (pm.nb _ _ hr) hr⟩
  |outgrown=>exact tD.elim
def alv:agV (fun _ w vs R=>Calls P f vs w R):=⟨fun _ _ _ _ _ hr h=>Calls.mono h hr⟩
def azL:agV (VG P):=⟨fun _ _ _ _ _ hr h D rec h1 h2=>(h D rec h1 h2).mono hr⟩
def axv {Ug:List AV}(h:FnG P f args H V)(Y:List Nat)(hlen:Y.length=H.length)(hnd:Y.Nodup)
 (Ye:qn Ug (s6 (pe Y J.heap.length) args)) (Sm:∀(i:Nat)(k:Nat)(x:j5),Y[i]? =some k->H[i]? =some x->J.heap[k]? =some (x.qo (pe Y J.heap.length)))
 (hK:∀o H',V o H'->K (o.qo (pe Y J.heap.length)) (xq Y J.heap H')):BB P f Ug J K:=
 ⟨h.1,amZ (T:=fun _ w vs R=>Calls P f vs w R) (l0:=0) alv h.2 Y hlen hnd (fun _=>rfl) Ye Sm hK⟩
end call
def oP.aNN{x:j5}(r:oP E x hd)(h:E.Le N E')(hn:sk N x)(hs:E'.w=E.w:=by rfl):oP E' x hd:=by
 cases x with
 |cells cs=>obtain⟨b,c,t,h1,h2,rl,h3⟩:=r;exact⟨b,c,t,h1,by rw[hs];exact h2,kP.mono h _ _ hn rl,h3⟩
 |lR ub sz rows=>
  obtain⟨base,cap,h1,h2,h3,h4,h5⟩:=r;refine⟨base,cap,h1,h2,h3,h4,fun a0 ha hc=>?_⟩;obtain⟨h6,c,t,h7,h8,rl,h9⟩:=h5 a0 ha hc;exact⟨h6,c,t,by rw[hs];exact h7,h8,kP.mono h _ _ (Lf hn) rl,h9⟩
 |map es=>obtain⟨r',en,cl,h1,h2,rp⟩:=r;exact⟨r',en,cl,h1,by rw[hs];exact h2,rJ.mono h hn rp⟩
 |loop k j9 st uA=>obtain⟨D,rec,h1,h2,h3,h4,rl⟩:=r;exact⟨D,rec,h1,by rw[hs];exact h2,by rw[hs];exact h3,h4,kP.mono h _ _ hn rl⟩
 |iter s p=>obtain⟨b,h1,h2⟩:=r;exact⟨b,h1,by rw[hs];exact h2⟩
 |Jw s=>exact ac6 r (fun b _=>by rw[hs])
 |vZ=>trivial
def alw(J:jS)(x r:AV)(H':List j5):Prop:=
 ∀ (C:qC) (U:Nat->aRA) (a:Act) (w:aRE),nF C U J a w-> ∀v,pm (C.env U J.heap w) x v->
   ∃U',nF C U' {j9:=[],heap:=H',low:=J.low} {tmps:= #[],defers:=[]} w/\pm (C.env U' H' w) r v
def adk(low l k:Nat):Nat:=if k<low then k else if k=l then low else low+1+k
section aJr

theorem azM(hl:l<low):(H.take low)[l]? =H[l]? :=by rw[List.getElem?_take,if_pos hl]
def aCm{y:j5}(hl:J.heap[l]? =some y)(JB:J.low<=l)(GH: ∀z∈J.heap.take J.low,sk J.low z)(hy:sk J.low y)(hr:(x.qo (adk J.low l)).nb (J.low+1)):
 alw J x (x.qo (adk J.low l)) (J.heap.take J.low++[y]):=by
 intro C U a w S v hv;have aPH:=S.low.2;have hHl:(J.heap.take J.low).length=J.low:=by rw[List.length_take];omega
 let H':=J.heap.take J.low++[y]
 let U':Nat->aRA:=fun k=>if k=J.low then U l else U k
 have hφ':∀k,k<J.low->U' k=U k:=fun k hk=>by simp only[U'];rw[if_neg (by omega)]
 have hφl:U' J.low=U l:=by simp [U']
 have aEt:∀k,k<J.low->H'[k]? =J.heap[k]? :=by
  intro k hk;simp only[H'];rw[cz (by omega),azM hk]
 have aLx:H'[J.low]? =some y:=by
  simp only[H'];rw[cJ (by omega),hHl,Nat.sub_self];rfl
 have aHl:H'.length=J.low+1:=by simp only[H',List.length_append,hHl,dH,List.length_nil]
 have n9:∀(k:Nat)(z:j5),H'[k]? =some z->(k<J.low/\J.heap[k]? =some z)\/(k=J.low/\z=y):=by
  intro k z hz;have hk:k<J.low+1:=by rw[<-aHl];exact(b9.1 hz).1
  by_cases e:k=J.low
  ·subst e;rw[aLx]at hz;cases hz;exact .inr ⟨rfl,rfl⟩
  ·left;rw[aEt k (by omega)]at hz;exact⟨by omega,hz⟩
 let old:Nat->Nat:=fun k=>if k=J.low then l else k
 have hold:∀(k:Nat)(z:j5),H'[k]? =some z->J.heap[old k]? =some z/\U' k=U (old k):=by
  intro k z hz;rcases n9 k z hz with⟨h1,h2⟩|⟨rfl,rfl⟩
  ·simp only[old];rw[if_neg (by omega)];exact⟨h2,hφ' k h1⟩
  ·simp only[old,jM];exact⟨hl,hφl⟩
 have aJs:∀k k',k<J.low+1->k'<J.low+1->old k=old k'->k=k':=by
  intro k k' hk PL he;simp only[old]at he;split at he<;>split at he<;>omega
 have OC:∀b o,GJ U' H' b o->GJ U J.heap b o:=by
  rintro b o ⟨k,z,hz,hm⟩;obtain⟨h1,h2⟩:=hold k z hz;rw[h2]at hm;exact⟨old k,z,h1,hm⟩
 have le:(C.env U J.heap w).Le J.low (C.env U' H' w):=by
  refine⟨by simp only[qC.env];omega,fun k hk=>.inl ⟨hφ' k hk,.inl (by simp only[qC.env];rw[aEt k hk])⟩,fun b o u hm hc=>⟨fun h=>hm (h.imp (OC b o) id),hc⟩,CT _⟩
 refine⟨U',{j9:=rfl,defers:=tv.nil,om:=?_,apart:=?_,uh:=?_,size:=S.size,old:=S.old,n8:=S.n8,Cn:=?_,wZ:=S.wZ,rest:=S.rest,low:=⟨S.low.1,by show J.low<=H'.length;omega⟩,mA:=?_},?_⟩
 ·intro k z hz;show oP (C.env U' H' w) z (U' k);obtain⟨h1,h2⟩:=hold k z hz;rw[h2];refine(S.om (old k) z h1).aNN le ?_;rcases n9 k z hz with⟨h3,h4⟩|⟨rfl,rfl⟩
  ·exact GH z (cX ((azM h3).trans h4))
  ·exact hy
 ·intro k k' z z' b hz hz' hb sK;obtain⟨h1,h2⟩:=hold k z hz;obtain⟨h1',h2'⟩:=hold k' z' hz';rw[h2]at hb;rw[h2']at sK;have hk:k<J.low+1:=by rw[<-aHl];exact(b9.1 hz).1
  have PL:k'<J.low+1:=by rw[<-aHl];exact(b9.1 hz').1
  exact aJs k k' hk PL (S.apart _ _ z z' b h1 h1' hb sK)
 ·intro k z b o hz hb;obtain⟨h1,h2⟩:=hold k z hz;rw[h2]at hb;exact S.uh _ z b o h1 hb
 ·intro k z b o hz hm hb;obtain⟨h1,h2⟩:=hold k z hz;rw[h2]at hm;exact S.Cn _ z b o h1 hm hb
 ·intro k hk;have PL:k<J.low:=by have:=S.low.1;omega
  show(U' k=_/\(mR H'[k]? =_\/_))\/_;rw[hφ' k PL,aEt k PL];exact S.mA k hk
 ·
  let E2:CS:={w,mu:=(C.env U' H' w).mu,U:=fun k=>if k<J.low+1 then U' k else U (k-(J.low+1)),ln:=fun k=>if k<J.low+1 then mR H'[k]? else none,n:=J.low+1+J.heap.length}
  have qo:amR J.heap.length (adk J.low l) (C.env U J.heap w) E2:=by
   refine⟨fun k hk=>?_,fun k hk=>?_,fun b o u hm hc=>⟨fun h=>hm (h.imp (OC b o) id),hc⟩,CT _⟩
   ·simp only[adk,E2];split
    ·omega
    ·split<;>omega
   ·simp only[adk,E2,qC.env];split
    ·rename_i h1;rw[if_pos (by omega),if_pos (by omega),hφ' k h1,aEt k h1];exact⟨rfl,.inl rfl⟩
    ·split
     ·rename_i h1 h2;subst h2;rw[if_pos (by omega),if_pos (by omega),hφl,aLx,hl];exact⟨rfl,.inl rfl⟩
     ·rw[if_neg (by omega),if_neg (by omega)];refine⟨?_,.inr rfl⟩;congr 1;omega
  have h1:=pm.qo qo x v (pm.nb _ _ hv) hv
  have le2:E2.Le (J.low+1) (C.env U' H' w):=by
   refine⟨by simp only[qC.env];show J.low+1<=H'.length;omega,fun k hk=>.inl ⟨?_,.inl ?_⟩,fun b o u hm hc=>⟨hm,hc⟩,CT _⟩
   ·show U' k=if k<J.low+1 then U' k else _
    rw[if_pos hk]
   ·show mR H'[k]? =if k<J.low+1 then mR H'[k]? else none
    rw[if_pos hk]
  exact pm.mono le2 _ v hr h1
end aJr
def xQ{args:Array aRA}{R R':aRG->FrameMode->aRE->Prop}(h:CallsDIn F n P f args u w R)(hr:∀e u' w',R e u' w'->R' e u' w'):CallsDIn F n P f args u w R':=by
 refine⟨h.1,fun c cs hc Bm=>?_⟩;obtain⟨e,u',w',fr,hR,yd⟩:=h.2 c cs hc Bm;exact⟨e,u',w',fr,hr _ _ _ hR,yd⟩
def auO(P:aRD)(f:aRC):aRA->aRE->Array aRA->(aRG->aRE->Prop)->Prop:=fun _ w vs R=>
 CallsDIn cn 0 P f vs .returning w fun e u' w'=>∃r,e=.returned r/\settle u'=.returning/\R (.returned r) w'
def auP(P:aRD)(f:aRC):aRA->aRE->Array aRA->(aRG->aRE->Prop)->Prop:=fun _ w vs R=>∀(vs0:Array aRA)(v:aRA),vs=vs0.push v->
 CallsDIn cn 0 P f vs0 (.panicking [{v,recovered:=false}]) w fun e u' w'=>∃r,e=.returned r/\
  ((settle u'=.returning/\R (.returned r) w')\/∃v',settle u'=.panicking [{v:=v',recovered:=false}]/\R (.panicked [{v:=v',recovered:=false}]) w')
def aoW:agV (auO P f):=⟨fun _ _ _ _ _ hr h=>xQ h fun _ _ _ ⟨r,h1,h2,h3⟩=>⟨r,h1,h2,hr _ _ h3⟩⟩
def aoX:agV (auP P f):=⟨fun _ _ _ _ _ hr h vs0 v hv=>xQ (h vs0 v hv) fun _ _ _ ⟨r,h1,h2⟩=>⟨r,h1,h2.imp (fun ⟨h3,h4⟩=>⟨h3,hr _ _ h4⟩) fun ⟨v',h3,h4⟩=>⟨v',h3,hr _ _ h4⟩⟩⟩
def am0 (P:aRD) (y9:Option AV->jS->Prop):List (aRC×List AV)->Option AV->jS->Prop
 |[],m,J=>y9 m J
 |(f,args)::ds,none,J=>xE P f=true/\Yg P (auO P f) 0 args {J with df:=ds} (fun o H'=>match o with
    |.ret _=>am0 P y9 ds none {J with heap:=H',df:=ds}
    |.panic _=>False)
 |(f,args)::ds,some x,J=>xE P f=true/\Yg P (auP P f) 0 (args++[x]) {J with df:=ds} (fun o H'=>match o with
    |.ret _=>am0 P y9 ds none {J with heap:=H',df:=ds}
    |.panic x'=>am0 P y9 ds (some x') {J with heap:=H',df:=ds})
section unw
variable {C:qC} {ds:List Deferred}
def nF.aCn{v:aRA}(S:nF C U {J with j9:=J.j9++[x]} {tmps:=tmps.push v,defers:=ds} w)(hl:J.j9.length=tmps.size):nF C U J {tmps,defers:=ds} w/\pm (C.env U J.heap w) x v:=by
 have h1:=S.j9.take J.j9.length;have h2:=S.j9.drop J.j9.length;have hlen:tmps.toList.length=J.j9.length:=by simp [hl]
 simp only[cK]at h1 h2;rw[cT rfl,cT hlen]at h1;rw[cU rfl,cU hlen]at h2;obtain⟨u,us,he2,r1,_⟩:=h2;simp only[cC]at he2;obtain⟨rfl,_⟩:=he2;exact⟨{S with j9:=h1,defers:=S.defers},r1⟩
def nF.axw{v:aRA}(S:nF C U J {tmps,defers:=ds} w)(h:pm (C.env U J.heap w) x v):nF C U {J with j9:=J.j9++[x]} {tmps:=tmps.push v,defers:=ds} w:=by
 refine {S with j9:=?_,defers:=S.defers};have hv:kP (C.env U J.heap w) [x] [v]:=⟨v,[],rfl,h,rfl⟩;simp only[cK];exact S.j9.append hv
def nF.len(S:nF C U J {tmps,defers:=ds} w):J.j9.length=tmps.size:=by
 have:=S.j9.length;simpa using this.symm
def nF.aNO{v:aRA}(S:nF C U {J with j9:=J.j9++[x]} {tmps:=tmps.push v,defers:=ds} w):J.j9.length=tmps.size:=by
 have:=S.j9.length;simp at this;exact this.symm
def nF.pop{d:Deferred}(S:nF C U J {tmps,defers:=d::ds} w)(hm:amz d=false):
 ∃f xs df' cap,J.df=(f,xs)::df'/\d.target=.fn (.func f) cap/\kP (C.env U J.heap w) xs (d.args++cap).toList/\nF C U {J with df:=df'} {tmps,defers:=ds} w:=by
 obtain⟨h1,h2,h3⟩:=S.defers;simp only[dJ,hm,Bool.not_false,jM,db,if_false]at h1 h3;cases hdf:J.df with
 |nil=>rw[hdf]at h3;cases h3
 |cons p df'=>
  obtain⟨f,xs⟩:=p;rw[hdf]at h3;obtain⟨d',s,cap,he,ht,hr,yd⟩:=h3;simp only[cC]at he;obtain⟨rfl,rfl⟩:=he;exact⟨f,xs,df',cap,rfl,ht,hr,{S with j9:=S.j9,defers:=⟨h1,fun d' hd'=>h2 d' (List.mem_cons_of_mem _ hd'),yd⟩}⟩
def asv{d:Deferred}{cap:Array aRA}(ht:d.target=.fn (.func f) cap)(he:xE P f=true):(invoke d.target d.args).run P w=.ok (.enter f (d.args++cap)) w:=by
 unfold xE at he;split at he
 ·rename_i fn hfn;simp only[cq,bne_iff_ne,ne_eq]at he;have awb:fn.body≠none:=by intro hb;simp [hb]at he
  simp [ht,invoke,callFunc,hfn,he.2,awb]
 ·cases he
def alx{fn:Func}{R:aRG->aRE->Prop}{y9:Option AV->jS->Prop}
 (hr:∀U J w,nF C U J {tmps,defers:=[]} w->y9 none J->∃v,(results fn tmps).run C.P w=.ok v w/\R (.returned v) w)
 (hp:∀U J x v w,nF C U J {tmps,defers:=[]} w->pm (C.env U J.heap w) x v->y9 (some x) J->R (.panicked [{v,recovered:=false}]) w):
 ∀ (ds:List Deferred),
   (∀U J w,nF C U J {tmps,defers:=ds} w->am0 C.P y9 J.df none J->LeavesInM cn 0 C.P fn tmps R ds .returning w)/\
   (∀U J x v w,nF C U {J with j9:=J.j9++[x]} {tmps:=tmps.push v,defers:=ds} w->am0 C.P y9 J.df (some x) J->LeavesInM cn 0 C.P fn tmps R ds (.panicking [{v,recovered:=false}]) w)
 |[]=>by
  refine⟨fun U J w S h=>?_,fun U J x v w S h=>?_⟩
  ·have hd:J.df=[]:=by
    have:=S.defers.2.2;cases hdf:J.df with
    |nil=>rfl
    |cons p r=>rw[hdf]at this;obtain⟨_,_,_,h,_⟩:=this;cases h
   rw[hd]at h;exact hr U J w S h
  ·obtain⟨S',hx⟩:=S.aCn S.aNO
   have hd:J.df=[]:=by
    have:=S'.defers.2.2;cases hdf:J.df with
    |nil=>rfl
    |cons p r=>rw[hdf]at this;obtain⟨_,_,_,h,_⟩:=this;cases h
   rw[hd]at h;exact hp U J x v w S' hx h
 |d::ds=>by
  obtain⟨ihr,ihp⟩:=alx hr hp ds;refine⟨fun U J w S h=>?_,fun U J x v w S h=>?_⟩
  ·cases hm:amz d with
   |true=>
    obtain⟨D,hD,_⟩:=S.defers.2.1 d (cV) hm;subst hD;obtain⟨h1,S'⟩:=S.amW;exact⟨by simp,.inl ⟨D,_,rfl,run_takeDeferred h1,ihr U J _ S' h⟩⟩
   |false=>
    obtain⟨f,xs,df',cap,hdf,ht,hxs,S'⟩:=S.pop hm;rw[hdf]at h;obtain⟨he,hc⟩:=h;refine⟨by simp,.inr ⟨fun h=>by simp [cn]at h,_,cap,f,d.args++cap,ht,asv ht he,fun _ _=>trivial,?_⟩⟩;refine xQ (hc C U _ w rfl S' _ hxs) ?_;rintro e u' w' ⟨r,rfl,hs,o,U',H',hK,S2,tD⟩;cases o with
    |ret r'=>
     simp only;rw[hs];exact ihr U' _ w' S2 hK
    |panic _=>exact hK.elim
  ·cases hm:amz d with
   |true=>
    obtain⟨D,hD,_⟩:=S.defers.2.1 d (cV) hm;subst hD;obtain⟨h1,S'⟩:=S.amW;exact⟨by simp,.inl ⟨D,_,rfl,run_takeDeferred h1,ihp U J x v _ S' h⟩⟩
   |false=>
    obtain⟨S1,hx⟩:=S.aCn S.aNO;obtain⟨f,xs,df',cap,hdf,ht,hxs,S'⟩:=S1.pop hm;rw[hdf]at h;obtain⟨he,hc⟩:=h;refine⟨by simp,.inr ⟨fun h=>by simp [cn]at h,_,cap,f,d.args++cap,ht,asv ht he,fun _ _=>trivial,?_⟩⟩
    have Ye:kP (C.env U J.heap w) (xs++[x]) ((d.args++cap).push v).toList:=by
     have hv:kP (C.env U J.heap w) [x] [v]:=⟨v,[],rfl,hx,rfl⟩;rw[cK];exact hxs.append hv
    refine xQ (hc C U _ w rfl S' _ Ye _ v rfl) ?_;rintro e u' w' ⟨r,rfl,⟨hs,o,U',H',hK,S2,tD⟩|⟨v',hs,o,U',H',hK,S2,tD⟩⟩
    ·cases o with
     |ret r'=>
      simp only;rw[hs];exact ihr U' _ w' S2 hK
     |panic _=>exact tD.elim
    ·cases o with
     |ret r'=>exact tD.elim
     |panic x'=>
      simp only;rw[hs];obtain⟨v2,hv2,hr2⟩:=tD;simp only[cC,PanicEntry.mk.injEq,and_true]at hv2;subst hv2;exact ihp U' _ x' _ w' (S2.axw hr2) hK
end unw
def aoY(P:aRD)(rs:List ResultVar)(V:vu->List j5->Prop):Option AV->jS->Prop
 |none,J=>∃x,Uf P J rs=some x/\∃r H',alw J x r H'/\V (.ret r) H'
 |some x,J=>∃r H',alw J x r H'/\V (.panic r) H'
def aLy(P:aRD)(rs:List ResultVar)(V:vu->List j5->Prop):oo->jS->Prop
 |.normal,J=>am0 P (aoY P rs V) J.df none J
 |.ret,J=>am0 P (aoY P rs V) J.df none J
 |.panic x,J=>am0 P (aoY P rs V) J.df (some x) J
 |_,_=>False
def azN{fn:Func}(hf:P.funcs[f]? =some fn)(hb:fn.body=some c)(sv:(fn.name != "runtime.NumGoroutine")=true)(GH:uc H.length args)
 (I7:∀x∈H,sk H.length x) (hn:fn.ntmps=n) {rs:List ResultVar} (KO:fn.results=rs.toArray)
 (h:awp P c (aLy P rs V) {j9:=args++cx (n-args.length) .any,heap:=H,low:=H.length}):FnG P f args H V:=by
 refine⟨?_,GH,I7,fun C U w hP h0 hN0 hφ0 hM HS vs hr=>?_⟩
 ·unfold xE;rw[hf];simp only[hb,dU,Bool.true_and];exact sv
 ·subst hP;refine(callsIn_wide (n:=0)).1 (callsIn_of_wp_marks hf hb trivial ?_);have hsz:vs.size=args.length:=by have:=hr.length;simpa using this
  have S:nF C U {j9:=args++cx (n-args.length) .any,heap:=H,low:=H.length} {tmps:=vs++ck (fn.ntmps-vs.size) undef,defers:=[]} w:=by
   refine {HS with j9:=?_,defers:=tv.nil};simp only[cZ,di];refine hr.append ?_;rw[hsz,hn];have:=kP.Fl (E:=C.env U H w) (cx (n-args.length) undef);simpa using this
  refine wpIn_mono (yy (ro:=none) c _ U _ _ w (.inl rfl) h S) ?_;intro e a' w' hq;have JB:∀{U':Nat->aRA}{J':jS}{a'':Act}{w'':aRE},nF C U' J' a'' w''->J'.low=H.length:=fun S'=>by rw[<-S'.low.1];exact hN0
  have y9:=alx (C:=C) (tmps:=a'.tmps) (fn:=fn) (R:=fun e w'=>∃o U' H',V o H'/\nF C U' {j9:=[],heap:=H',low:=H.length} {tmps:= #[],defers:=[]} w'/\o.rep (C.env U' H' w') e) (y9:=aoY C.P rs V)
   (by
     rintro U' J' w' S' ⟨x,hx,r,H',hex,hV⟩;obtain⟨v,hv,rv⟩:=QR (fn:=fn) S' (by rw[KO];exact hx);obtain⟨U2,S2,hr2⟩:=hex C U' _ w' S' v rv;rw[JB S']at S2;exact⟨v,hv,.ret r,U2,H',hV,S2,hr2⟩)
   (by
     rintro U' J' x v w' S' hx ⟨r,H',hex,hV⟩;obtain⟨U2,S2,hr2⟩:=hex C U' _ w' S' v hx;rw[JB S']at S2;exact⟨.panic r,U2,H',hV,S2,v,rfl,hr2⟩) a'.defers
  cases e with
  |normal=>obtain⟨U',J',S',hq⟩:=hq;exact y9.1 U' J' w' S' hq
  |ret=>obtain⟨U',J',S',hq⟩:=hq;exact y9.1 U' J' w' S' hq
  |exit id=>obtain⟨_,_,_,hq⟩:=hq;exact hq.elim
  |goto l=>obtain⟨_,_,_,hq⟩:=hq;exact hq.elim
  |panic chain=>
   obtain⟨U',J',x,v,S',hq,hch,tD⟩:=hq;subst hch;exact y9.2 U' J' x v w' (nF.axw (tmps:=a'.tmps) (ds:=a'.defers) S' tD) hq
  |outgrown=>exact hq.elim
def aFs(P:aRD)(rs:List ResultVar)(V:AV->Prop):Option AV->jS->Prop
 |none,J=>aFr V J.heap (Uf P J rs)
 |some _,_=>False
def aHm(P:aRD)(rs:List ResultVar)(V:AV->Prop):oo->jS->Prop
 |.normal,J=>am0 P (aFs P rs V) J.df none J
 |.ret,J=>am0 P (aFs P rs V) J.df none J
 |.panic x,J=>am0 P (aFs P rs V) J.df (some x) J
 |_,_=>False
def axx {fn:Func} {V:AV->Prop} (hf:P.funcs[f]? =some fn) (hb:fn.body=some c) (sv:(fn.name != "runtime.NumGoroutine")=true) (GH:uc 0 args)
 (h:awp P c (aHm P fn.results.toList V) {j9:=args++cx (fn.ntmps-args.length) .any,heap:=[]}):I5 P f args V:=by
 refine⟨?_,GH,fun C U w hP h0 hN hM vs hr=>?_⟩
 ·unfold xE;rw[hf];simp only[hb,dU,Bool.true_and];exact sv
 ·subst hP;refine (callsIn_wide (n:=0)).1 (callsIn_of_wp_marks hf hb trivial ?_);have hsz:vs.size=args.length:=by have:=hr.length;simpa using this
  have S:nF C U {j9:=args++cx (fn.ntmps-args.length) .any,heap:=[]} {tmps:=vs++ck (fn.ntmps-vs.size) undef,defers:=[]} w:=by
   refine {j9:=?_,defers:=tv.nil,om:=by simp,apart:=by simp,uh:=by simp,size:=by rw[h0];exact cj _,old:=fun b o _ _=>by rw[h0],n8:=fun b _ _=>by rw[h0],Cn:=by simp,wZ:=fun x _ _=>by rw[h0],rest:=by rw[h0];exact⟨rfl,rfl⟩,low:=⟨hN,cj _⟩,mA:=fun l hl=>by rw[hN]at hl;exact absurd hl (cm _)};simp only[cZ,di];refine hr.append ?_;rw[hsz];have:=kP.Fl (E:=C.env U [] w) (cx (fn.ntmps-args.length) undef);simpa using this
  refine wpIn_mono (yy (ro:=none) c _ U _ _ w (.inl rfl) h S) ?_;intro e a' w' hq
  have y9:=alx (C:=C) (tmps:=a'.tmps) (fn:=fn) (R:=fun e w'=>∃r v U',V r/\e=.returned v/\pm (C.env U' [] w') r v/\w.heap.size<=w'.heap.size/\(∀b,b<w.heap.size->w'.heap[b]? =w.heap[b]?)/\
        (∀x,x.block<w.heap.size->w'.frozen? x=w.frozen? x)/\w'.output=w.output/\w'.os=w.os) (y9:=aFs C.P fn.results.toList V)
   (by
     intro U' J' w' S' Zs;simp only[aFs]at Zs;cases hx:Uf C.P J' fn.results.toList with
     |none=>rw[hx]at Zs;exact Zs.elim
     |some x=>
     rw[hx]at Zs;obtain⟨hn,r0,amM,hV⟩:=Zs;obtain⟨v,hv,rv⟩:=QR S' hx;refine⟨v,hv,_,v,U',hV,rfl,amM _ _ (by have:=aoQ S' (S'.aLr (by rw[<-S'.low.1];exact hN)) x v;rw[<-S'.low.1,hN]at this;exact this hn rv),?_,?_,?_,?_⟩
     ·rw[<-h0];exact S'.size
     ·intro b hb;rw[<-h0];exact S'.n8 b (by rw[h0];exact hb) (fun o=>hM b o)
     ·intro y hy;rw[<-h0];exact S'.wZ y (by rw[h0];exact hy) (fun o=>hM y.block o)
     ·rw[<-h0];exact S'.rest)
   (by
     intro U' J' x v w' S' hx Zs;exact Zs.elim) a'.defers
  cases e with
  |normal=>obtain⟨U',J',S',hq⟩:=hq;exact y9.1 U' J' w' S' hq
  |ret=>obtain⟨U',J',S',hq⟩:=hq;exact y9.1 U' J' w' S' hq
  |exit id=>obtain⟨_,_,_,hq⟩:=hq;exact hq.elim
  |goto l=>obtain⟨_,_,_,hq⟩:=hq;exact hq.elim
  |panic chain=>
   obtain⟨U',J',x,v,S',hq,hch,tD⟩:=hq;subst hch;exact y9.2 U' J' x v w' (nF.axw (tmps:=a'.tmps) (ds:=a'.defers) S' tD) hq
  |outgrown=>exact hq.elim
attribute [go_sem] AV.qo s6 GB j5.qo vu.qo pe xq sL adk aLy
def Uh:List AV->List Tmp->List AV->List AV
 |s,p::ps,x::xs=>Uh (s.set p x) ps xs
 |s,_,_=>s
def awk{E:CS}:∀{ps:List Tmp}{xs:List AV}{vs:List aRA}{s:List AV}{t:Array aRA},kP E xs vs->kP E s t.toList->
 kP E (Uh s ps xs) ((ps.zip vs).foldl (fun t (p:Tmp×aRA)=>t.setIfInBounds p.1 p.2) t).toList
 |[],_,_,_,_,_,h=>by simpa [Uh] using h
 |_::_,[],_,_,_,rfl,h=>by simpa [Uh] using h
 |p::ps,x::xs,_,s,t,⟨u,us,rfl,r1,r2⟩,h=>by
  simp only[Uh,List.zip_cons_cons,List.foldl_cons];refine awk r2 ?_;have:=h.set (i:=p) r1
  grind
def asw:oo->Option (Option aRB)
 |.normal=>some none
 |.ret=>some (some .ret)
 |.exit id=>some (some (.exit id))
 |_=>none
def aEu(V:vu->List j5->Prop)(e:oo)(J:jS):Prop:=
 ∃j k s,asw e=some (pV k.js j)/\J.heap[0]? =some (.loop k s .busy 0)/\∃r H',alw {J with heap:=J.heap.set 0 (.loop k s (stP (pV k.js j)) j)} (.bool (pV k.js j).isNone) r H'/\V (.ret r) H'
def axy{k:xI}(hH:H[0]? =some (.loop k j9 .ready 0))
 (GH:uc H.length args) (I7:∀x∈H,sk H.length x) (hn:yx k.assign=true/\yx k.body=true)
 (h:awp P k.assign (oo.then (fun J1=>∃k1 s1,J1.heap[0]? =some (.loop k1 s1 .ready 0)/\awp P k.body (aEu V) {J1 with heap:=J1.heap.set 0 (.loop k1 s1 .busy 0)}) (fun _ _=>False))
   {j9:=Uh j9 k.ps.toList args,heap:=H,low:=H.length}):FnT P (VG P) args H V:=by
 refine⟨GH,I7,fun C U w hP h0 hN hφ0 hM HS vs hr D rec hφ hw=>?_⟩;subst hP;have axp:0<H.length:=(b9.1 hH).1
 have aHn:∀{U':Nat->aRA}{J':jS}{a':Act}{w':aRE},nF C U' J' a' w'->U' 0=.func (.yield (D+1)) #[] #[]:=by
  intro U' J' a' w' S';rcases S'.mA 0 (by omega)with⟨h1,_⟩|⟨⟨n,h1,_⟩,_⟩
  ·rw[h1,(hφ0 0 axp).1];exact hφ
  ·rw[(hφ0 0 axp).2,hH]at h1;cases h1
 have JB:∀{U':Nat->aRA}{J':jS}{a':Act}{w':aRE},nF C U' J' a' w'->J'.low=H.length:=fun S'=>by rw[<-S'.low.1];exact hN
 have Sm:∀{U':Nat->aRA}{J':jS}{a':Act}{w':aRE}{k:xI}{s:List AV}{st:LoopState}{c:Int},nF C U' J' a' w'->J'.heap[0]? =some (.loop k s st c)->
  ∃agU,w'.heap[D+1]? =some (.loop agU)/\(agU.params=k.ps/\agU.assign=k.assign/\agU.body=k.body/\agU.state=st/\agU.pending=pV k.js c/\agU.defers=D)/\kP (C.env U' J'.heap w') s agU.tmps.toList:=by
  intro U' J' a' w' k s st c S' h0;obtain⟨D',agU,e1,g1,g2,g3,rl⟩:=S'.om 0 _ h0;rw[aHn S']at e1;simp only[dr,Fn.yield.injEq,cO,and_true]at e1;subst e1;exact⟨agU,g1,g3,rl⟩
 obtain⟨aQE,g1,g3,rl⟩:=Sm HS hH;rw[hw]at g1;cases g1;rw[g3.1,g3.2.1,g3.2.2.1];refine roundIn_of_wpIn (F:=cn) trivial ?_
 have S:nF C U {j9:=Uh j9 k.ps.toList args,heap:=H,low:=H.length} {tmps:=(k.ps.zip vs).foldl (fun tmps (t,a)=>tmps.setIfInBounds t a) rec.tmps,defers:=[]} w:=by
  refine {HS with j9:=?_,defers:=tv.nil};have:=awk (ps:=k.ps.toList) hr rl
  grind [Array.toList_zip]
 refine wpIn_mono (yy (ro:=some (D+1)) k.assign _ U _ _ w (.inr hn.1) h S) ?_;intro e a1 w1 hq;cases e with
 |exit id=>obtain⟨_,_,_,hq⟩:=hq;exact hq.elim
 |goto l=>obtain⟨_,_,_,hq⟩:=hq;exact hq.elim
 |ret=>obtain⟨_,_,_,hq⟩:=hq;exact hq.elim
 |panic ch=>obtain⟨_,_,_,_,_,hq,_⟩:=hq;exact hq.elim
 |outgrown=>exact hq.elim
 |normal=>
  obtain⟨U1,J1,S1,k1,s1,hH1,ON⟩:=hq;obtain⟨aNP,kk,k3,_⟩:=Sm S1 hH1;refine⟨_,run_beginRound kk k3.2.2.2.1,?_⟩;have S2:=S1.axt (st':=.busy) (OM:=0) hH1 (aHn S1) kk
  have e2:({aNP with state:=.busy,pending:=pV k1.js 0}:Loop)={aNP with state:=.busy}:=by
   rw[<-k3.2.2.2.2.1]
  rw[e2]at S2;refine wpIn_mono (yy (ro:=some (D+1)) k.body _ _ _ _ _ (.inr hn.2) ON S2) ?_
  have y9:∀(e:oo)(c:Option aRB)(U2:Nat->aRA)(J2:jS)(a2:Act)(w3:aRE),asw e=some c->nF C U2 J2 a2 w3->aEu V e J2->
   ∃v w',(Instr.endRound (D+1) c).run C.P w3=.ok v w'/\∃o U' H',V o H'/\nF C U' {j9:=[],heap:=H',low:=H.length} {tmps:= #[],defers:=[]} w'/\o.rep (C.env U' H' w') (.returned v):=by
   rintro e c U2 J2 a2 w3 hj S3 ⟨j,k2,s2,hj',hH2,r,H',hex,hV⟩;rw[hj]at hj';obtain rfl:c=pV k2.js j:=Option.some.inj hj';obtain⟨aQF,m1,m3,_⟩:=Sm S3 hH2;have S4:=S3.axt (st':=stP (pV k2.js j)) (OM:=j) hH2 (aHn S3) m1;have Zs:=run_endRound (P:=C.P) (pV k2.js j) m1;have est:(if (pV k2.js j).isNone then LoopState.ready else .done)=stP (pV k2.js j):=by cases pV k2.js j<;>rfl
   rw[est]at Zs;obtain⟨U5,S5,hr5⟩:=hex C U2 a2 _ S4 (.bool (pV k2.js j).isNone) rfl;rw[show J2.low=H.length from JB S3]at S5;exact⟨_,_,Zs,.ret r,U5,H',hV,S5,hr5⟩
  intro e a2 w3 hq;cases e with
  |normal=>obtain⟨U2,J2,S3,hq⟩:=hq;exact y9 .normal none U2 J2 a2 w3 rfl S3 hq
  |ret=>obtain⟨U2,J2,S3,hq⟩:=hq;exact y9 .ret _ U2 J2 a2 w3 rfl S3 hq
  |exit id=>obtain⟨U2,J2,S3,hq⟩:=hq;exact y9 (.exit id) _ U2 J2 a2 w3 rfl S3 hq
  |goto l=>obtain⟨_,_,_,_,_,_,hq,_⟩:=hq;cases hq
  |panic ch=>obtain⟨_,_,_,_,_,⟨_,_,_,hq,_⟩,_⟩:=hq;cases hq
  |outgrown=>exact hq.elim
end Go.Abs
end
