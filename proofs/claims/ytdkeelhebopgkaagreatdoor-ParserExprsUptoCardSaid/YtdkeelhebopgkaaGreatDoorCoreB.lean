/- A part of the proof: abstract states and the rules for them. -/
import Derived.Test.YtdkeelhebopgkaaGreatDoorCoreA
import Derived.RangeFuncLeaves
import Derived.Attr
set_option linter.all false
open Go renaming Oper→aMA,Value→aMB,Code→aMC,FuncId→aMD,Operand→aME,Program→aMF,World→aMG,Ending→aMH,LoopState→aMI
open List renaming getElem?_eq_getElem→b9,getElem?_eq_some_iff→cc,replicate→ct,range_eq_range'→cz,eq_nil_of_length_eq_zero→cC,range→cG,range'→cH,take_left'→cM,drop_left'→cN,mem_cons_self→cO,flatten_cons→cP,mem_of_getElem?→cQ,getElem?_append_right→cR,getElem?_append_left→cU,pairwise_cons→cV,pairwise_lt_range→cW,mem_cons→cY,range'_succ→cZ,mem_of_mem_erase→da,mem_append→db,length_erase_of_mem→dm,length_cons→dr,filter_cons→dw,nodup_cons→dy,tail_drop→dz,set_getElem_self→dA,getElem?_of_mem→dD,getElem?_set_ne→dG,set_comm→dH
open Option.some renaming injEq→cf
open Iff renaming rfl→cg
open Nat renaming lt_of_lt_of_le→cj,le_refl→cn,not_lt_zero→cx,add_right_cancel_iff→cJ,ne_of_lt→dc,zero_le→dK
open Bool renaming and_eq_true→ck,false_eq_true→di
open Prod.mk renaming injEq→cm
open Array renaming replicate→cq,toList_push→cD,getElem?_eq_getElem→cE,toList_append→cT,toList_replicate→cX,getElem?_eq_some_iff→dj
open Go.Fence renaming wide→cv
open Option renaming bind_some→cw,bind_eq_some_iff→cK,getD_some→dl,map_some→dx,isSome_some→dJ
open Go.Value.func renaming injEq→c9
open List.cons renaming injEq→dh
noncomputable section
namespace Go.Abs
variable {r x y:AV}{a:Act}{ky:Array aMA}{ps:Array Tmp}{tmps:Array aMB}{b:Bool}{body c:aMC}{E E':D4}{F:Fence}{u:FrameMode}{f:aMD}{uK:Int}{df:List (aMD×List AV)}{args asx first kr s xs ys z:List AV}{cs:List Frame}{k:List Item}{p:List Nat}{rs:List ResultVar}{tr:List Tr}{H H' nw:List kp}{D N i j l low m n:Nat}{Y:Nat->Nat}{U:Nat->aMB}{o oi:aMA}{g:aME}{ro:Option Nat}{d dst:Option Tmp}{P:aMF}{pr:Prop}{R W:Type}{t:TypeId}{h hd v:aMB}{w:aMG}{J J':jX}{Q:nW->jX->Prop}{K V:uP->List kp->Prop}{lk:yo}
def It{E:D4}{b:Nat}{c:Array aMB}{t:TypeId}{fr:Nat×Nat}(hcb:E.w.heap[b]? =some (.cells c t fr)): ∀(cs:List AV)(off:Nat),(∀o,off<=o->o<off+cs.length-> ¬ E.mu b o)->
 kQ E cs ((c.toList.drop off).take cs.length)->(∀u∈(c.toList.drop off).take cs.length,u.oneCell'=true)->ou E b off cs
 |[],_,_,_,_=>trivial
 |x::cs,off,hm,r,h1=>by
  obtain⟨u,us,hu,r1,r2⟩:=r
  have hcu:c[off]? =some u:=by
   have:(c.toList.drop off)[0]? =some u:=by
    have:=congrArg (fun l:List aMB=>l[0]?) hu;simpa using this
   simpa using this
  have htl:us=(c.toList.drop (off+1)).take cs.length:=by
   have h1:=congrArg List.tail hu;simp only[List.tail_cons]at h1;rw[<-h1];cases hd:c.toList.drop off with
   |nil=>rw[hd]at hu;simp at hu
   |cons y ys=>
    grind [dz]
  refine⟨⟨hm off (cn _) (by simp),u,by grind [World.cell?],h1 u (by rw[hu];simp),r1⟩,It hcb cs (off+1) (fun o h2 h3=>hm o (by omega) (by simp;omega)) (by rw[<-htl];exact r2) (fun v hv=>h1 v (by rw[hu,htl];simp [hv]))⟩
def VY{E:D4}{b sz:Nat}{c:Array aMB}{t:TypeId}{fr:Nat×Nat}(hcb:E.w.heap[b]? =some (.cells c t fr)):∀(rs:List (List AV))(off:Nat),(∀r∈rs,r.length=sz)->
 (∀o,off<=o->o<off+rs.length*sz-> ¬ E.mu b o)->kQ E rs.flatten ((c.toList.drop off).take (rs.length*sz))->(∀u∈(c.toList.drop off).take (rs.length*sz),u.oneCell'=true)->n8 E sz b off rs
 |[],_,_,_,_,_=>trivial
 |r::rs,off,hl,hm,h,h1=>by
  have hr:r.length=sz:=hl r (by simp);simp only[cP]at h;have h3:=kQ.take r.length h;have h2:=kQ.drop r.length h;simp only[cM,cN,List.take_take,List.drop_take,List.drop_drop]at h3 h2
  have e1:min r.length ((r::rs).length*sz)=r.length:=by
   grind [Nat.add_mul]
  have e2:(r::rs).length*sz-r.length=rs.length*sz:=by grind [Nat.add_mul]
  have e3:(r::rs).length*sz=rs.length*sz+sz:=by grind
  rw[e1]at h3;rw[e2,hr]at h2;refine⟨hr,It hcb r off (fun o h4 h5=>hm o h4 (by omega)) h3 (fun u hu=>h1 u ?_),VY hcb rs (off+sz) (fun q hq=>hl q (by simp [hq])) (fun o h4 h5=>hm o (by omega) (by omega)) h2 (fun u hu=>h1 u ?_)⟩
  all_goals grind [List.drop_drop]
def sj(n:Nat):kp->Prop
 |.cells cs=>xB n cs
 |.mE _ _ rows=>Qv n rows
 |.map es=>∀p∈es,p.1.nb n/\p.2.nb n
 |.loop _ kr _ _=>xB n kr
 |.iter _ _=>True
 |.sU=>True
def Ma(x y:AV):Prop:=∀(E:D4)(v:aMB),pO E x v->pO E y v
def qX(xs ys:List AV):Prop:=∀(E:D4)(vs:List aMB),kQ E xs vs->kQ E ys vs
def XR(xs ys:List (List AV)):Prop:=xs.length=ys.length/\∀(E:D4)(sz b off:Nat),n8 E sz b off xs->n8 E sz b off ys
def aiS(xs ys:List AV):Prop:=xs.length=ys.length/\∀(E:D4)(b off:Nat),ou E b off xs->ou E b off ys
theorem Ma.refl(x:AV):Ma x x:=fun _ _ h=>h
def Ma.any(x:AV):Ma x .any:=fun _ _ _=>trivial
theorem qX.refl(xs:List AV):qX xs xs:=fun _ _ h=>h
theorem qX.nil:qX [] []:=fun _ _ h=>h
theorem qX.cons(h:Ma x y)(hs:qX xs ys):qX (x::xs) (y::ys):=fun E _ ⟨u,us,hv,r1,r2⟩=>⟨u,us,hv,h E u r1,hs E us r2⟩
theorem aiS.refl(xs:List AV):aiS xs xs:=⟨rfl,fun _ _ _ h=>h⟩
theorem aiS.nil:aiS [] []:=aiS.refl []
theorem aiS.cons(h:Ma x y)(hs:aiS xs ys):aiS (x::xs) (y::ys):=
 ⟨by simp [hs.1],fun E b off ⟨⟨hm,u,hu,h1,r⟩,r2⟩=>⟨⟨hm,u,hu,h1,h E u r⟩,hs.2 E b _ r2⟩⟩
theorem XR.refl(xs:List (List AV)):XR xs xs:=⟨rfl,fun _ _ _ _ h=>h⟩
theorem XR.nil:XR [] []:=XR.refl []
theorem XR.cons{x y:List AV}{xs ys:List (List AV)}(h:aiS x y)(hs:XR xs ys):XR (x::xs) (y::ys):=
 ⟨by simp [hs.1],fun E sz b off ⟨h1,r,r2⟩=>⟨by rw[<-h.1];exact h1,h.2 E b off r,hs.2 E sz b _ r2⟩⟩
def Ma.agg(h:qX xs ys):Ma (.agg xs) (.agg ys):=fun E _ ⟨vs,hv,r⟩=>⟨vs,hv,h E _ r⟩
def Ma.Je(h:qX xs ys):Ma (.Je xs) (.Je ys):=fun E _ ⟨vs,hv,r⟩=>⟨vs,hv,h E _ r⟩
def Ma.pp(h:aiS xs ys):Ma (.pp xs) (.pp ys):=fun E _ ⟨b,off,hv,r⟩=>⟨b,off,hv,h.2 E b off r⟩
def Ma.func{fn:Fn}{f f' c c':List AV}(h:qX f f')(h':qX c c'):Ma (.func fn f c) (.func fn f' c'):=fun E _ ⟨a,b,hv,r1,r2⟩=>⟨a,b,hv,h E _ r1,h' E _ r2⟩
def Ma.lS{t:Bool}{sz:Nat}{xs ys:List (List AV)}(h:XR xs ys):Ma (.lS t sz xs) (.lS false sz ys):=fun E v ⟨base,cap,h1,h2,h3,h4,h5,h6⟩=>
 ⟨base,cap,by rw[<-h.1];exact h1,by rw[<-h.1];exact h2,(by intro h;cases h),h4,fun a ha wN=>h5 a ha (fun e=>wN (by have:=h.1;grind)),fun a ha=>h.2 E sz _ _ (h6 a ha)⟩
def Ma.empty(t:Bool)(sz Po:Nat):Ma (.lS t sz []) (.lS false Po []):=fun _ _ ⟨base,cap,h1,h2,_,h4,_,_⟩=>
 ⟨base,cap,h1,h2,(by intro h;cases h),h4,(by intro a _ h;exact absurd rfl h),fun _ _=>trivial⟩
def Co1(H:List kp)(n:Nat)(x y:AV):Prop:=
 (Ma x y/\y.nb n)\/∃l m sz rows,x=.mE l m/\H[l]? =some (.mE true sz rows)/\rows.length=m/\Ma (.lS false sz rows) y/\y.nb n
def o9(H:List kp)(n:Nat):List AV->List AV->Prop
 |[],ys=>ys=[]
 |x::xs,ys=>∃y zs,ys=y::zs/\Co1 H n x y/\o9 H n xs zs
def Co(H:List kp)(n:Nat)(x y:AV):Prop:=Co1 H n x y\/∃cs ds,x=.agg cs/\y=.agg ds/\o9 H n cs ds
def Bf(H:List kp)(n:Nat):List AV->List AV->Prop
 |[],ys=>ys=[]
 |x::xs,ys=>∃y zs,ys=y::zs/\Co H n x y/\Bf H n xs zs
def M7{n:Nat}:∀{p q:List AV},xB n p->xB n q->xB n (p++q)
 |[],_,_,hq=>hq
 |_::_,_,hp,hq=>⟨hp.1,M7 hp.2 hq⟩
def Jj{n:Nat}:∀{rows:List (List AV)},Qv n rows->xB n rows.flatten
 |[],_=>trivial
 |_::_,h=>by simp only[cP];exact M7 h.1 (Jj h.2)
def Iu:List (List AV)->List (List AV)->Prop
 |[],ys=>ys=[]
 |x::xs,ys=>∃y zs,ys=y::zs/\(x.length=y.length/\qX x y)/\Iu xs zs
theorem Iu.length:∀{xs ys:List (List AV)},Iu xs ys->ys.length=xs.length
 |[],_,rfl=>rfl
 |_::_,_,⟨_,_,rfl,_,h⟩=>by simp [Iu.length h]
theorem Iu.sz{sz:Nat}:∀{xs ys:List (List AV)},Iu xs ys->(∀r∈xs,r.length=sz)->∀r∈ys,r.length=sz
 |[],_,rfl,_=>by simp
 |x::_,_,⟨y,_,rfl,h1,h⟩,hl=>by
  intro r hr;simp only[cY]at hr;rcases hr with rfl|hr
  ·rw[<-h1.1];exact hl x (by simp)
  ·exact Iu.sz h (fun q hq=>hl q (by simp [hq])) r hr
def Iu.flat:∀{xs ys:List (List AV)}{vs:List aMB},Iu xs ys->kQ E xs.flatten vs->kQ E ys.flatten vs
 |[],_,_,rfl,r=>r
 |x::xs,_,vs,⟨y,zs,rfl,h1,h⟩,r=>by
  simp only[cP]at r ⊢;have h3:=kQ.take x.length r;have h2:=kQ.drop x.length r;simp only[cM,cN]at h3 h2;have:=kQ.append (h1.2 _ _ h3) (Iu.flat h h2)
  rwa [List.take_append_drop]at this
def Qz(H:List kp)(n:Nat)(x y:kp):Prop:=
 y=.sU\/(y=x/\sj n x)\/(∃cs ds,x=.cells cs/\y=.cells ds/\Bf H n cs ds)\/(∃vA sz rows BD,x=.mE vA sz rows/\y=.mE vA sz BD/\Iu rows BD/\Qv n BD)\/
  ∃k s s' st uK,x=.loop k s st uK/\y=.loop k s' st uK/\Bf H n s s'
def CoH(H:List kp)(n:Nat):List kp->List kp->Prop
 |_,[]=>True
 |[],_::_=>False
 |x::xs,y::ys=>Qz H n x y/\CoH H n xs ys
def avw(n:Nat)(df:List (aMD×List AV)):Prop:=∀p∈df,xB n p.2
def abt:avw n []:=fun _ h=>by cases h
def al1(J J':jX):Prop:=((J'.low=J.low/\J.low<=J'.heap.length)/\J'.df=J.df/\avw J'.heap.length J.df)/\Bf J.heap J'.heap.length J.kr J'.kr/\CoH J.heap J'.heap.length J.heap J'.heap
def CoH.get:∀{xs ys:List kp}{l:Nat}{y:kp},CoH H n xs ys->ys[l]? =some y->∃x,xs[l]? =some x/\Qz H n x y
 |_,[],_,_,_,h=>by simp at h
 |[],_::_,_,_,h,_=>h.elim
 |x::_,_::_,0,_,⟨h,_⟩,hy=>by simp at hy;subst hy;exact⟨x,by simp,h⟩
 |_::_,_::_,l+1,_,⟨_,h⟩,hy=>by
  simp at hy;obtain⟨x,hx,hc⟩:=CoH.get h hy;exact⟨x,by simpa using hx,hc⟩
section weak
variable {C:tg}
def Bf.rep(zu:∀x y v,Co H n x y->pO E x v->pO E' y v):∀{xs ys:List AV}{vs:List aMB},Bf H n xs ys->kQ E xs vs->kQ E' ys vs
 |[],_,_,rfl,r=>r
 |_::_,_,_,⟨y,zs,rfl,hc,hr⟩,⟨u,us,rfl,r1,r2⟩=>⟨u,us,rfl,zu _ y u hc r1,Bf.rep zu hr r2⟩
def o9.rep(zu:∀x y v,Co1 H n x y->pO E x v->pO E' y v):∀{xs ys:List AV}{vs:List aMB},o9 H n xs ys->kQ E xs vs->kQ E' ys vs
 |[],_,_,rfl,r=>r
 |_::_,_,_,⟨y,zs,rfl,hc,hr⟩,⟨u,us,rfl,r1,r2⟩=>⟨u,us,rfl,zu _ y u hc r1,o9.rep zu hr r2⟩
theorem Co.P9(zu:∀x y v,Co1 H n x y->pO E x v->pO E' y v)(x y:AV)(v:aMB)(h:Co H n x y)(r:pO E x v):pO E' y v:=by
 rcases h with h|⟨cs,ds,rfl,rfl,h⟩
 ·exact zu x y v h r
 ·obtain⟨vs,hv,rl⟩:=r;exact⟨vs,hv,o9.rep zu h rl⟩
def Co.rep(S:nr C U J a w)(h:Co J.heap n x y)(r:pO (C.env U J.heap w) x v):pO (C.env U J.heap w) y v:=by
 refine Co.P9 ?_ x y v h r;intro x y v hc r;rcases hc with⟨aea,hn⟩|⟨l,m,sz,rows,rfl,hl,hm,aea,hn⟩
 ·exact aea _ _ r
 ·have hv:=Nz S hl hm r;subst hv;exact aea _ _ (abl S hl)
def Bf.aKt(S:nr C U J a w){vs:List aMB}(h:Bf J.heap n xs ys)(r:kQ (C.env U J.heap w) xs vs):kQ (C.env U J.heap w) ys vs:=
 Bf.rep (fun _ _ _ h r=>Co.rep S h r) h r
def al1.sim(h:al1 J J')(S:nr C U J a w):nr C U J' a w:=by
 obtain⟨⟨HC,hdf,hdn⟩,hs,hh⟩:=h;have IM:∀(l:Nat)(y:kp),J'.heap[l]? =some y->∃x,J.heap[l]? =some x/\Qz J.heap J'.heap.length x y:=fun l y hy=>hh.get hy
 have ag0:∀{x y:kp}{h:aMB}{b o:Nat},Qz J.heap J'.heap.length x y->y.Ff h b o->x.Ff h b o:=by
  intro x y h b o hc hm;rcases hc with rfl|⟨rfl,_⟩|⟨cs,ds,rfl,rfl,_⟩|⟨vA,sz,rows,BD,rfl,rfl,_,_⟩|⟨lk,s1,s2,st,uK,rfl,rfl,_⟩
  ·simp [kp.Ff]at hm
  ·exact hm
  ·cases h with
   |pointer p=>cases p<;>exact hm
   |_=>exact hm
  ·cases h with
   |slice p _ _=>cases p<;>exact hm
   |_=>exact hm
  ·cases h with
   |func q _ _=>cases q<;>exact hm
   |_=>exact hm
 have Ko:∀{x y:kp}{h:aMB}{b:Nat},Qz J.heap J'.heap.length x y->y.block h b->x.block h b:=by
  intro x y h b hc hm;rcases hc with rfl|⟨rfl,_⟩|⟨cs,ds,rfl,rfl,_⟩|⟨vA,sz,rows,BD,rfl,rfl,_,_⟩|⟨lk,s1,s2,st,uK,rfl,rfl,_⟩
  ·simp [kp.block]at hm
  ·exact hm
  ·cases h with
   |pointer p=>cases p<;>exact hm
   |_=>exact hm
  ·cases h with
   |slice p _ _=>cases p<;>exact hm
   |_=>exact hm
  ·cases h with
   |func q _ _=>cases q<;>exact hm
   |_=>exact hm
 have alH:∀b o,Sx U J'.heap b o->Sx U J.heap b o:=by
  rintro b o ⟨l,y,hy,hm⟩;obtain⟨x,hx,hc⟩:=IM l y hy;exact⟨l,x,hx,ag0 hc hm⟩
 have le:(C.env U J.heap w).Le J'.heap.length (C.env U J'.heap w):=by
  refine⟨cn _,fun l hl=>.inl ⟨rfl,?_⟩,fun b o u hm hc=>⟨fun h=>hm (h.imp (alH b o) id),hc⟩⟩;obtain⟨x,hx,hc⟩:=IM l J'.heap[l] (b9 hl);simp only[tg.env];rw[b9 hl,hx];rcases hc with h|⟨h,_⟩|⟨cs,ds,rfl,h,_⟩|⟨vA,sz,rows,BD,rfl,h,hr,_⟩|⟨lk,s1,s2,st,uK,rfl,h,_⟩
  ·right;rw[h];rfl
  ·left;rw[h]
  ·left;rw[h];rfl
  ·left;rw[h];simp only[nO,hr.length]
  ·left;rw[h];rfl
 have zu:∀x y v,Co J.heap J'.heap.length x y->pO (C.env U J.heap w) x v->pO (C.env U J'.heap w) y v:=by
  refine Co.P9 ?_;intro x y v hc r;rcases hc with⟨aea,hn⟩|⟨l,m,sz,rows,rfl,hl,hm,aea,hn⟩
  ·exact pO.mono le _ _ hn (aea _ _ r)
  ·have hv:=Nz S hl hm r;subst hv;exact pO.mono le _ _ hn (aea _ _ (abl S hl))
 have abg:xj C U J'.heap w J'.df a.defers:=by
  rw[hdf]
  exact S.defers.axI (fun xs vs ⟨f,hf⟩ r=>kQ.mono le _ _ (hdn _ hf) r) (fun _ _ _=>rfl) (fun l x b hx hb=>by
   grind)
 refine {kr:=Bf.rep zu hs S.kr,defers:=abg,sF:=?_,apart:=?_,Fj:=?_,size:=S.size,R3:=S.R3,tC:=S.tC,XG:=?_,Hz:=S.Hz,rest:=S.rest,low:=⟨by rw[HC.1];exact S.low.1,by rw[HC.1];exact HC.2⟩,oe:=?_}
 ·intro l y hy;obtain⟨x,hx,hc⟩:=IM l y hy;have r:=S.sF l x hx;rcases hc with rfl|⟨rfl,hn⟩|⟨cs,ds,rfl,rfl,hcl⟩|⟨vA,sz,rows,BD,rfl,rfl,hr,hn⟩|⟨lk,s1,s2,st,uK,rfl,rfl,hcl⟩
  ·exact trivial
  ·cases y with
   |cells cs=>
    obtain⟨b,c,t,h1,h2,rl,h3⟩:=r;exact⟨b,c,t,h1,h2,kQ.mono le _ _ hn rl,h3⟩
   |mE vA sz rows=>
    obtain⟨base,cap,h1,h2,h3,h4,h5⟩:=r;refine⟨base,cap,h1,h2,h3,h4,fun a0 ha hc=>?_⟩;obtain⟨h6,c,t,h7,h8,rl,h9⟩:=h5 a0 ha hc
    exact⟨h6,c,t,h7,h8,kQ.mono le _ _ (by
     clear rl h9 h8 h7 h6 hc ha h5 h4 h3 h2 h1;revert hn;simp only[sj];clear hy hx;induction rows with
     |nil=>intro _;trivial
     |cons r rs ih=>
      intro hn;simp only[cP]
      have:∀(p q:List AV),xB J'.heap.length p->xB J'.heap.length q->xB J'.heap.length (p++q):=by
       intro p q hp hq;induction p with
       |nil=>exact hq
       |cons z p ihp=>exact⟨hp.1,ihp hp.2⟩
      exact this r _ hn.1 (ih hn.2)) rl,h9⟩
   |map es=>
    obtain⟨r',en,cl,h1,h2,rp⟩:=r;exact⟨r',en,cl,h1,h2,sN.mono le hn rp⟩
   |loop lk s1 st uK=>
    obtain⟨D,rec,h1,h2,h3,h4,rl⟩:=r;exact⟨D,rec,h1,h2,h3,h4,kQ.mono le _ _ hn rl⟩
   |iter s p=>exact r
   |sU=>trivial
  ·obtain⟨b,c,t,h1,h2,rl,h3⟩:=r;exact⟨b,c,t,h1,h2,Bf.rep zu hcl rl,h3⟩
  ·obtain⟨base,cap,h1,h2,h3,h4,h5⟩:=r;have hlen:=hr.length;refine⟨base,cap,by rw[hlen];exact h1,by rw[hlen];exact h2,h3,hr.sz h4,fun a0 ha hc=>?_⟩;obtain⟨h6,c,t,h7,h8,rl,h9⟩:=h5 a0 ha hc;rw[hlen];exact⟨h6,c,t,h7,h8,kQ.mono le _ _ (Jj hn) (hr.flat rl),h9⟩
  ·obtain⟨D,rec,h1,h2,h3,h4,rl⟩:=r;exact⟨D,rec,h1,h2,h3,h4,Bf.rep zu hcl rl⟩
 ·intro l l' x x' b hx VO hb Gs;obtain⟨y,hy,hc⟩:=IM l x hx;obtain⟨y',hy',hc'⟩:=IM l' x' VO;exact S.apart l l' y y' b hy hy' (Ko hc hb) (Ko hc' Gs)
 ·intro l x b o hx hb;obtain⟨y,hy,hc⟩:=IM l x hx;exact S.Fj l y b o hy (Ko hc hb)
 ·intro l x b o hx hm hb;obtain⟨y,hy,hc⟩:=IM l x hx;exact S.XG l y b o hy (ag0 hc hm) hb
 ·intro l hl;have me:l<J'.heap.length:=by have:=S.low;omega
  obtain⟨x,hx,hc⟩:=IM l J'.heap[l] (b9 me);have hn:=S.oe l hl;rw[hx]at hn;rw[b9 me]
  have axR:nO (some J'.heap[l])=nO (some x)\/nO (some J'.heap[l])=none:=by
   rcases hc with h|⟨h,_⟩|⟨cs,ds,rfl,h,_⟩|⟨vA,sz,rows,BD,rfl,h,hr,_⟩|⟨lk,s1,s2,st,uK,rfl,h,_⟩
   ·right;rw[h];rfl
   ·left;rw[h]
   ·left;rw[h];rfl
   ·left;rw[h];simp only[nO,hr.length]
   ·left;rw[h];rfl
  grind
def al1.imp(h:al1 J J'):Kr J J':=fun _ U _ _ S=>⟨U,h.sim S⟩
def aAQ {s sz:Nat}{vA:Bool}(h:J.kr[i]? =some (.lS true s [])):Kr J {J with kr:=J.kr.set i (.mE J.heap.length 0),heap:=J.heap++[.mE vA sz []]}:=by
 intro C U a w S;obtain⟨v,hv,base,cap,rfl,_,hc,_⟩:=S.kr.get h;have G9:cap=0:=hc rfl;subst G9
 have S':=S.XO (vA:=vA) (sz:=sz) (rows:=[]) (w':=w) (h':=.slice base 0 0) (cn _) (fun _ _=>rfl) (fun _=>rfl) ⟨rfl,rfl⟩ (by
  intro b hb;cases base<;>simp [kp.block]at hb) (fun E' _ _=>⟨base,0,rfl,cn _,fun _=>rfl,by simp,fun b _ h0=>absurd rfl h0⟩)
 refine⟨(fun k=>if k=J.heap.length then .slice base 0 0 else U k),?_⟩
 have:=S'.put (some i) (x:=.mE J.heap.length 0) (v:=.slice base 0 0) ⟨by simp [tg.env],⟨_,_,_,rfl⟩,fun k hk=>by
  grind [tg.env]⟩
 refine {this with kr:=?_,defers:=this.defers};have hs:=this.kr
 have ha:(a.put (some i) (.slice base 0 0)).tmps.toList=a.tmps.toList:=by
  simp only[Act.put,Array.toList_setIfInBounds];apply List.ext_getElem?
  grind
 rw[ha]at hs;exact hs
end weak
mutual
def frz(low:Nat)(H:List kp):AV->AV
 | .mE l n=>if l<low then .mE l n else match H[l]? with
   |some (.mE _ sz rows)=>if rows.length=n then .lS false sz rows else .any
   |_=>.any
 |.own l i n o sz=>if l<low then .own l i n o sz else .any
 |.agg cs=>.agg (al2 low H cs)
 |.Je cs=>.Je (al2 low H cs)
 |.any=>.any
 |.bool b=>.bool b
 |.int k n=>.int k n
 |.str s=>.str s
 |.uE v=>.uE v
 |.lS t sz rows=>.lS t sz rows
 |.ptr l off=>.ptr l off
 |.map l=>.map l
 |.pp cs=>.pp cs
 |.func fn f c=>.func fn f c
 |.iface t x=>.iface t x
def al2(low:Nat)(H:List kp):List AV->List AV
 |[]=>[]
 |x::xs=>frz low H x::al2 low H xs
end
section res
variable {C:tg}
def aso(_S:nr C U J a w):(C.env U J.heap w).Le 0 (C.env U [] w):=by
 refine⟨dK _,fun l hl=>absurd hl (cx _),fun b o u hm hc=>⟨?_,hc⟩⟩;simp only[tg.env]at hm ⊢;rintro(⟨l,x,hx,_⟩|h)
 all_goals grind
structure aAR(C:tg)(U:Nat->aMB)(J:jX)(w:aMG)(E':D4):Prop where
 le:(C.env U J.heap w).Le J.low E'
 w:E'.w=w
 free:∀(l:Nat)(x:kp)(b o:Nat),J.low<=l->J.heap[l]? =some x->x.block (U l) b-> ¬ E'.mu b o
def nr.aFZ(S:nr C U J a w)(h0:J.low=0):aAR C U J w (C.env U [] w):=by
 refine⟨by rw[h0];exact aso S,rfl,fun l x b o _ hx hb=>?_⟩;simp only[tg.env];rintro(⟨l',y,hy,_⟩|hA)
 ·simp at hy
 ·exact S.Fj l x b o hx hb hA
mutual
def aiT(S:nr C U J a w){E':D4}(D:aAR C U J w E'):
 ∀(x:AV)(v:aMB),(frz J.low J.heap x).nb J.low->pO (C.env U J.heap w) x v->pO E' (frz J.low J.heap x) v
 | .mE l n,v,hn,r=>by
   simp only[frz]at hn ⊢;by_cases HC:l<J.low
   ·rw[if_pos HC];exact pO.mono D.le (.mE l n) v HC r
   ·rw[if_neg HC] at hn ⊢;split
    ·rename_i vA sz rows hl;simp only[hl]at hn;split
     ·rename_i hlen;rw[if_pos hlen]at hn;have hv:=Nz S hl hlen r;subst hv;obtain⟨base,cap,hh,h2,h3,h4,h5⟩:=S.sF l _ hl;refine⟨base,cap,hh,h2,(by intro h;cases h),h3,?_,?_⟩
      ·intro b hb wN;exact(h5 b hb (fun h0=>wN (cC (by omega)))).1
      ·intro b hb;by_cases hc:cap=0
       ·have:rows=[]:=cC (by omega);subst this;trivial
       ·obtain⟨hsp,c,t,hcb,hsz,rl,h1⟩:=h5 b hb hc;subst hb;refine VY (E:=E') (c:=c) (t:=t) (fr:=(0,0)) (by rw[D.w];exact hcb) rows b.off h4 ?_ (kQ.mono D.le _ _ (Jj hn) rl) h1;intro o _ _;exact D.free l _ b.block o (by omega) hl (by rw[hh];exact⟨rfl,hc⟩)
     ·exact trivial
    ·exact trivial
 | .own l i n o sz,v,hn,r=>by
   simp only[frz]at hn ⊢;by_cases HC:l<J.low
   ·rw[if_pos HC];exact pO.mono D.le (.own l i n o sz) v HC r
   ·rw[if_neg HC];exact trivial
 |.agg cs,v,hn,⟨vs,hv,rl⟩=>⟨vs,hv,af3 S D cs _ hn rl⟩
 |.Je cs,v,hn,⟨vs,hv,rl⟩=>⟨vs,hv,af3 S D cs _ hn rl⟩
 |.any,_,_,_=>trivial
 |.bool _,_,_,r=>r
 |.int _ _,_,_,r=>r
 |.str _,_,_,r=>r
 |.uE _,_,_,r=>r
 |.lS t sz rows,_,hn,r=>pO.mono D.le (.lS t sz rows) _ hn r
 |.ptr l off,_,hn,r=>pO.mono D.le (.ptr l off) _ hn r
 |.map l,_,hn,r=>pO.mono D.le (.map l) _ hn r
 |.pp cs,_,hn,r=>pO.mono D.le (.pp cs) _ hn r
 |.func fn f c,_,hn,r=>pO.mono D.le (.func fn f c) _ hn r
 |.iface t x,_,hn,r=>pO.mono D.le (.iface t x) _ hn r
def af3(S:nr C U J a w){E':D4}(D:aAR C U J w E'):
 ∀(xs:List AV)(vs:List aMB),xB J.low (al2 J.low J.heap xs)->kQ (C.env U J.heap w) xs vs->kQ E' (al2 J.low J.heap xs) vs
 |[],_,_,r=>r
 |x::xs,_,hn,⟨u,us,hv,r1,r2⟩=>⟨u,us,hv,aiT S D x u hn.1 r1,af3 S D xs us hn.2 r2⟩
end
mutual
theorem ayS(low:Nat)(H:List kp):∀x:AV,x.nb 0->frz low H x=x
 |.mE _ _,h=>absurd h (cx _)
 |.own _ _ _ _ _,h=>absurd h (cx _)
 |.agg cs,h=>by rw[frz,M8 low H cs h]
 |.Je cs,h=>by rw[frz,M8 low H cs h]
 |.any,_|.bool _,_|.int _ _,_|.str _,_|.uE _,_|.lS _ _ _,_|.ptr _ _,_|.map _,_|.pp _,_|.func _ _ _,_|.iface _ _,_=>by rw[frz]
theorem M8(low:Nat)(H:List kp):∀xs:List AV,xB 0 xs->al2 low H xs=xs
 |[],_=>rfl
 |x::xs,h=>by rw[al2,ayS low H x h.1,M8 low H xs h.2]
end
end res
mutual
def AV.qC(Y:Nat->Nat):AV->AV
 |.agg cs=>.agg (sO Y cs)
 |.Je cs=>.Je (sO Y cs)
 |.pp cs=>.pp (sO Y cs)
 |.lS t sz rows=>.lS t sz (Fg Y rows)
 |.mE l n=>.mE (Y l) n
 |.own l off len cap sz=>.own (Y l) off len cap sz
 |.ptr l off=>.ptr (Y l) off
 |.map l=>.map (Y l)
 |.func fn f c=>.func fn (sO Y f) (sO Y c)
 |.iface t x=>.iface t (x.qC Y)
 |.any=>.any
 |.bool b=>.bool b
 |.int k n=>.int k n
 |.str s=>.str s
 |.uE v=>.uE v
def sO(Y:Nat->Nat):List AV->List AV
 |[]=>[]
 |c::cs=>c.qC Y::sO Y cs
def Fg(Y:Nat->Nat):List (List AV)->List (List AV)
 |[]=>[]
 |r::rs=>sO Y r::Fg Y rs
end
theorem N1(Y:Nat->Nat):∀cs:List AV,(sO Y cs).length=cs.length
 |[]=>rfl
 |_::cs=>by simp [sO,N1 Y cs]
theorem uQ(Y:Nat->Nat):∀cs:List (List AV),(Fg Y cs).length=cs.length
 |[]=>rfl
 |_::cs=>by simp [Fg,uQ Y cs]
theorem abu(Y:Nat->Nat):∀a b:List AV,sO Y (a++b)=sO Y a++sO Y b
 |[],_=>rfl
 |_::a,b=>by simp [sO,abu Y a b]
theorem XS(Y:Nat->Nat):∀rs:List (List AV),(Fg Y rs).flatten=sO Y rs.flatten
 |[]=>rfl
 |r::rs=>by simp [Fg,abu,XS Y rs]
mutual
theorem M9(Y:Nat->Nat):∀x:AV,x.nb 0->x.qC Y=x
 |.mE _ _,h=>absurd h (cx _)
 |.own _ _ _ _ _,h=>absurd h (cx _)
 |.ptr _ _,h=>absurd h (cx _)
 |.map _,h=>absurd h (cx _)
 |.agg cs,h=>by rw[AV.qC,sG Y cs h]
 |.Je cs,h=>by rw[AV.qC,sG Y cs h]
 |.pp cs,h=>by rw[AV.qC,sG Y cs h]
 |.lS _ _ rows,h=>by rw[AV.qC,uM Y rows h]
 |.func _ f c,h=>by rw[AV.qC,sG Y f h.1,sG Y c h.2]
 |.iface _ x,h=>by rw[AV.qC,M9 Y x h]
 |.any,_|.bool _,_|.int _ _,_|.str _,_|.uE _,_=>by rw[AV.qC]
theorem sG(Y:Nat->Nat):∀xs:List AV,xB 0 xs->sO Y xs=xs
 |[],_=>rfl
 |x::xs,h=>by rw[sO,M9 Y x h.1,sG Y xs h.2]
theorem uM(Y:Nat->Nat):∀xs:List (List AV),Qv 0 xs->Fg Y xs=xs
 |[],_=>rfl
 |x::xs,h=>by rw[Fg,sG Y x h.1,uM Y xs h.2]
end
def kp.qC(Y:Nat->Nat):kp->kp
 |.cells cs=>.cells (sO Y cs)
 |.mE vA sz rows=>.mE vA sz (Fg Y rows)
 |.map es=>.map (es.map fun p=>(p.1.qC Y,p.2.qC Y))
 |.loop k kr st uK=>.loop k (sO Y kr) st uK
 |.iter s p=>.iter s p
 |.sU=>.sU
def uP.qC(Y:Nat->Nat):uP->uP
 |.ret r=>.ret (r.qC Y)
 |.panic x=>.panic (x.qC Y)
structure ahg(N:Nat)(Y:Nat->Nat)(E E':D4):Prop where
 n:∀l,l<N->Y l<E'.n
 oe:∀l,l<N->E'.U (Y l)=E.U l/\(E'.ln (Y l)=E.ln l\/E'.ln (Y l)=none)
 mem:∀b o u,¬ E.mu b o->E.w.cell? ⟨b,o,none⟩=some u-> ¬ E'.mu b o/\E'.w.cell? ⟨b,o,none⟩=some u
section

mutual
theorem pO.qC(h:ahg N Y E E'):∀(x:AV)(v:aMB),x.nb N->pO E x v->pO E' (x.qC Y) v
 |.any,_,_,_=>trivial
 |.bool _,_,_,r=>r
 |.int _ _,_,_,r=>r
 |.str _,_,_,r=>r
 |.uE _,_,_,r=>r
 |.agg cs,_,hb,⟨vs,hv,hr⟩=>⟨vs,hv,kQ.qC h cs _ hb hr⟩
 |.Je cs,_,hb,⟨vs,hv,hr⟩=>⟨vs,hv,kQ.qC h cs _ hb hr⟩
 | .lS t sz rows,_,hb,⟨base,cap,h1,h2,h3,h4,h5,h6⟩=>
   ⟨base,cap,by rw[uQ];exact h1,by rw[uQ];exact h2,fun e=>by rw[uQ];exact h3 e,h4,fun a ha wN=>h5 a ha (fun e=>wN (by rw[e];rfl)),fun a ha=>n8.qC h rows _ hb (h6 a ha)⟩
 |.mE l n,v,hb,⟨_,hsl,r⟩=>⟨h.n l hb,hsl,fun k hk=>by
     rcases (h.oe l hb).2 with e|e
     ·rw[e]at hk;rw[(h.oe l hb).1];exact r k hk
     ·rw[e]at hk;cases hk⟩
 |.own l i n o sz,v,hb,⟨_,hsl,r⟩=>⟨h.n l hb,hsl,fun k hk=>by
     rcases (h.oe l hb).2 with e|e
     ·rw[e]at hk;rw[(h.oe l hb).1];exact r k hk
     ·rw[e]at hk;cases hk⟩
 |.ptr l off,v,hb,⟨_,b,hφ,hv⟩=>⟨h.n l hb,b,by rw[(h.oe l hb).1];exact hφ,hv⟩
 |.map l,v,hb,⟨_,hv,r,hφ⟩=>⟨h.n l hb,by rw[(h.oe l hb).1];exact hv,r,by rw[(h.oe l hb).1];exact hφ⟩
 |.pp cs,_,hb,⟨b,off,hv,r⟩=>⟨b,off,hv,ou.qC h cs _ hb r⟩
 |.func _ f c,_,hb,⟨f',c',hv,r1,r2⟩=>⟨f',c',hv,kQ.qC h f _ hb.1 r1,kQ.qC h c _ hb.2 r2⟩
 |.iface _ x,_,hb,⟨u,hv,r⟩=>⟨u,hv,pO.qC h x _ hb r⟩
theorem kQ.qC(h:ahg N Y E E'):∀(cs:List AV)(vs:List aMB),xB N cs->kQ E cs vs->kQ E' (sO Y cs) vs
 |[],_,_,r=>r
 |c::cs,_,hb,⟨u,us,hv,r1,r2⟩=>⟨u,us,hv,pO.qC h c _ hb.1 r1,kQ.qC h cs _ hb.2 r2⟩
theorem ou.qC(h:ahg N Y E E'){b:Nat}:∀(cs:List AV)(off:Nat),xB N cs->ou E b off cs->ou E' b off (sO Y cs)
 |[],_,_,_=>trivial
 |c::cs,off,hb,⟨⟨hm,u,hu,h1,r1⟩,r2⟩=>
  let ⟨m,c'⟩:=h.mem b off u hm hu
  ⟨⟨m,u,c',h1,pO.qC h c _ hb.1 r1⟩,ou.qC h cs _ hb.2 r2⟩
theorem n8.qC(h:ahg N Y E E'){sz b:Nat}:∀(rs:List (List AV))(off:Nat),Qv N rs->n8 E sz b off rs->n8 E' sz b off (Fg Y rs)
 |[],_,_,_=>trivial
 |r::rs,off,hb,⟨hl,r1,r2⟩=>⟨by rw[N1];exact hl,ou.qC h r _ hb.1 r1,n8.qC h rs _ hb.2 r2⟩
end
structure asp(N:Nat)(Y:Nat->Nat)(E' E:D4):Prop where
 n:N<=E.n
 oe:∀l,l<N->E.U l=E'.U (Y l)/\E.ln l=E'.ln (Y l)
 mem:∀b o u,¬ E'.mu b o->E'.w.cell? ⟨b,o,none⟩=some u-> ¬ E.mu b o/\E.w.cell? ⟨b,o,none⟩=some u
mutual
def pO.C6(h:asp N Y E' E):∀(x:AV)(v:aMB),x.nb N->pO E' (x.qC Y) v->pO E x v
 |.any,_,_,_=>trivial
 |.bool _,_,_,r=>r
 |.int _ _,_,_,r=>r
 |.str _,_,_,r=>r
 |.uE _,_,_,r=>r
 |.agg cs,_,hb,⟨vs,hv,hr⟩=>⟨vs,hv,kQ.C6 h cs _ hb hr⟩
 |.Je cs,_,hb,⟨vs,hv,hr⟩=>⟨vs,hv,kQ.C6 h cs _ hb hr⟩
 | .lS t sz rows,_,hb,⟨base,cap,h1,h2,h3,h4,h5,h6⟩=>by
   rw[uQ]at h1 h2 h3;refine⟨base,cap,h1,h2,h3,h4,fun a ha wN=>h5 a ha (fun e=>wN ?_),fun a ha=>n8.C6 h rows _ hb (h6 a ha)⟩;have:=congrArg List.length e;rw[uQ]at this;exact cC this
 |.mE l n,v,hb,⟨_,hsl,r⟩=>⟨cj hb h.n,hsl,fun k hk=>by rw[(h.oe l hb).2]at hk;rw[(h.oe l hb).1];exact r k hk⟩
 |.own l i n o sz,v,hb,⟨_,hsl,r⟩=>⟨cj hb h.n,hsl,fun k hk=>by rw[(h.oe l hb).2]at hk;rw[(h.oe l hb).1];exact r k hk⟩
 |.ptr l off,v,hb,⟨_,b,hφ,hv⟩=>⟨cj hb h.n,b,by rw[(h.oe l hb).1];exact hφ,hv⟩
 |.map l,v,hb,⟨_,hv,r,hφ⟩=>⟨cj hb h.n,by rw[(h.oe l hb).1];exact hv,r,by rw[(h.oe l hb).1];exact hφ⟩
 |.pp cs,_,hb,⟨b,off,hv,r⟩=>⟨b,off,hv,ou.C6 h cs _ hb r⟩
 |.func _ f c,_,hb,⟨f',c',hv,r1,r2⟩=>⟨f',c',hv,kQ.C6 h f _ hb.1 r1,kQ.C6 h c _ hb.2 r2⟩
 |.iface _ x,_,hb,⟨u,hv,r⟩=>⟨u,hv,pO.C6 h x _ hb r⟩
def kQ.C6(h:asp N Y E' E):∀(cs:List AV)(vs:List aMB),xB N cs->kQ E' (sO Y cs) vs->kQ E cs vs
 |[],_,_,r=>r
 |c::cs,_,hb,⟨u,us,hv,r1,r2⟩=>⟨u,us,hv,pO.C6 h c _ hb.1 r1,kQ.C6 h cs _ hb.2 r2⟩
def ou.C6(h:asp N Y E' E){b:Nat}:∀(cs:List AV)(off:Nat),xB N cs->ou E' b off (sO Y cs)->ou E b off cs
 |[],_,_,_=>trivial
 |c::cs,off,hb,⟨⟨hm,u,hu,h1,r1⟩,r2⟩=>
  let ⟨m,c'⟩:=h.mem b off u hm hu
  ⟨⟨m,u,c',h1,pO.C6 h c _ hb.1 r1⟩,ou.C6 h cs _ hb.2 r2⟩
def n8.C6(h:asp N Y E' E){sz b:Nat}:∀(rs:List (List AV))(off:Nat),Qv N rs->n8 E' sz b off (Fg Y rs)->n8 E sz b off rs
 |[],_,_,_=>trivial
 |r::rs,off,hb,⟨hl,r1,r2⟩=>⟨by rw[N1]at hl;exact hl,ou.C6 h r _ hb.1 r1,n8.C6 h rs _ hb.2 r2⟩
end
end
def asq{E E':D4}{N:Nat}{Y:Nat->Nat}(h:ahg N Y E E'):∀{es:List (AV×AV)}{xs:List MapEntry},(∀p∈es,p.1.nb N/\p.2.nb N)->sN E es xs->sN E' (es.map fun p=>(p.1.qC Y,p.2.qC Y)) xs
 |[],_,_,r=>r
 |(k,v)::_,_,hb,⟨e,s,he,r1,r2,r3⟩=>
  ⟨e,s,he,pO.qC h k _ (hb (k,v) (by simp)).1 r1,pO.qC h v _ (hb (k,v) (by simp)).2 r2,asq h (fun p hp=>hb p (by simp [hp])) r3⟩
def al3{E E':D4}{N:Nat}{Y:Nat->Nat}(h:asp N Y E' E):∀{es:List (AV×AV)}{xs:List MapEntry},(∀p∈es,p.1.nb N/\p.2.nb N)->sN E' (es.map fun p=>(p.1.qC Y,p.2.qC Y)) xs->sN E es xs
 |[],_,_,r=>r
 |(k,v)::_,_,hb,⟨e,s,he,r1,r2,r3⟩=>
  ⟨e,s,he,pO.C6 h k _ (hb (k,v) (by simp)).1 r1,pO.C6 h v _ (hb (k,v) (by simp)).2 r2,al3 h (fun p hp=>hb p (by simp [hp])) r3⟩
theorem rz.qC(h:ahg N Y E E'){x:kp}(hb:sj N x)(hw:∀b,x.block hd b->E'.w.heap[b]? =E.w.heap[b]?)(r:rz E x hd):rz E' (x.qC Y) hd:=by
 cases x with
 |cells cs=>
  obtain⟨b,c,t,rfl,h2,rl,h3⟩:=r;exact⟨b,c,t,rfl,by rw[hw b rfl];exact h2,kQ.qC h _ _ hb rl,h3⟩
 |mE vA sz rows=>
  obtain⟨base,cap,rfl,h2,h3,h4,h5⟩:=r;refine⟨base,cap,by rw[uQ],by rw[uQ];exact h2,h3,?_,fun a0 ha hc=>?_⟩
  ·have key:∀rs:List (List AV),(∀r∈rs,r.length=sz)->∀r∈Fg Y rs,r.length=sz:=by
    intro rs;induction rs with
    |nil=>intro _ r hr;simp [Fg]at hr
    |cons q rs ih=>
     grind [Fg,N1]
   exact key rows h4
  ·obtain⟨h6,c,t,h7,h8,rl,h9⟩:=h5 a0 ha hc;subst ha;rw[uQ,XS];exact⟨h6,c,t,by rw[hw _ ⟨rfl,hc⟩];exact h7,h8,kQ.qC h _ _ (Jj hb) rl,h9⟩
 |map es=>
  obtain⟨r',en,cl,rfl,h2,rp⟩:=r;exact⟨r',en,cl,rfl,by rw[hw r' rfl];exact h2,asq h hb rp⟩
 |loop k kr st uK=>
  obtain⟨D,rec,rfl,h1,h2,h3,rl⟩:=r;exact⟨D,rec,rfl,by rw[hw (D+1) (.inl rfl)];exact h1,by rw[hw D (.inr rfl)];exact h2,h3,kQ.qC h _ _ hb rl⟩
 |iter s p=>
  obtain⟨b,rfl,h2⟩:=r;exact⟨b,rfl,by rw[hw b rfl];exact h2⟩
 |sU=>trivial
def rz.C6(h:asp N Y E' E){x:kp}(hb:sj N x)(hw: ∀b,(x.qC Y).block hd b->E.w.heap[b]? =E'.w.heap[b]?)(r:rz E' (x.qC Y) hd):rz E x hd:=by
 cases x with
 |cells cs=>
  obtain⟨b,c,t,rfl,h2,rl,h3⟩:=r;exact⟨b,c,t,rfl,by rw[hw b rfl];exact h2,kQ.C6 h _ _ hb rl,h3⟩
 |mE vA sz rows=>
  obtain⟨base,cap,rfl,h2,h3,h4,h5⟩:=r;rw[uQ]at h2 hw;refine⟨base,cap,by rw[uQ],h2,h3,?_,fun a0 ha hc=>?_⟩
  ·have key:∀rs:List (List AV),(∀r∈Fg Y rs,r.length=sz)->∀r∈rs,r.length=sz:=by
    intro rs;induction rs with
    |nil=>intro _ r hr;simp at hr
    |cons q rs ih=>
     grind [Fg,N1]
   exact key rows h4
  ·obtain⟨h6,c,t,h7,h8,rl,h9⟩:=h5 a0 ha hc;subst ha;rw[uQ]at rl h9;rw[XS]at rl;exact⟨h6,c,t,by rw[hw _ ⟨rfl,hc⟩];exact h7,h8,kQ.C6 h _ _ (Jj hb) rl,h9⟩
 |map es=>
  obtain⟨r',en,cl,rfl,h2,rp⟩:=r;exact⟨r',en,cl,rfl,by rw[hw r' rfl];exact h2,al3 h hb rp⟩
 |loop k kr st uK=>
  obtain⟨D,rec,rfl,h1,h2,h3,rl⟩:=r;exact⟨D,rec,rfl,by rw[hw (D+1) (.inl rfl)];exact h1,by rw[hw D (.inr rfl)];exact h2,h3,kQ.C6 h _ _ hb rl⟩
 |iter s p=>
  obtain⟨b,rfl,h2⟩:=r;exact⟨b,rfl,by rw[hw b rfl];exact h2⟩
 |sU=>trivial
def VZ{x:kp}{b o:Nat}:(x.qC Y).Ff h b o↔x.Ff h b o:=by
 cases x with
 |cells cs=>cases h with
  |pointer p=>cases p<;>exact cg
  |_=>exact cg
 |mE vA sz rows=>cases h with
  |slice p n c=>cases p<;>exact cg
  |_=>exact cg
 |map es=>cases h with
  |map p=>cases p<;>exact cg
  |_=>exact cg
 |loop k kr st uK=>cases h with
  |func q _ _=>cases q<;>exact cg
  |_=>exact cg
 |iter s p=>cases h with
  |pointer p=>cases p<;>exact cg
  |_=>exact cg
 |sU=>exact cg
def Cf{x:kp}{b:Nat}:(x.qC Y).block h b↔x.block h b:=by
 cases x with
 |cells cs=>cases h with
  |pointer p=>cases p<;>exact cg
  |_=>exact cg
 |mE vA sz rows=>cases h with
  |slice p n c=>cases p<;>exact cg
  |_=>exact cg
 |map es=>cases h with
  |map p=>cases p<;>exact cg
  |_=>exact cg
 |loop k kr st uK=>cases h with
  |func q _ _=>cases q<;>exact cg
  |_=>exact cg
 |iter s p=>cases h with
  |pointer p=>cases p<;>exact cg
  |_=>exact cg
 |sU=>exact cg
theorem Fm{x:kp}:nO (some (x.qC Y))=nO (some x):=by
 cases x<;>simp [nO,kp.qC,uQ]
def aAS{op:Op}{e:wO}(hq:ahb op=true)(h:lC P J op=some e):e.nw=[]:=by
 cases op with
 |move x=>cases h;rfl
 |assign x=>cases h;rfl
 |pick c x y=>simp only[lC]at h;split at h<;>cases h;rfl
 |unOp op t x=>simp only[lC]at h;split at h<;>cases h<;>rfl
 |fieldAddr t x i=>simp only[lC]at h;split at h<;>cases h<;>rfl
 |extract x i=>
  simp only[lC]at h
  grind
 |binOp op t x y u=>
  simp only[lC]at h;split at h
  ·cases h;rfl
  ·unfold aoV af1 at h;split at h
   ·grind
   unfold aiL at h
   grind
 |load t x=>
  simp only[lC]at h;split at h
  ·split at h
   ·split at h
    ·unfold ldV at h
     grind
    ·cases h
   ·cases h
  ·split at h<;>cases h;rfl
  ·grind
  ·unfold alJ at h
   grind [cK]
  ·cases h
 |store t x y=>
  simp only[lC]at h
  grind
 |field t x i=>
  simp only[lC]at h
  grind
 |index t x i=>
  simp only[lC]at h
  grind
 |indexAddr t x i=>
  simp only[lC]at h
  grind [cK]
 |_=>simp [ahb]at hq
def aAT{op:Op}{e:wO}(hq:ahb op=true)(h:lC P J op=some e):e.whole=false:=by
 cases op with
 |move x=>cases h;rfl
 |assign x=>cases h;rfl
 |pick c x y=>simp only[lC]at h;split at h<;>cases h;rfl
 |unOp op t x=>simp only[lC]at h;split at h<;>cases h<;>rfl
 |fieldAddr t x i=>simp only[lC]at h;split at h<;>cases h<;>rfl
 |extract x i=>
  simp only[lC]at h
  grind
 |binOp op t x y u=>
  simp only[lC]at h;split at h
  ·cases h;rfl
  ·unfold aoV af1 at h;split at h
   ·grind
   unfold aiL at h
   grind
 |load t x=>
  simp only[lC]at h;split at h
  ·split at h
   ·split at h
    ·unfold ldV at h
     grind
    ·cases h
   ·cases h
  ·split at h<;>cases h;rfl
  ·grind
  ·unfold alJ at h
   grind [cK]
  ·cases h
 |store t x y=>
  simp only[lC]at h
  grind
 |field t x i=>
  simp only[lC]at h
  grind
 |index t x i=>
  simp only[lC]at h
  grind
 |indexAddr t x i=>
  simp only[lC]at h
  grind [cK]
 |_=>simp [ahb]at hq
mutual
theorem ali{Y:Nat->Nat}{n:Nat}(hf:∀l,l<n->Y l=l):∀x:AV,x.nb n->x.qC Y=x
 |.mE l _,h=>by rw[AV.qC,hf l h]
 |.own l _ _ _ _,h=>by rw[AV.qC,hf l h]
 |.ptr l _,h=>by rw[AV.qC,hf l h]
 |.map l,h=>by rw[AV.qC,hf l h]
 |.agg cs,h=>by rw[AV.qC,Fo hf cs h]
 |.Je cs,h=>by rw[AV.qC,Fo hf cs h]
 |.pp cs,h=>by rw[AV.qC,Fo hf cs h]
 |.lS _ _ rows,h=>by rw[AV.qC,al4 hf rows h]
 |.func _ f c,h=>by rw[AV.qC,Fo hf f h.1,Fo hf c h.2]
 |.iface _ x,h=>by rw[AV.qC,ali hf x h]
 |.any,_|.bool _,_|.int _ _,_|.str _,_|.uE _,_=>by rw[AV.qC]
theorem Fo{Y:Nat->Nat}{n:Nat}(hf:∀l,l<n->Y l=l):∀xs:List AV,xB n xs->sO Y xs=xs
 |[],_=>rfl
 |x::xs,h=>by rw[sO,ali hf x h.1,Fo hf xs h.2]
theorem al4{Y:Nat->Nat}{n:Nat}(hf:∀l,l<n->Y l=l):∀xs:List (List AV),Qv n xs->Fg Y xs=xs
 |[],_=>rfl
 |x::xs,h=>by rw[Fg,Fo hf x h.1,al4 hf xs h.2]
end
theorem aDv(hf:∀l,l<n->Y l=l)(x:kp)(h:sj n x):x.qC Y=x:=by
 cases x with
 |cells cs=>simp only[kp.qC,Fo hf cs h]
 |mE vA sz rows=>simp only[kp.qC,al4 hf rows h]
 |map es=>
  simp only[kp.qC,kp.map.injEq];have h:∀p∈es,p.1.nb n/\p.2.nb n:=h;induction es with
  |nil=>rfl
  |cons p es ih=>
   have hp:=h p (by simp);rw[List.map_cons,ih (fun q hq=>h q (by simp [hq])) (fun q hq=>h q (by simp [hq])),ali hf _ hp.1,ali hf _ hp.2]
 |loop k kr st uK=>simp only[kp.qC,Fo hf kr h]
 |iter s p=>rfl
 |sU=>rfl
def al5(h:n<=m)(x:kp)(hx:sj n x):sj m x:=by
 cases x with
 |cells cs=>exact tB h _ hx
 |mE vA sz rows=>exact aqa h _ hx
 |map es=>exact fun p hp=>⟨AV.ajO h _ (hx p hp).1,AV.ajO h _ (hx p hp).2⟩
 |loop k kr st uK=>exact tB h _ hx
 |iter s p=>trivial
 |sU=>trivial
def tau(n l:Nat):Nat:=if l=n then n+1 else if l=n+1 then n else l
theorem aqi(n l:Nat):tau n (tau n l)=l:=by grind [tau]
theorem ahh(h:l<n):tau n l=l:=by grind [tau]
theorem aGs(h:l<n+2):tau n l<n+2:=by grind [tau]
def axS{H:List W}{x y z:W}(h:(H++[x]++[y])[l]? =some z):(H++[y]++[x])[tau H.length l]? =some z:=by
 have hl:l<H.length+2:=by grind
 rw[List.append_assoc]at h ⊢;by_cases h1:l<H.length
 ·grind [ahh]
 ·rw[cR (by omega)]at h;by_cases h2:l=H.length
  ·simp_all [tau]
  ·have h3:l=H.length+1:=by omega
   simp_all [tau]
def nr.swap{C:tg}{x y:kp}(hdf:avw H.length df)(HC:low<=H.length)(hH:∀z∈H,sj H.length z)(hx:sj 0 x)(hy:sj 0 y)
 (S:nr C U ⟨s,H++[x]++[y],low,df⟩ a w):nr C (fun l=>U (tau H.length l)) ⟨sO (tau H.length) s,H++[y]++[x],low,df⟩ a w:=by
 have IM:∀z∈H++[x]++[y],sj H.length z:=by
  intro z hz;simp only[db,List.mem_singleton]at hz;rcases hz with(hz|rfl)|rfl
  ·exact hH z hz
  ·exact al5 (dK _) _ hx
  ·exact al5 (dK _) _ hy
 have ahf:∀(l:Nat)(z:kp),(H++[y]++[x])[l]? =some z->(H++[x]++[y])[tau H.length l]? =some z:=fun l z h=>axS h
 have fwd:∀(l:Nat)(z:kp),(H++[x]++[y])[l]? =some z->(H++[y]++[x])[tau H.length l]? =some z:=fun l z h=>axS h
 have alH:∀b o,Sx (fun l=>U (tau H.length l)) (H++[y]++[x]) b o↔Sx U (H++[x]++[y]) b o:=by
  intro b o;constructor
  ·rintro⟨l,z,hz,hm⟩;exact⟨_,z,ahf l z hz,hm⟩
  ·rintro⟨l,z,hz,hm⟩;refine⟨_,z,fwd l z hz,?_⟩;simp only[aqi];exact hm
 have qC:ahg (H.length+2) (tau H.length) (C.env U (H++[x]++[y]) w) (C.env (fun l=>U (tau H.length l)) (H++[y]++[x]) w):=by
  refine⟨fun l hl=>?_,fun l hl=>?_,fun b o u hm hc=>⟨?_,hc⟩⟩
  all_goals grind [tg.env,aGs,aqi]
 have abg:xj C (fun l=>U (tau H.length l)) (H++[y]++[x]) w df a.defers:=S.defers.axI (fun xs vs ⟨f,hf⟩ r=>by
  have:=kQ.qC qC xs vs (tB (by omega) _ (hdf _ hf)) r
  rwa [Fo (fun l hl=>ahh hl) xs (hdf _ hf)]at this) (fun _ _ _=>rfl) (fun l z b hz hb=>.inl ⟨_,z,ahf l z hz,hb⟩)
 refine {kr:=?_,defers:=abg,sF:=?_,apart:=?_,Fj:=?_,size:=S.size,R3:=S.R3,tC:=S.tC,XG:=?_,Hz:=S.Hz,rest:=S.rest,low:=⟨S.low.1,by grind⟩,oe:=?_}
 ·refine kQ.qC qC _ _ ?_ S.kr;have:=kQ.nb _ _ S.kr;simpa [tg.env] using this
 ·intro l z hz;have h1:=ahf l z hz;have hm:=IM z (cQ h1);have:=rz.qC qC (al5 (by omega) _ hm) (fun _ _=>rfl) (S.sF _ z h1);rw[aDv (fun l hl=>ahh hl) z hm]at this;exact this
 ·intro l l' z z' b hz hz' hb Gs;have:=S.apart _ _ z z' b (ahf l z hz) (ahf l' z' hz') hb Gs
  grind [aqi]
 ·intro l z b o hz hb;exact S.Fj _ z b o (ahf l z hz) hb
 ·intro l z b o hz hm;exact S.XG _ z b o (ahf l z hz) hm
 ·intro l hl;have hN:C.N0=low:=S.low.1;have me:l<H.length:=by omega
  have:=S.oe l hl
  grind [ahh]
def aqj{x:kp}(r:rz E x h)(hx: ∀vA sz rows,x= .mE vA sz rows->(∃base n cap,h= .slice base n cap/\cap≠0/\base≠none)\/rows=[]):sj E.n x:=by
 cases x with
 |cells cs=>obtain⟨_,_,_,_,_,rl,_⟩:=r;exact kQ.nb _ _ rl
 |mE vA sz rows=>
  rcases hx vA sz rows rfl with⟨base,n,cap,rfl,hc,hb⟩|rfl
  ·obtain⟨aIm,aKu,h1,h2,h3,h4,h5⟩:=r;simp only[Value.slice.injEq]at h1;obtain⟨rfl,rfl,rfl⟩:=h1;cases base with
   |none=>exact absurd rfl hb
   |some a0=>
    obtain⟨_,c,t,_,_,rl,_⟩:=h5 a0 rfl hc;have hn:=kQ.nb _ _ rl
    have key:∀rows:List (List AV),xB E.n rows.flatten->Qv E.n rows:=by
     intro rows;induction rows with
     |nil=>intro _;trivial
     |cons q rs ih=>
      intro this;simp only[cP]at this
      have split:∀(p q:List AV),xB E.n (p++q)->xB E.n p/\xB E.n q:=by
       intro p;induction p with
       |nil=>intro q h;exact⟨trivial,h⟩
       |cons z p ihp=>intro q h;exact⟨⟨h.1,(ihp q h.2).1⟩,(ihp q h.2).2⟩
      exact⟨(split _ _ this).1,ih (split _ _ this).2⟩
    exact key rows hn
  ·trivial
 |map es=>obtain⟨_,_,_,_,_,rp⟩:=r;exact sN.nb rp
 |loop k kr st uK=>obtain⟨_,_,_,_,_,_,rl⟩:=r;exact kQ.nb _ _ rl
 |iter s p=>trivial
 |sU=>trivial
def V0{x:kp}(r:rz E x h):sj E.n x:=by
 refine aqj r ?_;rintro vA sz rows rfl;obtain⟨base,cap,rfl,h2,h3,_⟩:=r;cases base with
 |none=>
  simp_all
 |some a0=>
  by_cases hc:cap=0
  ·simp_all
  grind
def asr(w:aMG)(h:pX P t=some z):xB 0 z:=by
 obtain⟨v,_,hr,_⟩:=adJ (w:=w) h;exact kQ.nb _ _ (hr {w,mu:=fun _ _=>False,U:=fun _=>.tuple #[],ln:=fun _=>none,n:=0})
section

theorem ZI(h:XQ o=true):∃t,o.op=.alloc t/\o.guard=none:=by
 grind [XQ,Option.isNone_iff_eq_none]
def ui(n:Nat)(z:List AV):wO:={val:=.ptr n 0,nw:=[.cells z]}
def ajV(ho:o.op=.alloc t)(hg:o.guard=none)(hz:pX P t=some z):xP P ky o J (fun e=>e=ui J.heap.length z):=by
 refine .inr (.inl ⟨?_,?_,ui J.heap.length z,?_,?_,fun _=>cg⟩)
 ·unfold qE;rw[hg]
 ·rw[ho];rfl
 ·rw[ho];simp only[lC,hz];rfl
 ·exact trivial
def Iv{S:wO->Prop}(ho:o.op=.alloc t)(hg:o.guard=none)(h:xP P ky o J S):∃z,pX P t=some z/\∀e,S e↔e=ui J.heap.length z:=by
 rcases h with⟨hw,_⟩|⟨_,_,e,he,_,h⟩|⟨_,f,args,V,hc,_⟩|⟨_,f,args,e,hc,_⟩
 ·grind [qE]
 ·rw[ho]at he;simp only[lC]at he;split at he
  ·rename_i z hz;cases he;exact⟨z,hz,h⟩
  ·cases he
 ·rw[ho]at hc;cases hc
 ·rw[ho]at hc;cases hc
theorem Fp{p q:Nat}(h:abq ky p q=true):p<q/\(∃op oq tp tq,ky[p]? =some op/\ky[q]? =some oq/\op.op=.alloc tp/\oq.op=.alloc tq/\op.guard=none/\oq.guard=none/\An op=[]/\An oq=[])/\
 ∀k o,ky[k]? =some o->k≠p->k≠q->ahb o.op=true/\pY ky p k=pY ky q k:=by
 unfold abq at h;split at h
 ·rename_i op oq hp hq;simp only[ck,jP,List.isEmpty_iff]at h;obtain⟨⟨⟨⟨⟨h1,h2⟩,h3⟩,h4⟩,h5⟩,h6⟩:=h;obtain⟨tp,a1,a2⟩:=ZI h1
  grind [ZI]
 ·cases h
theorem IO(h1:pY ky i j=false)(h2:abq ky i j=false):akt ky i j=false:=by
 unfold akt;rw[h1,h2];rfl
theorem D7{op:Op}(h:ahb op=true):op≠ .alloc t:=by
 rintro rfl;cases h
theorem zw{op:Op}(h:ahb op=true):Cd op=false:=by
 cases op<;>first|rfl|(simp [ahb]at h)
end
section region
variable {C:tg}
def ao7(o:aMA)(listed:Array Bool):(o.after.all fun e=> !Region.binds .any e||listed.getD e.on false)=true↔ ∀d∈An o,listed.getD d false=true:=by
 grind [Array.all_eq_true_iff_forall_mem,An]
theorem Kw(listed:Array Bool)(i:Nat)(hsz:listed.size=ky.size):i∈Region.ready .any ky listed↔i<ky.size/\listed.getD i false=false/\∃o,ky[i]? =some o/\∀d∈An o,listed.getD d false=true:=by
 unfold Region.ready;simp only[List.mem_filter,List.mem_range];constructor
 ·rintro⟨h1,h2⟩;rw[ck]at h2;have ho:ky[i]? =some ky[i]:=cE h1;refine⟨h1,?_,ky[i],ho,?_⟩
  ·grind
  ·have h3:=h2.2;rw[ho]at h3;simp only[dx,dl]at h3;exact(ao7 _ _).1 h3
 ·rintro⟨h1,h2,o,ho,h3⟩;refine⟨h1,?_⟩;rw[ck];constructor
  ·grind
  ·rw[ho];simp only[dx,dl];exact(ao7 _ _).2 h3
def xl(L9:IN ky=true){listed:Array Bool}(hcl:∀j o,ky[j]? =some o->listed.getD j false=true->∀d∈An o,listed.getD d false=true){r:Nat}(Qy:ky[i]? =some oi)
 (D6:∀d∈An oi,listed.getD d false=true) (hq:pY ky r i=true):listed.getD r false=true:=by
 obtain⟨_,VW⟩:=Fl L9;exact ajU (L:=fun d=>listed.getD d false=true) (all:=ky.toList) (fun j o hj hL=>hcl j o (by simpa using hj) hL) ky.toList [] (by simp) (by simp) (fun k o hk=>(VW k o (by simpa using hk)).1) i oi (by simpa using Qy) D6 r hq
def SE{listed:Array Bool}(Qy:ky[i]? =some oi)(D6:∀d∈An oi,listed.getD d false=true)(hcl:∀j o,ky[j]? =some o->listed.getD j false=true->∀d∈An o,listed.getD d false=true):
 ∀j o,ky[j]? =some o->(listed.setIfInBounds i true).getD j false=true->∀d∈An o,(listed.setIfInBounds i true).getD d false=true:=by
 intro j o' hj hL d hd;by_cases e:j=i
 ·grind [getD_set_true]
 ·rw[getD_set_ne false (fun e'=>e e'.symm)]at hL
  grind [getD_set_true]
theorem adL{listed:Array Bool}(h:i<listed.size):(listed.setIfInBounds i true).getD i false=true:=by
 simp [Array.getD,h]
structure ahj(ky:Array aMA)(R:List Nat)(listed:Array Bool):Prop where
 pw:R.Pairwise (· < ·)
 sz:listed.size=ky.size
 mem:∀i,i∈R↔i<ky.size/\listed.getD i false=false
 cl:∀j o,ky[j]? =some o->listed.getD j false=true->∀d∈An o,listed.getD d false=true
def ahj.next{R:List Nat}{listed:Array Bool}(F:ahj ky R listed)(Qy:ky[i]? =some oi)(D6:∀d∈An oi,listed.getD d false=true):ahj ky (R.erase i) (listed.setIfInBounds i true):=by
 refine⟨F.pw.erase i,by simpa using F.sz,fun k=>?_,SE Qy D6 F.cl⟩;have hnd:R.Nodup:=F.pw.imp (fun h=>dc h);have hi:i<listed.size:=by have:=(dj.1 Qy).1;rw[F.sz];exact this
 rw[hnd.mem_erase_iff,F.mem k];constructor
 ·rintro⟨wN,h1,h2⟩;refine⟨h1,?_⟩;rw[getD_set_ne false (fun e=>wN e.symm)];exact h2
 ·rintro⟨h1,h2⟩
  have wN:k≠i:=by
   grind [adL]
  refine⟨wN,h1,?_⟩;rw[getD_set_ne false (fun e=>wN e.symm)]at h2;exact h2
def ayT (L9:IN ky=true) {p q:Nat} (htw:abq ky p q=true) (fuel:Nat)
 (ahf:∀(f:Nat)(R:List Nat)(listed:Array Bool)(U:Nat->aMB)(J:jX)(a:Act)(w:aMG),f<=fuel->R.length=f->ahj ky R listed->(p ∉ R)->nr C U J a w->aeb C.P ky (Q .normal) R [] J->wpAnyIn (Fk ro) 0 C.P .any ky (QC C Q) f listed a w)
 {oq:aMA} {tq:TypeId} {zq:List AV} (hoq:ky[q]? =some oq) (htq:oq.op=.alloc tq) (hgq:oq.guard=none) (hzq:pX C.P tq=some zq):
 ∀(f:Nat)(R:List Nat)(listed:Array Bool)(U U0:Nat->aMB)(J:jX)(a a0:Act)(w w0:aMG),f<=fuel->R.length=f+1->R.Pairwise (· < ·)->listed.size=ky.size->p∈R->q∈R->listed.getD q false=true->
 (∀i,i∈R↔i<ky.size/\(listed.getD i false=false\/i=q))->(∀j o,ky[j]? =some o->listed.getD j false=true->∀d∈An o,listed.getD d false=true)->
 nr C U (J.app oq.dst (ui J.heap.length zq)) a w->nr C U0 J a0 w0->aeb C.P ky (Q .normal) R [] J->wpAnyIn (Fk ro) 0 C.P .any ky (QC C Q) f listed a w:=by
 obtain⟨hpq,⟨op,oq',tp,tq',hop,aIn,htp,aLv,hgp,aLw,hdp,hdq⟩,avx⟩:=Fp htw;rw[hoq]at aIn;cases aIn;obtain⟨_,VW⟩:=Fl L9;intro f;induction f with
 |zero=>
  intro R listed U U0 J a a0 w w0 hf hlen hpw hsz hpR hqR hlq hR hcl S S0 h;exfalso
  match R,hlen with
  |[x],_=>
   grind
 |succ f ih=>
  intro R listed U U0 J a a0 w w0 hf hlen hpw hsz hpR hqR hlq hR hcl S S0 h;have hnd:R.Nodup:=hpw.imp (fun h=>dc h)
  have hpl:listed.getD p false=false:=by
   grind
  have hps:p<ky.size:=((hR p).1 hpR).1;refine⟨?_,?_⟩
  ·grind [Kw]
  ·intro i hi;rw[Kw listed i hsz]at hi;obtain⟨hi1,hi2,oi,Qy,D6⟩:=hi;have hiq:i≠q:=by grind
   have hiR:i∈R:=(hR i).2 ⟨hi1,.inl hi2⟩
   have al6:∀r∈R,pY ky r i=false:=by
    intro r hr;cases hq':pY ky r i with
    |false=>rfl
    |true=>
     exfalso;have hl:=xl L9 hcl Qy D6 hq';rcases ((hR r).1 hr).2 with h|h
     ·rw[hl]at h;cases h
     ·subst h;by_cases e:i=p
      ·subst e;rw[hop]at Qy;cases Qy;have:=xl L9 (listed:=cq ky.size false) (by grind [ow]) hop (by rw[hdp];intro d hd;cases hd) hq'
       simp_all
      ·have:=(avx i oi Qy e hiq).2;rw[hq']at this;have hl:=xl L9 hcl Qy D6 this;rw[hpl]at hl;cases hl
   by_cases eip:i=p
   ·
    subst eip;rw[hop]at Qy;cases Qy
    have hno:∀r∈R,r<i->akt ky r i=false:=by
     grind [IO,Fp,D7]
    obtain⟨o1,E1,ho1,aqk,hE1⟩:=asl L9 h hiR hpw hno;rw[hop]at ho1;cases ho1;obtain⟨zp,hzp,hd1⟩:=Iv htp hgp aqk;obtain⟨_,h1⟩:=hE1 _ ((hd1 _).2 rfl);have aGt:q∈R.erase i:=(hnd.mem_erase_iff).2 ⟨by omega,hqR⟩
    obtain⟨o2,E2,ho2,aGu,hE2⟩:=asl L9 h1 aGt (hpw.erase i) (by
     intro r hr me;have hr':=da hr;have hri:r≠i:=fun e=>by grind
     refine IO ?_ ?_
     ·cases ho':pY ky r q with
      |false=>rfl
      |true=>
       exfalso;have:=xl L9 (listed:=cq ky.size false) (by grind [ow]) hoq (by rw[hdq];intro d hd;cases hd) ho'
       simp_all
     grind [Fp,D7])
    rw[hoq]at ho2;cases ho2;obtain⟨zq',aIo,hd2⟩:=Iv htq hgq aGu;rw[hzq]at aIo;cases aIo;obtain⟨_,h2⟩:=hE2 _ ((hd2 _).2 rfl);refine M6 S hop (ajV htp hgp hzp) ?_;rintro e U' v w' rfl S'
    have hoQ:pY ky i q=false:=by
     cases ho':pY ky i q with
     |false=>rfl
     |true=>
      exfalso;have:=xl L9 (listed:=cq ky.size false) (by grind [ow]) hoq (by rw[hdq];intro d hd;cases hd) ho'
      simp_all
    obtain⟨al0,_⟩:=(VW q oq hoq).2 i op hpq hop hoQ;obtain⟨_,ap2,_⟩:=Oper.apart_spec al0;have hsl:xB J.heap.length J.kr:=kQ.nb _ _ S0.kr
    have hob:∀z∈J.heap,sj J.heap.length z:=by
     intro z hz;obtain⟨l,hl⟩:=dD hz;exact V0 (S0.sF l z hl)
    have S2:=nr.swap (s:=((J.app oq.dst (ui J.heap.length zq)).app op.dst (ui (J.app oq.dst (ui J.heap.length zq)).heap.length zp)).kr) (H:=J.heap) (x:=.cells zq) (y:=.cells zp) (low:=J.low) (df:=J.df) (NT.nb S0.defers.2.2) S0.low.2 hob (asr w0 hzq) (asr w0 hzp) (by
     have e:(J.app oq.dst (ui J.heap.length zq)).app op.dst (ui (J.app oq.dst (ui J.heap.length zq)).heap.length zp)=⟨((J.app oq.dst (ui J.heap.length zq)).app op.dst (ui (J.app oq.dst (ui J.heap.length zq)).heap.length zp)).kr,J.heap++[.cells zq]++[.cells zp],J.low,J.df⟩:=by
      cases oq.dst<;>cases op.dst<;>simp [jX.app,jX.put,ui,mN]
     rw[<-e];exact S')
    have e2:(⟨sO (tau J.heap.length) ((J.app oq.dst (ui J.heap.length zq)).app op.dst (ui (J.app oq.dst (ui J.heap.length zq)).heap.length zp)).kr,J.heap++[.cells zp]++[.cells zq],J.low,J.df⟩:jX)
     =(J.app op.dst (ui J.heap.length zp)).app oq.dst (ui (J.app op.dst (ui J.heap.length zp)).heap.length zq):=by
     have aGv:=Fo (Y:=tau J.heap.length) (fun l hl=>ahh hl) J.kr hsl
     have aDw:∀(d:Nat)(c:AV)(cs:List AV),sO (tau J.heap.length) (cs.set d c)=(sO (tau J.heap.length) cs).set d (c.qC (tau J.heap.length)):=by
      intro d c cs;induction cs generalizing d with
      |nil=>simp [sO]
      |cons x cs ih=>cases d with
       |zero=>simp [sO]
       |succ d=>simp [sO,ih]
     have aIp:(J.app oq.dst (ui J.heap.length zq)).heap.length=J.heap.length+1:=by simp [jX.app,ui,mN]
     have aIq:(J.app op.dst (ui J.heap.length zp)).heap.length=J.heap.length+1:=by simp [jX.app,ui,mN]
     have t0:tau J.heap.length J.heap.length=J.heap.length+1:=by simp [tau]
     have t1:tau J.heap.length (J.heap.length+1)=J.heap.length:=by simp [tau]
     rw[aIp,aIq];cases h1:oq.dst with
     |none=>cases h2:op.dst with
      |none=>simp [jX.app,jX.put,ui,mN,aGv]
      |some dp=>grind [jX.app,jX.put,ui,mN,AV.qC]
     |some dq=>cases h2:op.dst with
      |none=>grind [jX.app,jX.put,ui,mN,AV.qC]
      |some dp=>
       grind [jX.app,jX.put,ui,mN,AV.qC,dH]
    rw[e2]at S2
    have hF:ahj ky ((R.erase i).erase q) (listed.setIfInBounds i true):=by
     refine⟨(hpw.erase i).erase q,by simpa using hsz,fun k=>?_,SE hop D6 hcl⟩;have aKv:(R.erase i).Nodup:=hnd.erase i;rw[aKv.mem_erase_iff,hnd.mem_erase_iff,hR k];constructor
     ·rintro⟨wN,aKw,h1,h2⟩;refine⟨h1,?_⟩;rw[getD_set_ne false (fun e=>aKw e.symm)]
      grind
     ·rintro⟨h1,h2⟩
      have wN:k≠i:=by
       grind [adL]
      rw[getD_set_ne false (fun e=>wN e.symm)]at h2
      grind
    grind
   ·
    obtain⟨hqi,_⟩:=avx i oi Qy eip hiq
    have hno:∀r∈R,r<i->akt ky r i=false:=by
     intro r hr me;refine IO (al6 r hr) ?_;cases ht:abq ky r i with
     |false=>rfl
     |true=>
      exfalso;obtain⟨_,⟨_,o1,_,t1,_,ho1,_,ht1,_⟩,_⟩:=Fp ht;rw[Qy]at ho1;cases ho1;exact D7 hqi ht1
    obtain⟨o1,E1,ho1,aqk,hE1⟩:=asl L9 h hiR hpw hno;rw[Qy]at ho1;cases ho1
    have hnw:∀e,E1 e->e.nw=[]:=by
     intro e he;rcases aqk with⟨_,h⟩|⟨_,_,e',he',_,h⟩|⟨_,f',args,V,hc,_,_,_⟩|⟨_,f',args,_,hc,_,_⟩
     ·rw[(h e).1 he]
     ·rw[(h e).1 he];exact aAS hqi he'
     ·exfalso;have:=zw hqi;unfold nF at hc;split at hc
      ·rename_i ho';rw[ho']at this;simp [Cd]at this
      ·cases hc
     ·exfalso;have:=zw hqi;unfold nF at hc;split at hc
      ·rename_i ho';rw[ho']at this;simp [Cd]at this
      ·cases hc
    have hwh:∀e,E1 e->e.whole=false:=by
     intro e he;rcases aqk with⟨_,h⟩|⟨_,_,e',he',_,h⟩|⟨_,f',args,V,hc,_,_,_⟩|⟨_,f',args,_,hc,_,_⟩
     ·rw[(h e).1 he]
     ·rw[(h e).1 he];exact aAT hqi he'
     ·exfalso;have:=zw hqi;unfold nF at hc;split at hc
      ·rename_i ho';rw[ho']at this;simp [Cd]at this
      ·cases hc
     ·exfalso;have:=zw hqi;unfold nF at hc;split at hc
      ·rename_i ho';rw[ho']at this;simp [Cd]at this
      ·cases hc
    have hap:(∀d,oq.dst=some d->d ∉ oi.looksAt ky)/\(∀d,oi.dst=some d->oq.dst≠some d):=by
     rcases Nat.lt_or_gt_of_ne hiq with me|hgt
     ·have ho':pY ky i q=false:=by
       cases ho':pY ky i q with
       |false=>rfl
       |true=>
        exfalso;have:=xl L9 (listed:=cq ky.size false) (by intro j o _ hj;rw[ow]at hj;cases hj) hoq (by rw[hdq];intro d hd;cases hd) ho';rw[ow]at this;cases this
      obtain⟨hap,_⟩:=(VW q oq hoq).2 i oi me Qy ho';obtain⟨x1,x2,x3⟩:=Oper.apart_spec hap;exact⟨x3,x2⟩
     ·obtain⟨hap,_⟩:=(VW i oi Qy).2 q oq hgt hoq (al6 q hqR);obtain⟨x1,x2,x3⟩:=Oper.apart_spec hap;exact⟨x1,fun d hd hd'=>x2 d hd' hd⟩
    have aAO:∀e,E1 e->Ce ⟨i,J.heap.length,e⟩ (ui J.heap.length zq)=true:=by
     intro e he;simp [Ce,ui,Ji,hnw e he,hwh e he]
    have hfw:xP C.P ky oi (J.app oq.dst (ui J.heap.length zq)) E1:=aqk.fwd (j:=i) hap.1 aAO;refine M6 S Qy hfw ?_;intro e U' v w' he S';obtain⟨_,qz⟩:=hE1 e he;have aAP:=asj (d:=oi.dst) (d':=oq.dst) (j:=i) hap.2 (aAO e he) (aqk.lt he).2 (by simp [ui]);have hle:(J.app oi.dst e).heap.length=J.heap.length:=by simp [jX.app,hnw e he,uC]
    rw[<-aAP]at S'
    have hg:∃U1 a1 w1,nr C U1 (J.app oi.dst e) a1 w1:=by
     rcases aqk with⟨_,h⟩|⟨_,_,e',he',hp,h⟩|⟨_,f',args,V,hc,_,_,_⟩|⟨_,f',args,_,hc,_,_⟩
     ·rw[(h e).1 he,Kq];exact⟨U0,_,w0,S0.put oi.dst (v:=undef) rfl⟩
     ·rw[(h e).1 he];obtain⟨_,v1,w1,U1,_,_,S1⟩:=SB S0 he' hp;exact⟨U1,_,w1,S1⟩
     ·exfalso;have:=zw hqi;unfold nF at hc;split at hc
      ·rename_i ho';rw[ho']at this;simp [Cd]at this
      ·cases hc
     ·exfalso;have:=zw hqi;unfold nF at hc;split at hc
      ·rename_i ho';rw[ho']at this;simp [Cd]at this
      ·cases hc
    obtain⟨U1,a1,w1,S1⟩:=hg;rw[<-hle]at S';refine ih (R.erase i) _ U' U1 (J.app oi.dst e) _ a1 w' w1 (by omega) ?_ (hpw.erase i) (by simpa using hsz) ((hnd.mem_erase_iff).2 ⟨fun e'=>eip e'.symm,hpR⟩) ((hnd.mem_erase_iff).2 ⟨fun e'=>hiq e'.symm,hqR⟩) ?_ ?_ (SE Qy D6 hcl) S' S1 qz
    ·rw[dm hiR];omega
    ·exact getD_set_true hlq
    ·intro k;rw[hnd.mem_erase_iff,hR k];constructor
     ·rintro⟨wN,h1,h2⟩;refine⟨h1,?_⟩;rw[getD_set_ne false (fun e=>wN e.symm)];exact h2
     ·rintro⟨h1,h2⟩
      have wN:k≠i:=by
       intro e';subst e';rcases h2 with h2|h2
       ·rw[adL (by rw[hsz];exact hi1)]at h2;cases h2
       ·exact hiq h2
      refine⟨wN,h1,?_⟩;rw[getD_set_ne false (fun e=>wN e.symm)]at h2;exact h2
def aAU (L9:IN ky=true): ∀ (fuel:Nat) (R:List Nat) (listed:Array Bool) (U:Nat->aMB) (J:jX) (a:Act) (w:aMG),R.length=fuel->ahj ky R listed->
 nr C U J a w->aeb C.P ky (Q .normal) R [] J->wpAnyIn (Fk ro) 0 C.P .any ky (QC C Q) fuel listed a w:=by
 obtain⟨_,VW⟩:=Fl L9;intro fuel;induction fuel using Nat.strongRecOn with
 |ind fuel ih=>
  intro R listed U J a w hl F S h;have hpw:=F.pw;have hsz:=F.sz;have hR:=F.mem;have hnd:R.Nodup:=hpw.imp (fun h=>dc h);cases fuel with
  |zero=>
   have hR0:R=[]:=cC hl;subst hR0;refine⟨?_,U,J,S,h⟩;rw[List.eq_nil_iff_forall_not_mem];intro i hi;rw[Kw listed i hsz]at hi;have:=(hR i).2 ⟨hi.1,hi.2.1⟩;simp at this
  |succ fuel=>
   refine⟨?_,?_⟩
   ·intro avy;exfalso;cases R with
    |nil=>simp at hl
    |cons r R=>
     have hr:=(hR r).1 (by simp);have ho:ky[r]? =some ky[r]:=cE hr.1
     have:r∈Region.ready .any ky listed:=by
      rw[Kw listed r hsz];refine⟨hr.1,hr.2,_,ho,fun d hd=>?_⟩;have hdr:=(VW r _ ho).1 d hd;cases hld:listed.getD d false with
      |true=>rfl
      |false=>
       have hdR:=(hR d).2 ⟨by omega,hld⟩;rw[cV]at hpw;simp only[cY]at hdR;rcases hdR with rfl|hdR
       ·omega
       ·have:=hpw.1 d hdR;omega
     rw[avy]at this;simp at this
   ·intro i hi;rw[Kw listed i hsz]at hi;obtain⟨hi1,hi2,oi,Qy,D6⟩:=hi;have hiR:=(hR i).2 ⟨hi1,hi2⟩
    have al6:∀r∈R,pY ky r i=false:=by
     intro r hr;cases hq:pY ky r i with
     |false=>rfl
     |true=>
      exfalso;have:=xl L9 F.cl Qy D6 hq;have hr':=((hR r).1 hr).2;rw[hr']at this;cases this
    by_cases htw:∃p∈R,abq ky p i=true
    ·obtain⟨p,hpR,htw⟩:=htw;obtain⟨hpi,⟨op,oq,tp,tq,hop,hoq,htp,htq,hgp,hgq,hdp,hdq⟩,avx⟩:=Fp htw;rw[Qy]at hoq;cases hoq;have hpl:=((hR p).1 hpR).2
     obtain⟨o1,E1,ho1,aqk,hE1⟩:=asl L9 h hpR hpw (by
      intro r hr me;refine IO ?_ ?_
      ·cases ho':pY ky r p with
       |false=>rfl
       |true=>
        exfalso;have:=xl L9 (listed:=cq ky.size false) (by intro j o _ hj;rw[ow]at hj;cases hj) hop (by rw[hdp];intro d hd;cases hd) ho';rw[ow]at this;cases this
      ·cases ht:abq ky r p with
       |false=>rfl
       |true=>
        exfalso;obtain⟨_,⟨o1,_,t1,_,ho1,_,ht1,_⟩,_⟩:=Fp ht;exact D7 (avx r o1 ho1 (by omega) (by omega)).1 ht1)
     rw[hop]at ho1;cases ho1;obtain⟨zp,hzp,hd1⟩:=Iv htp hgp aqk;obtain⟨_,h1⟩:=hE1 _ ((hd1 _).2 rfl);have aGt:i∈R.erase p:=(hnd.mem_erase_iff).2 ⟨by omega,hiR⟩
     obtain⟨o2,E2,ho2,aGu,hE2⟩:=asl L9 h1 aGt (hpw.erase p) (by
      intro r hr me;have hr':=da hr;have hrp:r≠p:=fun e=>by subst e;exact(hnd.not_mem_erase) hr
      refine IO (al6 r hr') ?_;cases ht:abq ky r i with
      |false=>rfl
      |true=>
       exfalso;obtain⟨_,⟨o1,_,t1,_,ho1,_,ht1,_⟩,_⟩:=Fp ht;exact D7 (avx r o1 ho1 hrp (by omega)).1 ht1)
     rw[Qy]at ho2;cases ho2;obtain⟨zq,hzq,_⟩:=Iv htq hgq aGu;refine M6 S Qy (ajV htq hgq hzq) ?_;rintro e U' v w' rfl S';refine ayT L9 htw fuel (fun f R' aDx U' J' a' w' hf hl' F' _ S' h'=>ih f (by omega) R' aDx U' J' a' w' hl' F' S' h') Qy htq hgq hzq fuel R _ U' U J _ a w' w (cn _) hl hpw (by simpa using hsz) hpR hiR (adL (by rw[hsz];exact hi1)) ?_ (SE Qy D6 F.cl) S' S h;intro k;rw[hR k];by_cases hk:k=i
     ·subst hk;constructor
      ·rintro⟨h1,_⟩;exact⟨h1,.inr rfl⟩
      ·rintro⟨h1,_⟩;exact⟨h1,hi2⟩
     ·rw[getD_set_ne false (fun e=>hk e.symm)];constructor
      ·rintro⟨h1,h2⟩;exact⟨h1,.inl h2⟩
      ·rintro⟨h1,h2|h2⟩
       ·exact⟨h1,h2⟩
       ·exact absurd h2 hk
    ·have hno:∀r∈R,r<i->akt ky r i=false:=by
      intro r hr _;refine IO (al6 r hr) ?_;cases ht:abq ky r i with
      |false=>rfl
      |true=>exact absurd ⟨r,hr,ht⟩ htw
     obtain⟨o,E,ho,VT,hE⟩:=asl L9 h hiR hpw hno;refine M6 S ho VT ?_;intro e U' v w' he S';obtain⟨_,qz⟩:=hE e he;refine ih fuel (by omega) (R.erase i) _ U' _ _ w' ?_ (F.next Qy D6) S' qz;rw[dm hiR];omega
def avz{id:Nat}(hm:C.P.follows .mixedOrders=true)(L9:IN ky=true)(h:aeb C.P ky (Q .normal) (cG ky.size) [] J)(S:nr C U J a w):
 (Code.region id ky true).wpIn (Fk ro) 0 C.P (QC C Q) a w:=by
 refine wpIn_region_any hm ?_;refine aAU L9 ky.size (cG ky.size) _ U J a _ (by simp) ⟨cW,by simp,?_,?_⟩ (S.drew _) h
 ·intro i;simp only[List.mem_range];constructor
  ·intro hi;exact⟨hi,ow _ _⟩
  ·exact fun h=>h.1
 ·intro j o hj hL;rw[ow]at hL;cases hL
end region
section
variable {c:Nat}
def al7(P:aMF)(f:aMD)(args:List AV)(H:List kp)(x:AV)(H':List kp):Prop:=∀J':jX,J'.heap=H->BE P f args J' (fun o H2=>o=.panic x/\H2=H')
def ass(P:aMF)(ky:Array aMA)(c:Nat)(H:List kp)(x:AV)(H':List kp)(j:Nat)(o:aMA)(J:jX)(v:AV):Prop:=
 J.heap=H/\((j=c/\qE ky o J=some true/\∃f args,nF J o.op=some (f,args)/\al7 P f args H x H')\/
   pY ky c j=true\/
   (j≠c/\∃e:wO,e.up=[]/\e.nw=[]/\e.val=v/\xP P ky o J (fun e'=>e'=e)))
def avA(P:aMF)(ky:Array aMA)(c:Nat)(H:List kp)(x:AV)(H':List kp):List Nat->jX->Prop
 |[],_=>True
 |j::rest,J=>∃o v,ky[j]? =some o/\ass P ky c H x H' j o J v/\avA P ky c H x H' rest (J.put o.dst v)
theorem QA(J:jX)(d:Option Tmp)(v:AV):(J.put d v).heap=J.heap:=by cases d<;>rfl
theorem aAV{v:AV}{y:aME}(h:∀t,d=some t->y≠ .tmp t):(J.put d v).ev y=J.ev y:=by
 have:=avv (J:=J) (dst:=d) (e:={val:=v}) h
 rwa [Kq]at this
theorem ao8{v:AV}{t:Nat}(h:∀t',d=some t'->t≠t'):(J.put d v).kr[t]? =J.kr[t]? :=by
 have:=aiR (J:=J) (dst:=d) (e:={val:=v}) h
 rwa [Kq]at this
theorem aAW {d':Option Tmp}{v v':AV}(h:∀t,d=some t->d'≠some t):(J.put d v).put d' v'=(J.put d' v').put d v:=by
 cases d with
 |none=>cases d'<;>rfl
 |some t=>cases d' with
  |none=>rfl
  |some t'=>
   grind [jX.put,dH]
def ass.move{v:AV}(h:ass P ky c H x H' j o J v)(hh:J'.heap=J.heap)(XN:∀y∈o.op.operands,J'.ev y=J.ev y)(hw:qE ky o J'=qE ky o J):ass P ky c H x H' j o J' v:=by
 obtain⟨h0,h⟩:=h;refine⟨hh.trans h0,?_⟩;rcases h with⟨h1,h2,f,args,h3,h4⟩|h1|⟨h1,e,h2,h3,h4,h5⟩
 ·grind [Kv]
 ·exact .inr (.inl h1)
 ·exact .inr (.inr ⟨h1,e,h2,h3,h4,h5.local XN hw (fun _ _=>⟨⟨fun _ _=>by rw[hh],fun _=>by rw[hh]⟩,fun _=>hh⟩)⟩)
def aF0(L9:IN ky=true){i:Nat}: ∀{R:List Nat}{J:jX},avA P ky c H x H' R J->i∈R->R.Pairwise (· < ·)->(∀r∈R,r<i->pY ky r i=false)->
 ∃o v,ky[i]? =some o/\ass P ky c H x H' i o J v/\avA P ky c H x H' (R.erase i) (J.put o.dst v)
 |[],_,_,hi,_,_=>by simp at hi
 |r::R,J,⟨or',vr,hor,VT,h⟩,hi,hpw,asn=>by
  by_cases e:r=i
  ·grind
  ·have hiR:i∈R:=by
    grind
   rw[cV]at hpw;have hri:r<i:=hpw.1 i hiR;obtain⟨oi,v,Qy,aKx,hr⟩:=aF0 L9 h hiR hpw.2 (fun q hq me=>asn q (by simp [hq]) me);obtain⟨_,VW⟩:=Fl L9;obtain⟨al0,_⟩:=(VW i oi Qy).2 r or' hri hor (asn r (by simp) hri);obtain⟨a1,a2,a3⟩:=Oper.apart_spec al0;refine⟨oi,v,Qy,aKx.move (QA _ _ _).symm (fun y hy=>?_) (NA fun k b d hg hd=>?_),?_⟩
   ·grind [aAV,NB]
   ·grind [ao8,SC]
   ·have wN:(r::R).erase i=r::R.erase i:=List.erase_cons_tail (by simpa using e);rw[wN];refine⟨or',vr,hor,VT.move (QA _ _ _) (fun y hy=>?_) (NA fun k b d hg hd=>?_),?_⟩
    ·grind [aAV,NB]
    ·grind [ao8,SC]
    grind [aAW]
def al8:List aMA->List AV->List AV
 |[],s=>s
 |o::os,s=>al8 os (match o.dst with|some d=>s.set d .any|none=>s)
def ast(ky:Array aMA)(c:Nat):Bool:=(match ky[c]? with|some o=>Cd o.op|none=>false)&&
 (cG ky.size).all fun i=>if i<c then pY ky i c else if i=c then true else pY ky c i
def ayU{c:Nat}(h:ast ky c=true):(∀i,i<c->i<ky.size->pY ky i c=true)/\(∀i,c<i->i<ky.size->pY ky c i=true)/\∃o,ky[c]? =some o/\Cd o.op=true:=by
 grind [ast]
def XT(ky:Array aMA)(s:List AV):List AV:=al8 ky.toList s
def aiU: ∀(L:List aMA)(s:List AV)(d:Nat)(v:AV),(∃o∈L,o.dst=some d)->al8 L (s.set d v)=al8 L s
 |[],_,_,_,⟨_,h,_⟩=>by simp at h
 |o::L,s,d,v,h=>by
  simp only[al8];cases hd:o.dst with
  |none=>
   simp only;refine aiU L s d v ?_
   grind
  |some t=>
   simp only;by_cases e:t=d
   ·subst e;rw[List.set_set]
   ·rw[dH _ _ (fun h=>e h.symm)];refine aiU L _ d v ?_
    grind
theorem asu(ho:ky[i]? =some o)(v:AV):XT ky (J.put o.dst v).kr=XT ky J.kr:=by
 cases hd:o.dst with
 |none=>rfl
 |some d=>
  refine aiU _ _ d v ⟨o,?_,hd⟩
  grind
def kQ.aAX:∀{cs:List AV}{vs:List aMB}(d:Nat),kQ E cs vs->kQ E (cs.set d .any) vs
 |[],_,_,h=>h
 |_::_,_,0,⟨v,us,rfl,_,r⟩=>⟨v,us,rfl,trivial,r⟩
 |_::_,_,d+1,⟨v,us,rfl,h1,r⟩=>⟨v,us,rfl,h1,kQ.aAX d r⟩
def aiV{E:D4}:∀(L:List aMA){cs:List AV}{vs:List aMB},kQ E cs vs->kQ E (al8 L cs) vs
 |[],_,_,h=>h
 |o::L,cs,vs,h=>by
  simp only[al8];cases o.dst with
  |none=>exact aiV L h
  |some d=>exact aiV L (kQ.aAX d h)
end
section region
variable {C:tg}
def nr.XT{U:Nat->aMB}{J:jX}{a:Act}{w:aMG}(S:nr C U J a w)(ky:Array aMA):nr C U {J with kr:=XT ky J.kr} a w:={S with kr:=aiV _ S.kr,defers:=S.defers}
def aAY(L9:IN ky=true){c:Nat}{s0:List AV}(hQ:Q (.panic x) {kr:=XT ky s0,heap:=H',low,df}):
 ∀(fuel:Nat)(R:List Nat)(listed:Array Bool)(U:Nat->aMB)(J:jX)(a:Act)(w:aMG),R.length=fuel->ahj ky R listed->c∈R->
 nr C U J a w->XT ky J.kr=XT ky s0->J.low=low->J.df=df->avA C.P ky c H x H' R J->wpAnyIn (Fk ro) 0 C.P .any ky (QC C Q) fuel listed a w:=by
 obtain⟨_,VW⟩:=Fl L9;intro fuel;induction fuel with
 |zero=>
  grind
 |succ fuel ih=>
  intro R listed U J a w hl F hc S hs HC hdf h;have hpw:=F.pw;have hsz:=F.sz;have hR:=F.mem;have hnd:R.Nodup:=hpw.imp (fun h=>dc h);refine⟨?_,?_⟩
  ·intro avy;exfalso;cases R with
   |nil=>simp at hl
   |cons r R=>
    have hr:=(hR r).1 (by simp);have ho:ky[r]? =some ky[r]:=cE hr.1
    have:r∈Region.ready .any ky listed:=by
     rw[Kw listed r hsz]
     grind [cV]
    grind
  ·intro i hi;rw[Kw listed i hsz]at hi;obtain⟨hi1,hi2,oi,Qy,D6⟩:=hi;have hiR:=(hR i).2 ⟨hi1,hi2⟩
   have al6:∀r∈R,pY ky r i=false:=by
    intro r hr;cases hq:pY ky r i with
    |false=>rfl
    |true=>
     exfalso;have:=xl L9 F.cl Qy D6 hq
     grind
   obtain⟨o,v,ho,⟨hH,VT⟩,qz⟩:=aF0 L9 h hiR hpw (fun r hr _=>al6 r hr);rw[Qy]at ho;cases ho;rcases VT with⟨rfl,hw,f,args,aAZ,aGw⟩|asn|⟨wN,e,hup,hnw,hval,hS⟩
   ·unfold wpOpIn;simp only[Qy];rw[zj S hw];simp only[jQ];have xk:=aGw J hH;obtain⟨vs,ub,hr⟩:=Ks S aAZ xk.1;refine⟨fun _ _=>trivial,?_⟩;rw[Oper.semAt_eq _ _ _ (NW aAZ),ub,Oper.uponIn_enter];refine⟨fun h=>by simp [Fk,cv]at h,Jh.2 ?_⟩;refine(xk.2 C U a w rfl S vs hr).mono fun en w' ⟨o',U',H2,⟨ho',hH2⟩,S',tP⟩=>?_
    subst ho' hH2;cases en with
    |returned v=>exact tP.elim
    |panicked chain=>
     obtain⟨u,hu,hr⟩:=tP;refine⟨U',{kr:=XT ky s0,heap:=H2,low,df},x,u,?_,hQ,hu,hr⟩;have:=S'.XT ky
     grind
    |outgrown=>exact tP.elim
   ·rw[al6 c hc]at asn;cases asn
   ·refine M6 S Qy hS ?_;rintro e' U' v' w' rfl S'
    have aKy:J.app oi.dst e'=J.put oi.dst v:=by
     rw[show J.app oi.dst e'=J.app oi.dst {val:=v} by simp [jX.app,hup,hnw,hval],Kq]
    rw[aKy]at S';refine ih (R.erase i) _ U' _ _ w' ?_ (F.next Qy D6) ((hnd.mem_erase_iff).2 ⟨fun e=>wN e.symm,hc⟩) S' ?_ ?_ ?_ qz
    ·grind
    ·rw[asu Qy];exact hs
    ·rw[<-HC];cases oi.dst<;>rfl
    ·rw[<-hdf];cases oi.dst<;>rfl
def avB{id c:Nat}(hm:C.P.follows .mixedOrders=true)(L9:IN ky=true)(hc:c<ky.size)(h:avA C.P ky c J.heap x H' (cG ky.size) J)
 (hQ:Q (.panic x) {J with kr:=XT ky J.kr,heap:=H'}) (S:nr C U J a w):(Code.region id ky true).wpIn (Fk ro) 0 C.P (QC C Q) a w:=by
 refine wpIn_region_any hm ?_;refine aAY L9 hQ ky.size (cG ky.size) _ U J a _ (by simp) ⟨cW,by simp,?_,?_⟩ (by simpa using hc) (S.drew _) rfl rfl rfl h
 all_goals grind [ow]
def ao9(P:aMF)(ky:Array aMA)(c:Nat)(Q:nW->jX->Prop)(J:jX):Prop:=
 ∃o f args x H',ky[c]? =some o/\qE ky o J=some true/\nF J o.op=some (f,args)/\al7 P f args J.heap x H'/\Q (.panic x) {J with kr:=XT ky J.kr,heap:=H'}
def ayV(L9:IN ky=true){c k:Nat}(asv:ast ky c=true)(hk:ky.size=c+(k+1)):
 ∀(f:Nat)(R:List Nat)(listed:Array Bool)(U:Nat->aMB)(J:jX)(a:Act)(w:aMG),R.length+k=f->(∀r∈R,r<c)->ahj ky (R++cH c (k+1)) listed->nr C U J a w->aeb C.P ky (ao9 C.P ky c Q) R [] J->wpAnyIn (Fk ro) 0 C.P .any ky (QC C Q) (f+1) listed a w:=by
 obtain⟨_,VW⟩:=Fl L9;obtain⟨hb,ha,xk⟩:=ayU asv;intro f;induction f using Nat.strongRecOn with
 |ind f ih=>
  intro R listed U J a w hl hRc F S h;have hpw:=F.pw;have hsz:=F.sz;have hR:=F.mem;have aIr:R.Pairwise (· < ·):=(List.pairwise_append.1 hpw).1;have hnd:R.Nodup:=aIr.imp (fun h=>dc h);have aF1:c∈R++cH c (k+1):=db.2 (.inr (by rw[List.mem_range'_1];omega));refine⟨?_,?_⟩
  ·intro avy;exfalso;generalize R++cH c (k+1)=L at hpw hR aF1;cases L with
   |nil=>simp at aF1
   |cons r L=>
    have hr:=(hR r).1 (by simp);have ho:ky[r]? =some ky[r]:=cE hr.1
    have:r∈Region.ready .any ky listed:=by
     rw[Kw listed r hsz];refine⟨hr.1,hr.2,_,ho,fun d hd=>?_⟩
     grind [cV]
    grind
  ·intro i hi;rw[Kw listed i hsz]at hi;obtain⟨hi1,hi2,oi,Qy,D6⟩:=hi;have hiR:=(hR i).2 ⟨hi1,hi2⟩
   have al6:∀r∈R++cH c (k+1),pY ky r i=false:=by
    intro r hr;cases hq:pY ky r i with
    |false=>rfl
    |true=>
     exfalso;have:=xl L9 F.cl Qy D6 hq
     grind
   rcases db.1 hiR with aGx|hiC
   ·have hno:∀r∈R,r<i->akt ky r i=false:=fun r hr _=>IO (al6 r (db.2 (.inl hr))) (by
     cases ht:abq ky r i with
     |false=>rfl
     |true=>
      exfalso;obtain⟨_,_,avx⟩:=Fp ht;obtain⟨oc,hoc,hcc⟩:=xk;have h1:=hRc r hr;have h2:=hRc i aGx;rw[zw (avx c oc hoc (by omega) (by omega)).1]at hcc;cases hcc)
    obtain⟨o,E,ho,VT,hE⟩:=asl L9 h aGx aIr hno;have anW:=List.length_pos_of_mem aGx;obtain⟨f',rfl⟩:∃f',f=f'+1:=⟨f-1,by omega⟩;refine M6 S ho VT ?_;intro e U' v w' he S';obtain⟨_,qz⟩:=hE e he;refine ih f' (by omega) (R.erase i) _ U' _ _ w' ?_ (fun r hr=>hRc r (da hr)) ?_ S' qz
    ·grind
    ·have:=F.next Qy D6
     grind
   ·rw[List.mem_range'_1] at hiC;rcases Nat.eq_or_lt_of_le hiC.1 with e|me
    ·subst e
     have hR0:R=[]:=by
      cases R with
      |nil=>rfl
      |cons r R=>
       exfalso;have h1:=al6 r (by simp)
       grind
     subst hR0;obtain⟨o,fn,args,x,H',ho,hw,aAZ,aGw,hQ⟩:ao9 C.P ky c Q J:=h;rw[Qy]at ho;cases ho;unfold wpOpIn;simp only[Qy];rw[zj S hw];simp only[jQ];have xk:=aGw J rfl;obtain⟨vs,ub,hr⟩:=Ks S aAZ xk.1;refine⟨fun _ _=>trivial,?_⟩;rw[Oper.semAt_eq _ _ _ (NW aAZ),ub,Oper.uponIn_enter];refine⟨fun h=>by simp [Fk,cv]at h,Jh.2 ?_⟩;refine(xk.2 C U a w rfl S vs hr).mono fun en w' ⟨o',U',H2,⟨ho',hH2⟩,S',tP⟩=>?_
     subst ho' hH2;cases en with
     |returned v=>exact tP.elim
     |panicked chain=>
      obtain⟨u,hu,hr⟩:=tP;exact⟨U',{J with kr:=XT ky J.kr,heap:=H2},x,u,S'.XT ky,hQ,hu,hr⟩
     |outgrown=>exact tP.elim
    grind
def avC{id c:Nat}(hm:C.P.follows .mixedOrders=true)(L9:IN ky=true)(hc:c<ky.size)(asv:ast ky c=true)(h:aeb C.P ky (ao9 C.P ky c Q) (cG c) [] J)
 (S:nr C U J a w):(Code.region id ky true).wpIn (Fk ro) 0 C.P (QC C Q) a w:=by
 refine wpIn_region_any hm ?_;obtain⟨k,hk⟩:∃k,ky.size=c+(k+1):=⟨ky.size-c-1,by omega⟩
 have Fq:cG c++cH c (k+1)=cG ky.size:=by
  rw[cz,cz,hk]
  grind
 have hF:ahj ky (cG c++cH c (k+1)) (cq ky.size false):=by
  rw[Fq];refine⟨cW,by simp,?_,?_⟩
  all_goals grind [ow]
 have key:∀w',nr C U J a w'->wpAnyIn (Fk ro) 0 C.P .any ky (QC C Q) ky.size (cq ky.size false) a w':=by
  intro w' S';have:=ayV (ro:=ro) (Q:=Q) L9 asv hk (c+k) (cG c) (cq ky.size false) U J a w' (by simp) (by simp) hF S' h
  grind
 exact key _ (S.drew _)
def QB(tr:List Tr):Bool:=tr.all fun t=>t.e.up.isEmpty&&t.e.nw.isEmpty
def V1 (P:aMF) (ky:Array aMA) (c:Nat):List aMA->Nat->jX->Prop
 |[],_,_=>True
 |o::rest,j,J=>match pY ky c j with
  |true=>V1 P ky c rest (j+1) (J.put o.dst (.uE undef))
  |false=>match qE ky o J with
   |none=>False
   |some false=>V1 P ky c rest (j+1) (J.put o.dst (.uE undef))
   |some true=>nF J o.op=none/\match lC P J o.op with
    |some e=>(e.pre/\e.up=[]/\e.nw=[])/\V1 P ky c rest (j+1) (J.put o.dst e.val)
    |none=>False
theorem NC{P:aMF}{c:Nat}{H H':List kp}{x:AV}:∀(rest:List aMA)(j:Nat)(J:jX),ky.toList.drop j=rest->c<j->J.heap=H->V1 P ky c rest j J->avA P ky c H x H' (cH j rest.length) J
 |[],_,_,_,_,_,_=>trivial
 |o::rest,j,J,hd,hcj,hH,h=>by
  have ho:ky[j]? =some o:=by
   have:=congrArg (fun l:List aMA=>l[0]?) hd;simpa using this
  have qz:ky.toList.drop (j+1)=rest:=by
   grind [dz]
  simp only[dr,cZ];simp only[V1]at h;split at h
  ·rename_i hor;exact⟨o,.uE undef,ho,⟨hH,.inr (.inl hor)⟩,NC rest (j+1) _ qz (by omega) (by rw[QA];exact hH) h⟩
  ·split at h
   ·exact h.elim
   ·rename_i hw;exact⟨o,.uE undef,ho,⟨hH,.inr (.inr ⟨by omega,{val:=.uE undef},rfl,rfl,rfl,.inl ⟨hw,fun _=>cg⟩⟩)⟩,NC rest (j+1) _ qz (by omega) (by rw[QA];exact hH) h⟩
   ·rename_i hw;obtain⟨hc,h⟩:=h;split at h
    ·rename_i e he;obtain⟨⟨hp,hu,hn⟩,h⟩:=h;exact⟨o,e.val,ho,⟨hH,.inr (.inr ⟨by omega,e,hu,hn,rfl,.inr (.inl ⟨hw,hc,e,he,hp,fun _=>cg⟩)⟩)⟩,NC rest (j+1) _ qz (by omega) (by rw[QA];exact hH) h⟩
    ·exact h.elim
end region
def nW.then(next:jX->Prop)(Q:nW->jX->Prop):nW->jX->Prop
 |.normal,J=>next J
 |e,J=>Q e J
def nW.inBlock(id:Nat)(Q:nW->jX->Prop):nW->jX->Prop
 |.exit id',J=>if id'=id then Q .normal J else Q (.exit id') J
 |e,J=>Q e J
def nW.noGoto(Q:nW->jX->Prop):nW->jX->Prop
 |.goto _,_=>False
 |e,J=>Q e J
def wO.idle(e:wO):Bool:=e.rd.isEmpty&&e.up.isEmpty&&e.nw.isEmpty&& !e.whole
def Na(tr:List Tr)(j n:Nat)(e:wO):List Tr:=bif e.idle then tr else tr++[⟨j,n,e⟩]
def XU(ky:Array aMA)(tr:List Tr)(j:Nat)(e:wO):Prop:=e.idle=true\/Dh ky tr j e=true
def ahk (P:aMF) (ky:Array aMA) (Q:nW->jX->Prop):List aMA->Nat->List Tr->jX->Prop
 |[],_,_,J=>Q .normal J
 |o::rest,j,tr,J=>match qE ky o J with
  |none=>False
  |some b=>(b=true->match nF J o.op with
    |some (f,args)=>(∃r,Ku P f args (fun v=>v=r)/\ahk P ky Q rest (j+1) tr (J.put o.dst r))\/
      (∃e,NY P f args J e/\XU ky tr j e/\ahk P ky Q rest (j+1) (Na tr j J.heap.length e) (J.app o.dst e))\/
      ∃x H',al7 P f args J.heap x H'/\(ast ky j=true\/(QB tr=true/\V1 P ky j rest (j+1) (J.put o.dst (.uE undef))))/\Q (.panic x) {J with kr:=XT ky J.kr,heap:=H'}
    |none=>match lC P J o.op with
     |some e=>e.pre/\XU ky tr j e/\ahk P ky Q rest (j+1) (Na tr j J.heap.length e) (J.app o.dst e)
     |none=>False)/\
   (b=false->ahk P ky Q rest (j+1) tr (J.put o.dst (.uE undef)))
def aA0(P:aMF)(g:aME)(ps:Array Tmp)(as body:aMC)(Q:nW->jX->Prop)(J:jX):Prop:=
 ∀(C:tg)(U:Nat->aMB)(a:Act)(w:aMG),C.P=P->nr C U J a w->(Code.rangeFunc g ps as body).wpIn (Fk none) 0 P (QC C Q) a w
def xQ:aMC->Bool
 |.region _ ky _=>ky.toList.all fun o=> !axO o.op
 |.seq x y=>xQ x&&xQ y
 |.cond _ x y=>xQ x&&xQ y
 |.block _ x=>xQ x
 |.loop x=>xQ x
 |.scope x=>xQ x
 |.rangeFunc _ _ _ _=>false
 |_=>true
def awp(P:aMF):aMC->(nW->jX->Prop)->jX->Prop
 |.skip,Q,J=>Q .normal J
 |.region _ ky false,Q,J=>UB P ky ky.toList Q J
 |.region _ ky true,Q,J=>(P.follows .mixedOrders=true/\IN ky=true)/\ahk P ky Q ky.toList 0 [] J
 |.seq x y,Q,J=>awp P x (nW.then (fun J1=>∃J2,Kr J1 J2/\awp P y Q J2) Q) J
 | .cond c x y,Q,J=>match J.ev c with
   |.bool b=>(b=true->awp P x Q J)/\(b=false->awp P y Q J)
   |_=>False
 |.block id x,Q,J=>awp P x (nW.inBlock id Q) J
 |.loop x,Q,J=>∃(I:Nat->jX->Prop)(n:Nat)(J':jX),Kr J J'/\I n J'/\
     ∀n J,I n J->awp P x (nW.then (fun J1=>∃n' J',n'<n/\Kr J1 J'/\I n' J') Q) J
 |.exit id,Q,J=>Q (.exit id) J
 |.scope x,Q,J=>awp P x (nW.noGoto Q) J
 |.label _,Q,J=>Q .normal J
 |.ret,Q,J=>Q .ret J
 |.goto _,_,_=>False
 |.rangeFunc g ps as body,Q,J=>aA0 P g ps as body Q J
 |.refuse _,_,_=>False
theorem ahl{t:Tr}{e:wO}(h:e.idle=true):Ce t e=true:=by
 grind [wO.idle,Ce,Ji]
theorem aiW{t:Tr}{e:wO}(h:t.e.idle=true):Ce t e=true:=by
 grind [wO.idle,Ce,Ji]
def ajW{e:wO}(h:QB (Na tr j n e)=true):QB tr=true/\e.up=[]/\e.nw=[]:=by
 grind [Na,wO.idle,QB]
def aDy(P:aMF)(ky:Array aMA)(Q:nW->jX->Prop)(j m:Nat)(tr:List Tr)(J:jX):Prop:=
 QB tr=true/\∃c x H',j<=c/\c<j+m/\avA P ky c J.heap x H' (cH j m) J/\Q (.panic x) {J with kr:=XT ky J.kr,heap:=H'}
theorem aDy.step {tr':List Tr}{v:AV}(ho:ky[j]? =some o)(ht:QB tr'=true->QB tr=true/\∃e:wO,e.up=[]/\e.nw=[]/\e.val=v/\xP P ky o J (fun e'=>e'=e))
 (h:aDy P ky Q (j+1) m tr' (J.put o.dst v)):aDy P ky Q j (m+1) tr J:=by
 obtain⟨h1,c,x,H',h2,h3,h4,h5⟩:=h;obtain⟨k1,k2⟩:=ht h1;refine⟨k1,c,x,H',by omega,by omega,?_,?_⟩
 ·rw[cZ];rw[QA]at h4;exact⟨o,v,ho,⟨rfl,.inr (.inr ⟨by omega,k2⟩)⟩,h4⟩
 ·rw[asu ho]at h5;cases hd:o.dst<;>rw[hd]at h5<;>exact h5
theorem asw{e:wO}(hu:e.up=[])(hn:e.nw=[]):J.app d e=J.put d e.val:=by
 rw[show J.app d e=J.app d {val:=e.val,rd:=e.rd,pre:=e.pre} by simp [jX.app,hu,hn]];exact Kq _ _ _ _ _
def abv(P:aMF)(ky:Array aMA)(Q:nW->jX->Prop)(j n:Nat)(tr:List Tr)(J:jX):Prop:=
 ∃m K,aeb P ky K (cH j m) tr J/\((m=n/\K=Q .normal)\/(m<n/\ast ky (j+m)=true/\K=ao9 P ky (j+m) Q))
theorem abv.step{e:wO}(ho:ky[j]? =some o)(VT:xP P ky o J (fun e'=>e'=e))(hc:Dh ky tr j e=true)
 (h:abv P ky Q (j+1) n (tr++[⟨j,J.heap.length,e⟩]) (J.app o.dst e)):abv P ky Q j (n+1) tr J:=by
 obtain⟨m,K,h,hK⟩:=h;refine⟨m+1,K,?_,?_⟩
 ·rw[cZ];exact⟨o,_,ho,VT,fun e' he=>by subst he;exact⟨hc,h⟩⟩
 grind
def HD{P:aMF}{ky:Array aMA}{Q:nW->jX->Prop}: ∀(rest:List aMA)(j:Nat)(tr tr':List Tr)(J:jX),ky.toList.drop j=rest->(∀t∈tr',t∈tr\/t.e.idle=true)->
 ahk P ky Q rest j tr J->abv P ky Q j rest.length tr' J\/aDy P ky Q j rest.length tr J
 |[],_,_,_,_,_,_,h=>.inl ⟨0,Q .normal,h,.inl ⟨rfl,rfl⟩⟩
 |o::rest,j,tr,tr',J,hd,htr,h=>by
  have ho:ky[j]? =some o:=by
   have:=congrArg (fun l:List aMA=>l[0]?) hd;simpa using this
  have qz:ky.toList.drop (j+1)=rest:=by
   grind [dz]
  have axT:∀e,XU ky tr j e->Dh ky tr' j e=true:=by
   intro e he;unfold Dh;rw[List.all_eq_true];intro t ht;rcases he with he|he
   all_goals grind [ahl,Dh,aiW]
  have aF2:∀n e,∀t∈tr'++[⟨j,n,e⟩],t∈Na tr j n e\/t.e.idle=true:=by
   grind [Na]
  have aLr:∀x:AV,({val:=x}:wO).idle=true:=fun _=>rfl
  have aA1:∀n x,∀t∈tr'++[⟨j,n,{val:=x}⟩],t∈tr\/t.e.idle=true:=by
   grind
  simp only[ahk]at h;simp only[dr];split at h
  ·exact h.elim
  ·rename_i b hb;cases b with
   |false=>
    have VT:xP P ky o J (fun e=>e={val:=.uE undef}):=.inl ⟨hb,fun _=>cg⟩;rcases HD rest (j+1) tr (tr'++[⟨j,J.heap.length,{val:=.uE undef}⟩]) _ qz (aA1 _ _) (h.2 rfl)with hl|hr
    ·exact .inl (abv.step ho VT (axT _ (.inl rfl)) (by rw[Kq];exact hl))
    ·exact .inr (hr.step ho fun ht=>⟨ht,_,rfl,rfl,rfl,VT⟩)
   |true=>
    have h:=h.1 rfl;split at h
    ·rename_i f args hc;rcases h with⟨r,hf,hK⟩|⟨e,hf,hcp,hK⟩|⟨x,H',hp,hsp|⟨ht,hri⟩,hQ⟩
     ·have VT:xP P ky o J (fun e=>e={val:=r}):=.inr (.inr (.inl ⟨hb,f,args,_,hc,hf,⟨r,rfl⟩,fun e=>⟨fun he=>⟨r,rfl,he⟩,fun ⟨r',h1,h2⟩=>by rw[h2,h1]⟩⟩));rcases HD rest (j+1) tr (tr'++[⟨j,J.heap.length,{val:=r}⟩]) _ qz (aA1 _ _) hK with hl|hr
      ·exact .inl (abv.step ho VT (axT _ (.inl rfl)) (by rw[Kq];exact hl))
      ·exact .inr (hr.step ho fun ht=>⟨ht,_,rfl,rfl,rfl,VT⟩)
     ·have VT:xP P ky o J (fun e'=>e'=e):=.inr (.inr (.inr ⟨hb,f,args,e,hc,hf,fun _=>cg⟩));rcases HD rest (j+1) _ (tr'++[⟨j,J.heap.length,e⟩]) _ qz (aF2 _ _) hK with hl|hr
      ·grind [abv.step]
      ·right;have ht:=hr.1;obtain⟨t1,t2,t3⟩:=ajW ht;rw[asw t2 t3]at hr;exact hr.step ho fun _=>⟨t1,e,t2,t3,rfl,VT⟩
     ·exact .inl ⟨0,ao9 P ky j Q,(⟨o,f,args,x,H',ho,hb,hc,hp,hQ⟩:ao9 P ky j Q J),.inr ⟨by omega,hsp,rfl⟩⟩
     ·right;refine⟨ht,j,x,H',cn _,by omega,?_,hQ⟩;rw[cZ];refine⟨o,.uE undef,ho,⟨rfl,.inl ⟨rfl,hb,f,args,hc,hp⟩⟩,?_⟩
      grind [NC,QA]
    ·rename_i hc;split at h
     ·rename_i e he;have VT:xP P ky o J (fun e'=>e'=e):=.inr (.inl ⟨hb,hc,e,he,h.1,fun _=>cg⟩);rcases HD rest (j+1) _ (tr'++[⟨j,J.heap.length,e⟩]) _ qz (aF2 _ _) h.2.2 with hl|hr
      ·grind [abv.step]
      ·right;have ht:=hr.1;obtain⟨t1,t2,t3⟩:=ajW ht;rw[asw t2 t3]at hr;exact hr.step ho fun _=>⟨t1,e,t2,t3,rfl,VT⟩
     ·exact h.elim
section sound
variable {C:tg}
def axU{next:jX->Prop}{aF3:Act->aMG->Prop}(h:∀U J a w,nr C U J a w->next J->aF3 a w){e:Exit}
 (hq:QC C (nW.then next Q) e a w):Exit.then aF3 (QC C Q) e a w:=by
 cases e with
 |normal=>obtain⟨U,J,S,hn⟩:=hq;exact h U J a w S hn
 |exit id=>exact hq
 |goto l=>exact hq
 |ret=>exact hq
 |panic chain=>exact hq
 |outgrown=>exact hq
def avD{id:Nat}{e:Exit}(hq:QC C (nW.inBlock id Q) e a w):Exit.inBlock id (QC C Q) e a w:=by
 cases e with
 |exit id'=>
  obtain⟨U,J,S,h⟩:=hq;simp only[nW.inBlock]at h;simp only[Exit.inBlock];split at h
  ·rename_i e;rw[if_pos e];exact⟨U,J,S,h⟩
  ·rename_i e;rw[if_neg e];exact⟨U,J,S,h⟩
 |normal=>exact hq
 |goto l=>exact hq
 |ret=>exact hq
 |panic chain=>exact hq
 |outgrown=>exact hq
def ayW{e:Exit}(hq:QC C (nW.noGoto Q) e a w):Exit.noGoto (QC C Q) e a w:=by
 cases e with
 |goto l=>obtain⟨U,J,S,h⟩:=hq;exact h.elim
 |normal=>exact hq
 |exit id=>exact hq
 |ret=>exact hq
 |panic chain=>exact hq
 |outgrown=>exact hq
def aql{Q:Exit->Act->aMG->Prop}(I:Nat->Act->aMG->Prop)(n₀:Nat)(h₀:I n₀ a w)
 (round:∀m a w,I m a w->c.wpIn F n P (Exit.then (fun a' w'=>∃m',m'<m/\I m' a' w') Q) a w):(Code.loop c).wpIn F n P Q a w:=by
 refine wpIn_loop (fun a w=>∃m,I m a w) (fun a w=>leastOf (fun m=>I m a w)) ⟨n₀,h₀⟩ ?_;intro a w hI;refine wpIn_mono (round _ a w (leastOf_spec hI).1) ?_;intro e a' w' hq;cases e with
 |normal=>
  obtain⟨m',me,hI'⟩:=hq;exact⟨⟨m',hI'⟩,Nat.lt_of_le_of_lt ((leastOf_spec ⟨m',hI'⟩).2 m' hI') me⟩
 |exit id=>exact hq
 |goto l=>exact hq
 |ret=>exact hq
 |panic chain=>exact hq
 |outgrown=>exact hq
def Jk{b:Frame}:step P (lone (b.atR a (.code (.scope c)::k)) cs w)=.next (lone (b.atR a (.code c::.inScope c::k)) cs w):=
 step_lone_go (by simp [stepG,stepG.exec,Frame.atR])
def anX{b:Frame}:step P (lone (b.atR a (.inScope c::k)) cs w)=.next (lone (b.atR a k) cs w):=
 step_lone_go (by simp [stepG,stepG.exec,Frame.atR])
def aiX{Q:Exit->Act->aMG->Prop}(h:c.wpIn F n P (Exit.noGoto Q) a w):(Code.scope c).wpIn F n P Q a w:=by
 intro b k cs hro hb hr;have h0:(lone (b.atR a (.code (.scope c)::k)) cs w).fenced P F:=fenced_calm (fr:=b.atR a (.code (.scope c)::k)) hb hr rfl;obtain⟨e,a₁,w₁,hq,anY⟩:=h b (.inScope c::k) cs hro hb hr;cases e with
 |normal=>exact⟨.normal,a₁,w₁,hq,.head h0 Jk (StepsIn.trans anY (.one (fenced_calm (fr:=b.atR a₁ (.inScope c::k)) hb hr rfl) anX))⟩
 |exit id=>
  have hx:exitTo id (.inScope c::k)=exitTo id k:=by simp [exitTo]
  exact⟨.exit id,a₁,w₁,hq,fun k' hk=>.head h0 Jk (anY.1 k' (by rw[hx];exact hk)),
   fun hr' hk=>let ⟨k₁,h1,h2⟩:=anY.2 hr' (by rw[hx];exact hk);⟨k₁,h1,.head h0 Jk h2⟩⟩
 |goto l=>exact hq.elim
 |ret=>exact⟨.ret,a₁,w₁,hq,.of_steps (.one h0 Jk) anY⟩
 |panic ch=>exact⟨_,a₁,w₁,hq,.of_steps (.one h0 Jk) anY⟩
 |outgrown=>exact⟨_,a₁,w₁,hq,.of_steps (.one h0 Jk) anY⟩
def xR{ro:Option Nat}: ∀(c:aMC)(Q:nW->jX->Prop)(U:Nat->aMB)(J:jX)(a:Act)(w:aMG),(ro=none\/xQ c=true)->awp C.P c Q J->nr C U J a w->c.wpIn (Fk ro) 0 C.P (QC C Q) a w
 |.skip,Q,U,J,a,w,_,h,S=>wpIn_skip ⟨U,J,S,h⟩
 | .region id ky false,Q,U,J,a,w,hn,h,S=>by
   have:=ag7 (ro:=ro) rfl ky.toList 0 hn (by simp) U J a w h S
   grind [wpIn_region,cz]
 | .region id ky true,Q,U,J,a,w,_,h,S=>by
   obtain⟨⟨hm,L9⟩,h⟩:=h;rcases HD ky.toList 0 [] [] J (by simp) (by simp) h with⟨m,K,this,⟨hm',rfl⟩|⟨hm',hsp,rfl⟩⟩|⟨_,c,x,H',_,hc,hI,hQ⟩
   ·refine avz hm L9 ?_ S
    grind [cz]
   ·rw[Nat.zero_add]at this hsp;exact avC hm L9 (by simpa using hm') hsp (by rw[cz];exact this) S
   ·refine avB (c:=c) (x:=x) (H':=H') hm L9 (by simpa using hc) ?_ hQ S
    grind [cz]
 | .seq x y,Q,U,J,a,w,hn,h,S=>
   wpIn_seq (wpIn_mono (xR x _ U J a w (hn.imp id fun h=>(ck _ _ ▸ h:xQ x=true/\xQ y=true).1) h S) fun _ _ _ hq=>axU (fun U' J' a' w' S' h'=>by
    obtain⟨J2,He,h2⟩:=h';obtain⟨U2,S2⟩:=He C U' a' w' S';exact xR y Q U2 J2 a' w' (hn.imp id fun h=>(ck _ _ ▸ h:xQ x=true/\xQ y=true).2) h2 S2) hq)
 | .cond c x y,Q,U,J,a,w,hn,h,S=>by
   simp only[awp]at h;have hc:=S.ev c;split at h
   ·rename_i b hb;rw[hb]at hc;simp only[pO]at hc;refine wpIn_cond hc ?_;cases b with
    |true=>exact xR x Q U J a w (hn.imp id fun h=>(ck _ _ ▸ h:xQ x=true/\xQ y=true).1) (h.1 rfl) S
    |false=>exact xR y Q U J a w (hn.imp id fun h=>(ck _ _ ▸ h:xQ x=true/\xQ y=true).2) (h.2 rfl) S
   ·exact h.elim
 |.block id x,Q,U,J,a,w,hn,h,S=>wpIn_block (wpIn_mono (xR x _ U J a w hn h S) fun _ _ _ hq=>avD hq)
 | .loop x,Q,U,J,a,w,hn,h,S=>by
   obtain⟨I,n,J',He,hI,aGy⟩:=h;obtain⟨U',S'⟩:=He C U a w S;refine aql (fun n a w=>∃U J,I n J/\nr C U J a w) n ⟨U',J',hI,S'⟩ ?_;rintro n a w ⟨U,J,hI,S⟩;refine wpIn_mono (xR x _ U J a w hn (aGy n J hI) S) fun _ _ _ hq=>axU ?_ hq
   rintro U1 J1 a1 w1 S1 ⟨n',J2,me,He,hI'⟩;obtain⟨U2,S2⟩:=He C U1 a1 w1 S1
   grind
 |.exit id,Q,U,J,a,w,_,h,S=>wpIn_exit ⟨U,J,S,h⟩
 |.scope x,Q,U,J,a,w,hn,h,S=>aiX (wpIn_mono (xR x _ U J a w hn h S) fun _ _ _ hq=>ayW hq)
 |.label l,Q,U,J,a,w,_,h,S=>wpIn_label ⟨U,J,S,h⟩
 |.ret,Q,U,J,a,w,_,h,S=>wpIn_ret ⟨U,J,S,h⟩
 |.goto l,Q,U,J,a,w,_,h,S=>h.elim
 | .rangeFunc f p x y,Q,U,J,a,w,hn,h,S=>by
   rcases hn with rfl|hn
   ·exact h C U a w rfl S
   ·cases hn
 |.refuse s,Q,U,J,a,w,_,h,S=>h.elim
def nr.ahm{ds:List Deferred}(S:nr C U J {tmps,defers:=⟨.collected D,#[]⟩::ds} w):
 w.heap[D]? =some (.deferred (some []))/\nr C U J {tmps,defers:=ds} (w.putObj D (.deferred none)):=by
 obtain⟨hnd,Fq,hrd⟩:=S.defers;have hmk:agY (⟨.collected D,#[]⟩:Deferred)=true:=rfl;simp only[dw,hmk,jQ,Bool.not_true,di,if_false]at hnd hrd;obtain⟨D',hD,h1,h2,h3⟩:=Fq _ (cO) rfl;simp only[Deferred.mk.injEq,Target.collected.injEq,and_true]at hD;subst hD;refine⟨h1,?_⟩;have XP:∀b,b≠D->(w.putObj D (.deferred none)).heap[b]? =w.heap[b]? :=fun b hb=>World.putObj_heap_other hb
 have HA:∀b o,(w.putObj D (.deferred none)).cell? ⟨b,o,none⟩=w.cell? ⟨b,o,none⟩:=by
  grind [World.cell?,World.putObj_heap_same]
 have le:(C.env U J.heap w).Le J.heap.length (C.env U J.heap (w.putObj D (.deferred none))):=
  tg.XH (cn _) (fun _ _=>⟨rfl,rfl⟩) (fun b o u hm hc=>⟨hm,by rw[HA];exact hc⟩)
 have abg:xj C U J.heap (w.putObj D (.deferred none)) J.df ds:=by
  rw[dy]at hnd;refine⟨hnd.2,fun d hd hm=>?_,hrd.mono le⟩
  grind
 refine {kr:=kQ.mono le _ _ (kQ.nb _ _ S.kr) S.kr,defers:=abg,sF:=?_,apart:=S.apart,Fj:=S.Fj,size:=by grind [World.putObj_size],R3:=fun b o hb hm=>by rw[HA];exact S.R3 b o hb hm,tC:=?_,XG:=S.XG,Hz:=?_,rest:=S.rest,low:=S.low,oe:=S.oe}
 ·intro l x hx;exact rz.mono (S.sF l x hx) le (fun b hb=>XP b (fun e=>by subst e;exact h3 l x hx hb))
 ·intro b hb hm;rw[XP b (by omega)];exact S.tC b hb hm
 ·intro x hx;rw[<-S.Hz x hx]
  grind [World.frozen?]
def nr.axV{fn:Func}{R:aMH->aMG->Prop}{tm:Array aMB}(hu:u≠ .run)(hdf:J.df=[]):∀(ds:List Deferred)(w:aMG),nr C U J {tmps,defers:=ds} w->
 (∀w',nr C U J {tmps,defers:=[]} w'->LeavesIn cv 0 C.P fn tm R [] u w')->LeavesInM cv 0 C.P fn tm R ds u w
 |[],w,S,h=>h w S
 |d::ds,w,S,h=>by
  have hm:agY d=true:=by
   have:=S.defers.2.2;rw[hdf]at this;have aqm:(d::ds).filter (fun d=> !agY d)=[]:=this;rw[List.filter_eq_nil_iff]at aqm;simpa using aqm d (cO)
  obtain⟨D,hD,_⟩:=S.defers.2.1 d (cO) hm;subst hD;obtain⟨h1,S'⟩:=S.ahm;exact⟨hu,.inl ⟨D,_,rfl,run_takeDeferred h1,nr.axV hu hdf ds _ S' h⟩⟩
end sound
def al9 (P:aMF) (J:jX):ResultVar->Option AV
 |.tmp t=>some (J.kr.getD t .any)
 | .cell d t=>match qB P t,J.kr.getD d .any with
   |some (g,n),.ptr l off=>match J.heap[l]? with
    |some (.cells cs)=>l8 g n (cs.drop off)
    |_=>none
   |_,_=>none
def AE(P:aMF)(J:jX):List ResultVar->Option (List AV)
 |[]=>some []
 |r::rs=>match al9 P J r,AE P J rs with
  |some x,some xs=>some (x::xs)
  |_,_=>none
def Pq(P:aMF)(J:jX)(rs:List ResultVar):Option AV:=
 match AE P J rs with
 |some [x]=>some x
 |some xs=>some (.Je xs)
 |none=>none
section results
variable {C:tg}
def aqn(S:nr C U J a w){r:ResultVar}(h:al9 C.P J r=some x):
 ∃v,(match r with|.tmp t=>pure (a.tmps.getD t undef)|.cell d t=>(do loadVar t (<-asAddr (a.tmps.getD d undef))):Sem aMB).run C.P w=.ok v w/\pO (C.env U J.heap w) x v:=by
 cases r with
 |tmp t=>
  simp only[al9,cf]at h;subst h;exact⟨_,rfl,S.ev (.tmp t)⟩
 |cell d t=>
  simp only[al9]at h;have hd:=S.ev (.tmp d);simp only[jX.ev]at hd;split at h
  ·rename_i g n l off ht hp;rw[hp]at hd;split at h
   ·rename_i cs hl;obtain⟨u,hu,ru⟩:=asb S ht hl h hd;obtain⟨_,b,_,hv⟩:=hd;refine⟨u,?_,ru⟩;have hv':a.tmps.getD d undef=.pointer (some ⟨b,off,none⟩):=hv
    grind [asAddr,Instr.loadAt,Instr.sureAddr]
   ·cases h
  ·cases h
def ae9(S:nr C U J a w):∀{rs:List ResultVar}{xs:List AV},AE C.P J rs=some xs->
 ∃vs:List aMB,(rs.mapM fun|.tmp t=>pure (a.tmps.getD t undef)|.cell d t=>(do loadVar t (<-asAddr (a.tmps.getD d undef))):Sem (List aMB)).run C.P w=.ok vs w/\kQ (C.env U J.heap w) xs vs
 |[],_,h=>by simp only[AE,cf]at h;subst h;exact⟨[],rfl,rfl⟩
 |r::rs,xs,h=>by
  simp only[AE]at h;split at h
  ·rename_i x ys h1 h2;cases h;obtain⟨v,hv,rv⟩:=aqn S h1;obtain⟨vs,hvs,rvs⟩:=ae9 S h2;refine⟨v::vs,?_,v,vs,rfl,rv,rvs⟩
   simp_all
  ·cases h
def N2(S:nr C U J a w){fn:Func}(h:Pq C.P J fn.results.toList=some x):∃v,(results fn a.tmps).run C.P w=.ok v w/\pO (C.env U J.heap w) x v:=by
 unfold Pq at h
 have key:∀xs,AE C.P J fn.results.toList=some xs->∃vs:List aMB,(results fn a.tmps).run C.P w=.ok (if hh:vs.toArray.size=1 then vs.toArray[0] else .tuple vs.toArray) w/\kQ (C.env U J.heap w) xs vs:=by
  intro xs hx;obtain⟨vs,hvs,rvs⟩:=ae9 S hx;refine⟨vs,?_,rvs⟩;unfold results;rw[Array.mapM_eq_mapM_toList];simp only[Sem.run_bind,Sem.run_map,Sem.run_pure];generalize hq:Sem.run C.P (List.mapM _ fn.results.toList) w=q;have hq':q=.ok vs w:=by rw[<-hq];exact hvs
  subst hq';simp
 split at h
 ·grind [kQ]
 ·rename_i xs wN hx;cases h;obtain⟨vs,hv,rl⟩:=key _ hx;refine⟨_,hv,?_⟩;have hlen:=rl.length
  have hn1: ¬ vs.toArray.size=1:=by
   intro h1;have h2:xs.length=1:=by simp at h1;omega
   match xs,h2 with
   |[y],_=>exact wN y rfl
  rw[dif_neg hn1];exact⟨vs.toArray,rfl,rl⟩
 ·cases h
end results
def alj{V:AV->Prop}(h:Ku P f asx V)(hs:qX args asx)(hn:xB 0 args):Ku P f args V:=by
 obtain⟨he,_,hc⟩:=h;exact⟨he,hn,fun C U w hP h0 hN hM vs hr=>hc C U w hP h0 hN hM vs (hs _ _ hr)⟩
def ayX(V:AV->Prop)(H:List kp):Option AV->Prop
 |some x=>(frz 0 H x).nb 0/\∃r,Ma (frz 0 H x) r/\V r
 |none=>False
def aDz(P:aMF)(rs:List ResultVar)(V:AV->Prop):nW->jX->Prop
 |.normal,J=>J.df=[]/\ayX V J.heap (Pq P J rs)
 |.ret,J=>J.df=[]/\ayX V J.heap (Pq P J rs)
 |_,_=>False
def asy{fn:Func}{V:AV->Prop}(hf:P.funcs[f]? =some fn)(hb:fn.body=some c)(wN:(fn.name != "runtime.NumGoroutine")=true)(Nb:xB 0 args)
 (h:awp P c (aDz P fn.results.toList V) {kr:=args++ct (fn.ntmps-args.length) .any,heap:=[]}):Ku P f args V:=by
 refine⟨?_,Nb,fun C U w hP h0 hN hM vs hr=>?_⟩
 ·grind [enters]
 ·subst hP;refine(callsIn_wide (n:=0)).1 (callsIn_of_wp_marks hf hb trivial ?_);have hsz:vs.size=args.length:=by have:=hr.length;simpa using this
  have S:nr C U {kr:=args++ct (fn.ntmps-args.length) .any,heap:=[]} {tmps:=vs++cq (fn.ntmps-vs.size) undef,defers:=[]} w:=by
   refine {kr:=?_,defers:=xj.nil,sF:=by simp,apart:=by simp,Fj:=by simp,size:=by rw[h0];exact cn _,R3:=fun b o _ _=>by rw[h0],tC:=fun b _ _=>by rw[h0],XG:=by simp,Hz:=fun x _=>by rw[h0],rest:=by rw[h0];exact⟨rfl,rfl⟩,low:=⟨hN,cn _⟩,oe:=fun l hl=>by grind};simp only[cT,cX];refine hr.append ?_;rw[hsz];have:=kQ.Er (E:=C.env U [] w) (ct (fn.ntmps-args.length) undef);simpa using this
  refine wpIn_mono (xR (ro:=none) c _ U _ _ w (.inl rfl) h S) ?_;intro e a' w' hq
  have uA:∀U' J',nr C U' J' a' w'->J'.df=[]/\ayX V J'.heap (Pq C.P J' fn.results.toList)->
   LeavesInM cv 0 C.P fn a'.tmps (fun e w'=>∃r v U',V r/\e=.returned v/\pO (C.env U' [] w') r v/\w.heap.size<=w'.heap.size/\(∀b,b<w.heap.size->w'.heap[b]? =w.heap[b]?)/\
    (∀x,x.block<w.heap.size->w'.frozen? x=w.frozen? x)/\w'.output=w.output/\w'.os=w.os) a'.defers .returning w':=by
   intro U' J' S' ⟨hdf,UC⟩;refine nr.axV (by simp) hdf _ _ S' (fun w' S'=>?_);cases hx:Pq C.P J' fn.results.toList with
   |none=>rw[hx]at UC;exact UC.elim
   |some x=>
   rw[hx]at UC;obtain⟨hn,r0,aea,hV⟩:=UC;obtain⟨v,hv,rv⟩:=N2 S' hx;refine⟨v,hv,_,v,U',hV,rfl,aea _ _ (by have:=aiT S' (S'.aFZ (by rw[<-S'.low.1];exact hN)) x v;rw[<-S'.low.1,hN]at this;exact this hn rv),?_,?_,?_,?_⟩
   ·rw[<-h0];exact S'.size
   ·intro b hb;rw[<-h0];exact S'.tC b (by rw[h0];exact hb) (fun o=>hM b o)
   ·intro y hy;rw[<-h0];exact S'.Hz y (by rw[h0];exact hy)
   ·rw[<-h0];exact S'.rest
  cases e with
  |normal=>obtain⟨U',J',S',hq⟩:=hq;exact uA U' J' S' hq
  |ret=>obtain⟨U',J',S',hq⟩:=hq;exact uA U' J' S' hq
  |exit id=>obtain⟨_,_,_,hq⟩:=hq;exact hq.elim
  |goto l=>obtain⟨_,_,_,hq⟩:=hq;exact hq.elim
  |panic chain=>obtain⟨_,_,_,_,_,hq,_⟩:=hq;exact hq.elim
  |outgrown=>exact hq.elim
section co

def Co1.sub(h:Ma x y)(hn:y.nb n):Co1 H n x y:=.inl ⟨h,hn⟩
def Co.any:Co H n x .any:=.inl (.inl ⟨Ma.any _,trivial⟩)
def Co.P8(h:x.nb n):Co H n x x:=.inl (.inl ⟨Ma.refl _,h⟩)
def Co.sub(h:Ma x y)(hn:y.nb n):Co H n x y:=.inl (.inl ⟨h,hn⟩)
theorem Bf.nil:Bf H n [] []:=rfl
theorem Bf.cons(h:Co H n x y)(hs:Bf H n xs ys):Bf H n (x::xs) (y::ys):=⟨y,ys,rfl,h,hs⟩
theorem CoH.nil{xs:List kp}:CoH H n xs []:=by cases xs<;>trivial
def Bf.P8(h:xB n xs):Bf H n xs xs:=by
 induction xs with
 |nil=>rfl
 |cons x xs ih=>exact Bf.cons (Co.P8 h.1) (ih h.2)
end co
def V2{X:AV}(h:Ku P f asx (fun r=>r=X))(hs:Bf J.heap n args asx):BE P f args J (fun o H=>o=.ret X/\H=J.heap):=by
 obtain⟨he,hc⟩:=ag9 (J:=J) (K:=fun o H=>o=.ret X/\H=J.heap) h (fun r hr=>⟨by rw[hr],rfl⟩);exact⟨he,fun C U a w hP S vs hr=>hc C U a w hP S vs (Bf.aKt S hs hr)⟩
def stP:Option aMC->aMI
 |none=>.ready
 |some _=>.done
theorem aqo(c:Option aMC):stP c≠ .busy:=by cases c<;>simp [stP]
section
variable {C:tg}
def nr.aA2(S:nr C U J a w)(k:yo)(rec:Loop)(hs:kQ (C.env U J.heap w) kr rec.tmps.toList)
 (aah:rec.params=k.ps/\rec.assign=k.assign/\rec.body=k.body/\rec.state=.ready/\rec.pending=none/\rec.defers=w.heap.size):
 nr C (fun l=>if l=J.heap.length then .func (.yield (w.heap.size+1)) #[] #[] else U l) {J with heap:=J.heap++[.loop k kr .ready 0]} a ((w.alloc (.deferred (some []))).alloc (.loop rec)):=by
 let w':=(w.alloc (.deferred (some []))).alloc (.loop rec)
 have hsz:w'.heap.size=w.heap.size+2:=by
  show(World.more (World.more w _) _).heap.size=_;rw[adF,adF]
 have hold:∀b,b<w.heap.size->w'.heap[b]? =w.heap[b]? :=by
  intro b hb;show(World.more (World.more w _) _).heap[b]? =_
  grind [B8]
 have hD:w'.heap[w.heap.size]? =some (.deferred (some [])):=by
  show(World.more (World.more w _) _).heap[_]? =_
  grind [World.more]
 have hL:w'.heap[w.heap.size+1]? =some (.loop rec):=by
  have:=Km (World.more w (.deferred (some []))) (.loop rec);rw[adF]at this;exact this
 refine(S.ar4 (z:=.loop k kr .ready 0) (h':=.func (.yield (w.heap.size+1)) #[] #[]) (w':=w') (by rw[hsz];omega) hold (fun x=>?_) ⟨rfl,rfl⟩ (fun b hb=>by rcases hb with rfl|hb<;>omega) (fun E' le hw=>⟨w.heap.size,rec,rfl,by rw[hw];exact hL,by rw[hw];exact hD,aah,kQ.mono le _ _ (kQ.nb _ _ hs) hs⟩)).1;have h1:=wE (World.more w (.deferred (some []))) (.loop rec) (by intro c t lo hi h;cases h) x;have h2:=wE w (.deferred (some [])) (by intro c t lo hi h;cases h) x;exact h1.trans h2
def nr.aqp(S:nr C U J a w){k:yo}{st st':aMI}{ama:Int}{rec:Loop}(hl:J.heap[l]? =some (.loop k kr st uK))(hφ:U l=.func (.yield (D+1)) #[] #[])
 (hw:w.heap[D+1]? =some (.loop rec)):nr C U {J with heap:=J.heap.set l (.loop k kr st' ama)} a (w.putObj (D+1) (.loop {rec with state:=st',pending:=qW k.js ama})):=by
 have aAJ:=(dj.1 hw).1;have XP:∀b,b≠D+1->(w.putObj (D+1) (.loop {rec with state:=st',pending:=qW k.js ama})).heap[b]? =w.heap[b]? :=fun b hb=>World.putObj_heap_other hb
 refine S.avn hl rfl (by rw[World.putObj_size];exact cn _) (by grind [World.cell?,World.putObj_heap_same]) (fun b hb=>XP b (fun e=>hb (by rw[hφ];exact .inl e))) (fun x=>by grind [World.frozen?,World.putObj_heap_same]) ⟨rfl,rfl⟩ (fun b hb=>by rw[hφ]at hb ⊢;exact hb) (fun b o hb=>by rw[hφ]at hb ⊢;exact hb) (fun E' le hw2=>?_);obtain⟨D',aai,e1,g1,g2,g3,rl⟩:=S.sF l _ hl;rw[hφ]at e1;simp only[c9,Fn.yield.injEq,cJ,and_true]at e1;subst e1
 have hwr:aai=rec:=by
  have g1:w.heap[D+1]? =some (.loop aai):=g1;rw[hw]at g1;cases g1;rfl
 subst hwr;refine⟨D,{aai with state:=st',pending:=qW k.js ama},hφ,by rw[hw2];exact World.putObj_heap_same aAJ,?_,⟨g3.1,g3.2.1,g3.2.2.1,rfl,rfl,g3.2.2.2.2.2⟩,kQ.mono le _ _ (kQ.nb _ _ rl) rl⟩;rw[hw2,XP D (by omega)];exact g2
def nr.endLoop(S:nr C U J a w){k:yo}{st:aMI}(hl:J.heap[l]? =some (.loop k kr st uK))(hφ:U l= .func (.yield (D+1)) #[] #[])(hD:C.w0.heap.size<=D):
 nr C U {J with heap:=J.heap.set l .sU} {a with defers:=⟨.collected D,#[]⟩::a.defers} w:=by
 have me:l<J.heap.length:=(cc.1 hl).1;have HC:C.N0<=l\/l<C.N0:=by omega
 have aIs:∀b o,Sx U (J.heap.set l .sU) b o->Sx U J.heap b o:=by
  rintro b o ⟨j,x,hx,hm⟩;by_cases e:j=l
  ·grind [kp.Ff]
  ·rw[dG (fun h=>e h.symm)]at hx;exact⟨j,x,hx,hm⟩
 have Df:∀(j:Nat)(x:kp),(J.heap.set l .sU)[j]? =some x->(j=l/\x=.sU)\/(j≠l/\J.heap[j]? =some x):=by
  grind
 have hlen:∀j:Nat,nO (J.heap.set l .sU)[j]? =nO J.heap[j]? :=by
  intro j;by_cases e:j=l
  ·subst e;rw[List.getElem?_set_self me,hl];rfl
  grind
 have le:(C.env U J.heap w).Le J.heap.length (C.env U (J.heap.set l .sU) w):=
  tg.XH (by simp) (fun j _=>⟨rfl,hlen j⟩) (fun b o u hm hc=>⟨fun h=>hm (h.imp (aIs b o) id),hc⟩)
 have hbD:(kp.loop k kr st uK).block (U l) D:=by rw[hφ];exact .inr rfl
 have abg:xj C U (J.heap.set l .sU) w J.df (⟨.collected D,#[]⟩::a.defers):=by
  obtain⟨hnd,Fq,hrd⟩:=S.defers;have hmk:agY (⟨.collected D,#[]⟩:Deferred)=true:=rfl;refine⟨?_,fun d hd hm=>?_,?_⟩
  ·grind
  ·rcases cY.1 hd with rfl|hd
   ·refine⟨D,rfl,?_,hD,fun j x hx hb=>?_⟩
    ·obtain⟨D',aai,e1,g1,g2,_⟩:=S.sF l _ hl;rw[hφ]at e1;simp only[c9,Fn.yield.injEq,cJ,and_true]at e1;subst e1;exact g2
    ·rcases Df j x hx with⟨rfl,rfl⟩|⟨wN,hx⟩
     ·simp [kp.block]at hb
     ·exact wN (S.apart j l x _ D hx hl hb hbD)
   grind [kp.block]
  ·simp only[dw,hmk,Bool.not_true,di,if_false];exact hrd.mono le
 refine {kr:=kQ.mono le _ _ (kQ.nb _ _ S.kr) S.kr,defers:=abg,sF:=?_,apart:=?_,Fj:=?_,size:=S.size,R3:=S.R3,tC:=S.tC,XG:=?_,Hz:=S.Hz,rest:=S.rest,low:=⟨S.low.1,by simpa using S.low.2⟩,oe:=?_}
 ·intro j x hx;rcases Df j x hx with⟨rfl,rfl⟩|⟨_,hx⟩
  ·trivial
  ·exact rz.mono (S.sF j x hx) le (fun _ _=>rfl)
 ·intro j j' x x' b hx VO hb Gs;rcases Df j x hx with⟨rfl,rfl⟩|⟨_,hx⟩
  ·simp [kp.block]at hb
  ·rcases Df j' x' VO with⟨rfl,rfl⟩|⟨_,VO⟩
   ·simp [kp.block]at Gs
   ·exact S.apart j j' x x' b hx VO hb Gs
 ·intro j x b o hx hb;rcases Df j x hx with⟨rfl,rfl⟩|⟨_,hx⟩
  ·simp [kp.block]at hb
  ·exact S.Fj j x b o hx hb
 ·intro j x b o hx hm hb;rcases Df j x hx with⟨rfl,rfl⟩|⟨_,hx⟩
  ·simp [kp.Ff]at hm
  ·exact S.XG j x b o hx hm hb
 ·intro j hj;have:=S.oe j hj;rw[hlen j];exact this
def aIt(Q:nW->jX->Prop)(J:jX):Option aMC->Prop
 |none=>Q .normal J
 |some .ret=>Q .ret J
 |some (.exit id)=>Q (.exit id) J
 |_=>False
def asz {as:aMC}{js:List (Int×aMC)}{cap:List AV}(hg:J.ev g= .func (.func f) first cap)
 (xk:BE P f (first++[.map J.heap.length]++cap) {J with kr:=J.kr++[.map J.heap.length],heap:=J.heap++[.loop ⟨ps,as,body,js⟩ J.kr .ready 0]}
   (fun o H'=>∃r k s uK,o=.ret r/\H'[J.heap.length]? =some (.loop k s (stP (qW k.js uK)) uK)/\aIt Q {J with heap:=H'.set J.heap.length .sU} (qW k.js uK))):aA0 P g ps as body Q J:=by
 intro C U a w hP S;subst hP;refine wpIn_rangeFunc ?_;intro fn _;have hx:=S.ev g;rw[hg]at hx;obtain⟨f',c',hx,rf,rc⟩:=hx
 let lp:Loop:={state:=.ready,pending:=none,fn,tmps:=a.tmps,params:=ps,assign:=as,body,defers:=w.heap.size}
 let w1:=(w.alloc (.deferred (some []))).alloc (.loop lp)
 let aLV:aMB:=.func (.yield (w.heap.size+1)) #[] #[]
 have S1:=S.aA2 ⟨ps,as,body,js⟩ lp S.kr ⟨rfl,rfl,rfl,rfl,rfl,rfl⟩
 have rY:pO (C.env (fun l=>if l=J.heap.length then aLV else U l) (J.heap++[.loop ⟨ps,as,body,js⟩ J.kr .ready 0]) w1) (.map J.heap.length) aLV:=by
  refine⟨by simp [tg.env],by simp [tg.env,aLV],w.heap.size+1,?_⟩;simp [tg.env,aLV,hdl]
 have S2:nr C (fun l=>if l=J.heap.length then aLV else U l) {J with kr:=J.kr++[.map J.heap.length],heap:=J.heap++[.loop ⟨ps,as,body,js⟩ J.kr .ready 0]} {a with tmps:=a.tmps.push aLV} w1:=by
  refine {S1 with kr:=?_,defers:=S1.defers};simp only[cD];exact S1.kr.append ⟨aLV,[],rfl,rY,rfl⟩
 have hle:(C.env U J.heap w).Le J.heap.length (C.env (fun l=>if l=J.heap.length then aLV else U l) (J.heap++[.loop ⟨ps,as,body,js⟩ J.kr .ready 0]) w1):=by
  refine tg.XH (by simp) (fun l hl=>⟨by rw[if_neg (by omega)],by rw[cU hl]⟩) (fun b i u hm hc=>?_);have hb:=Sy hc
  have hold:w1.heap[b]? =w.heap[b]? :=by
   show(World.more (World.more w _) _).heap[b]? =_
   grind [World.more]
  refine⟨fun h=>?_,by grind [World.cell?]⟩;rcases h with⟨l,x,hx,hm'⟩|h
  ·by_cases hl:l<J.heap.length
   ·rw[cU hl]at hx;have hm':x.Ff (if l=J.heap.length then aLV else U l) b i:=hm';rw[if_neg (by omega)]at hm';exact hm (.inl ⟨l,x,hx,hm'⟩)
   ·have hl':l=J.heap.length:=by
     grind
    subst hl';simp at hx;subst hx;have hm':(kp.loop ⟨ps,as,body,js⟩ J.kr .ready 0).Ff (if J.heap.length=J.heap.length then aLV else U J.heap.length) b i:=hm';rw[if_pos rfl]at hm';rcases hm' with rfl|h<;>omega
  ·exact hm (.inr h)
 have SF:kQ (C.env (fun l=>if l=J.heap.length then aLV else U l) (J.heap++[.loop ⟨ps,as,body,js⟩ J.kr .ready 0]) w1) (first++[.map J.heap.length]++cap) (f'++ #[aLV]++c').toList:=by
  have hY:kQ (C.env (fun l=>if l=J.heap.length then aLV else U l) (J.heap++[.loop ⟨ps,as,body,js⟩ J.kr .ready 0]) w1) [.map J.heap.length] [aLV]:=⟨aLV,[],rfl,rY,rfl⟩;simp only[cT];exact((kQ.mono hle _ _ (kQ.nb _ _ rf) rf).append hY).append (kQ.mono hle _ _ (kQ.nb _ _ rc) rc)
 obtain⟨he,hc⟩:=xk
 have Md: ∃fnc,C.P.funcs[f]? =some fnc/\fnc.name≠ "runtime.NumGoroutine" /\fnc.body≠none:=by
  grind [enters]
 obtain⟨fnc,hf,aIu,ao3⟩:=Md;refine⟨w.heap.size+1,[⟨.collected w.heap.size,#[]⟩],w1,{target:=.fn (.func f) c',args:=f'++ #[aLV]},w1,f,f'++ #[aLV]++c',w1,?_,?_,fun _ _=>trivial,?_,fun h=>by simp [Fk,cv]at h,?_⟩
 ·exact run_enterLoop_outer _ _ _ _ _
 ·have XN:a.eval g=.func (.func f) f' c':=hx;have hY2:a.eval (.const aLV)=aLV:=rfl;simp [resolve,XN,Deferred.ofValue];rfl
 ·simp [invoke,callFunc,hf,aIu,ao3]
 ·refine Jh.2 ((hc C _ _ w1 rfl S2 _ SF).mono ?_);rintro e w' ⟨o,U2,H',⟨r,k,s,uK,rfl,hH,hj⟩,S3,tP⟩;cases e with
  |panicked chain=>exact tP.elim
  |outgrown=>exact tP.elim
  |returned v=>
   have aA3:U2 J.heap.length=aLV:=by
    have hsl:=S3.kr;have hlen:a.tmps.toList.length=J.kr.length:=S.kr.length;have:=hsl.drop J.kr.length;simp only[cD]at this;rw[cN rfl,cN hlen]at this;obtain⟨u,us,he2,r1,_⟩:=this;simp only[dh]at he2;obtain⟨rfl,_⟩:=he2;exact r1.2.1.symm
   have S4:nr C U2 {J with heap:=H'} a w':=by
    have hsl:=S3.kr;have hlen:a.tmps.toList.length=J.kr.length:=S.kr.length;have:=hsl.take J.kr.length;simp only[cD]at this;rw[cM rfl,cM hlen]at this;exact {S3 with kr:=this,defers:=S3.defers}
   obtain⟨D,aai,e1,g1,g2,g3,_⟩:=S4.sF _ _ hH;rw[aA3]at e1;simp only[aLV,c9,Fn.yield.injEq,cJ,and_true]at e1;subst e1;have g1:w'.heap[w.heap.size+1]? =some (.loop aai):=g1;have UC:=run_endLoop (P:=C.P) g1 (by grind [aqo]);rw[g3.2.2.2.2.1]at UC;refine⟨qW k.js uK,_,UC,?_⟩
   have S5:nr C U2 {J with heap:=H'.set J.heap.length .sU} {a with defers:=⟨.collected w.heap.size,#[]⟩::a.defers} (w'.putObj (w.heap.size+1) (.loop {aai with state:=.exhausted,pending:=qW k.js uK})):=by
    have h5:=S4.aqp (st':=.exhausted) (ama:=uK) hH aA3 g1
    have h6:=h5.endLoop (l:=J.heap.length) (D:=w.heap.size) (k:=k) (kr:=s) (st:=.exhausted) (uK:=uK) (by
     grind) aA3 S.size
    simp_all
   generalize qW k.js uK=pc at*;cases pc with
   |none=>exact⟨U2,_,S5,hj⟩
   |some c=>
    cases c with
    |ret=>exact wpIn_ret ⟨U2,_,S5,hj⟩
    |exit id=>exact wpIn_exit ⟨U2,_,S5,hj⟩
    |_=>exact hj.elim
end
inductive CO where
 |ret (e:wO)
 |pan (x:AV) (H:List kp)
structure kR(R:Type) where
 P:aMF
 body:aMC
 cl:aMD->List AV->List kp->Option (AV×List kp)
 cd:aMD->List AV->Option AV
 rK:List Nat->jX->Option jX
 cut:List Nat->jX->Option jX
 n:Nat
 out:jX->Option R
 cy:Nat->List AV->List kp->Option (AV×List kp):=fun _ _ _=>none
 nT:nW->jX->Option R:=fun _ _=>none
 js:List Nat->List (Int×aMC):=fun _=>[]
 uR:aMD->Bool:=fun _=>false
 ce:aMD->List AV->List kp->Option wO:=fun _ _ _=>none
 wF:aMD->Bool:=fun _=>false
 cp:aMD->List AV->List kp->Option (uP×List kp):=fun _ _ _=>none
 uO:aMD->Bool:=fun _=>false
 co:aMD->List AV->List kp->Option CO:=fun _ _ _=>none
 pT:AV->jX->Option R:=fun _ _=>none
def nJ(p:Prop)(x:Option R):Option R:= @ite _ p (Classical.propDecidable p) x none
theorem mO{p:Prop}{x:Option R}{r:R}:nJ p x=some r↔p/\x=some r:=by
 grind [nJ]
def avE{x:Option R}:nJ True x=x:=by simp [nJ]
theorem adM{p q:Prop}{x:Option R}:nJ (p/\q) x=nJ p (nJ q x):=by
 grind [nJ]
def apa{p:Prop}[Decidable p]{x:Option R}:nJ p x=bif decide p then x else none:=by
 grind [nJ]
def amb(x:aME)(b:Bool)(J:jX):jX:=
 match x with
 |.tmp t=>{J with kr:=J.kr.set t (.bool b)}
 |_=>J
def axW{x:aME}(h:J.ev x=.bool b):amb x b J=J:=by
 cases x with
 |tmp t=>
  simp only[jX.ev,List.getD]at h;cases hg:J.kr[t]? with
  |none=>rw[hg]at h;simp at h
  |some v=>
   rw[hg]at h;simp only[dl]at h;subst h;obtain⟨me,he⟩:=cc.1 hg;simp only[amb];rw[<-he,dA]
 |_=>rfl
def vB(ky:Array aMA)(o:aMA)(b:Bool)(J:jX):jX:=
 match o.guard with
 |none=>J
 |some (j,want)=>match (ky[j]?).bind (·.dst)with
  |some d=>match J.kr[d]? with
   |some (.bool _)=>{J with kr:=J.kr.set d (.bool (b==want))}
   |_=>J
  |none=>J
def aqq(h:qE ky o J=some b):vB ky o b J=J:=by
 unfold qE at h;unfold vB;split
 ·rfl
 ·rename_i j want hg;simp only[hg]at h;split
  ·rename_i d hd;simp only[hd]at h;split
   ·rename_i c hc;simp only[hc,cf]at h;have:(b==want)=c:=by subst h;cases c<;>cases want<;>rfl
    rw[this];obtain⟨me,he⟩:=cc.1 hc;rw[<-he,dA]
   ·rfl
  ·rfl
section

def vq (M:kR R) (ky:Array aMA):List aMA->jX->Option (nW×jX)
 |[],J=>some (.normal,J)
 |o::rest,J=>match qE ky o J with
  |none=>none
  |some b=>bif b then (match nF (vB ky o true J) o.op with
    |some (f,args)=>bif M.wF f then(match M.cp f args (vB ky o true J).heap with
      |some (.ret r,H')=>vq M ky rest (jX.put {vB ky o true J with heap:=H'} o.dst r)
      |some (.panic x,H')=>some (.panic x,{vB ky o true J with heap:=H'})
      |none=>none)
     else match M.cl f args (vB ky o true J).heap with
     |some (r,H')=>vq M ky rest (jX.put {vB ky o true J with heap:=H'} o.dst r)
     |none=>none
    |none=>match Gt (vB ky o true J) o.op with
     |some (l,args)=>match M.cy l args (vB ky o true J).heap with
      |some (r,H')=>vq M ky rest (jX.put {vB ky o true J with heap:=H'} o.dst r)
      |none=>none
     |none=>match lC M.P (vB ky o true J) o.op with
      |some e=>nJ e.pre (vq M ky rest ((vB ky o true J).app o.dst e))
      |none=>match Gu (vB ky o true J) o.op with
       |some p=>vq M ky rest ((vB ky o true J).dfr p o.dst)
       |none=>match VV (vB ky o true J) o.op with
        |some x=>some (.panic x,vB ky o true J)
        |none=>none)
   else vq M ky rest ((vB ky o false J).put o.dst (.uE undef))
def Kx (M:kR R) (ky:Array aMA):List aMA->Nat->List Tr->jX->Option (nW×jX)
 |[],_,_,J=>some (.normal,J)
 |o::rest,j,tr,J=>match qE ky o J with
  |none=>none
  |some b=>bif b then(match nF (vB ky o true J) o.op with
    |some (f,args)=>bif M.uO f then(match M.co f args (vB ky o true J).heap with
      |some (.ret e)=>nJ (e.pre/\XU ky tr j e) (Kx M ky rest (j+1) (Na tr j (vB ky o true J).heap.length e) ((vB ky o true J).app o.dst e))
      |some (.pan x H')=>nJ (ast ky j=true\/(QB tr=true/\V1 M.P ky j rest (j+1) ((vB ky o true J).put o.dst (.uE undef)))) (some (.panic x,{vB ky o true J with kr:=XT ky (vB ky o true J).kr,heap:=H'}))
      |none=>none)
     else bif M.uR f then(match M.ce f args (vB ky o true J).heap with
      |some e=>nJ (e.pre/\XU ky tr j e) (Kx M ky rest (j+1) (Na tr j (vB ky o true J).heap.length e) ((vB ky o true J).app o.dst e))
      |none=>none)
     else match M.cd f args with
     |some r=>Kx M ky rest (j+1) tr ((vB ky o true J).put o.dst r)
     |none=>none
    |none=>match lC M.P (vB ky o true J) o.op with
     |some e=>nJ (e.pre/\XU ky tr j e) (Kx M ky rest (j+1) (Na tr j (vB ky o true J).heap.length e) ((vB ky o true J).app o.dst e))
     |none=>none)
   else Kx M ky rest (j+1) tr ((vB ky o false J).put o.dst (.uE undef))
def lqN(rK:jX->Option jX)(body:jX->Option (nW×jX)):Nat->jX->Option (nW×jX)
 |0,_=>none
 |m+1,J=>match body J with
  |some (.normal,J')=>(rK J').bind (lqN rK body m)
  |r=>r
def asB(J:jX):Option aMC->Option (nW×jX)
 |none=>some (.normal,J)
 |some .ret=>some (.ret,J)
 |some (.exit id)=>some (.exit id,J)
 |_=>none
def aDA(J:jX)(H':List kp):Option kp->Option (nW×jX)
 |some (.loop lk _ st uK)=>nJ (st=stP (qW lk.js uK)) (asB {J with heap:=H'.set J.heap.length .sU} (qW lk.js uK))
 |_=>none
def aA4(M:kR R)(lk:yo)(J:jX):AV->Option (nW×jX)
 | .func (.func f) first cap=>match M.cl f (first++[.map J.heap.length]++cap) (J.heap++[.loop lk J.kr .ready 0]) with
   |some (_,H')=>aDA J H' H'[J.heap.length]?
   |none=>none
 |_=>none
def exec(M:kR R):aMC->List Nat->jX->Option (nW×jX)
 |.skip,_,J=>some (.normal,J)
 |.region _ ky false,_,J=>vq M ky ky.toList J
 |.region _ ky true,_,J=>nJ (M.P.follows .mixedOrders=true/\IN ky=true) (Kx M ky ky.toList 0 [] J)
 | .seq x y,p,J=>match exec M x (0::p) J with
   |some (.normal,J')=>(M.cut (1::p) J').bind (exec M y (1::p))
   |r=>r
 | .cond c x y,p,J=>match J.ev c with
   |.bool b=>bif b then exec M x (0::p) (amb c true J)else exec M y (1::p) (amb c false J)
   |_=>none
 | .block id x,p,J=>match exec M x (0::p) J with
   |some (.exit id',J')=>if id'=id then some (.normal,J')else some (.exit id',J')
   |r=>r
 |.loop x,p,J=>(M.rK p J).bind (lqN (M.rK p) (exec M x (0::p)) M.n)
 |.exit id,_,J=>some (.exit id,J)
 |.scope x,p,J=>exec M x (0::p) J
 |.label _,_,J=>some (.normal,J)
 |.ret,_,J=>some (.ret,J)
 |.goto _,_,_=>none
 |.rangeFunc g ps as body,p,J=>aA4 M ⟨ps,as,body,M.js p⟩ J (J.ev g)
 |.refuse _,_,_=>none
structure Fh(M:kR R):Prop where
 cl:∀f args J r H',M.cl f args J.heap=some (r,H')->BE M.P f args J (fun o EX=>o=.ret r/\EX=H')
 cd:∀f args r,M.cd f args=some r->Ku M.P f args (fun v=>v=r)
 rK:∀p J J',M.rK p J=some J'->Kr J J'
 cut:∀p J J',M.cut p J=some J'->Kr J J'
 cy:∀l args J r H',M.cy l args J.heap=some (r,H')->M5 M.P l args J (fun o EX=>o=.ret r/\EX=H')
 ce:∀f args J e,M.ce f args J.heap=some e->NY M.P f args J e
 cp:∀f args J o H',M.cp f args J.heap=some (o,H')->BE M.P f args J (fun o' EX=>o'=o/\EX=H')
 co:∀f args J,(∀e,M.co f args J.heap=some (.ret e)->NY M.P f args J e)/\∀x H',M.co f args J.heap=some (.pan x H')->al7 M.P f args J.heap x H'
def pM:∀(f:aMD)(args:List AV)(J:jX)(o:uP)(H':List kp),(fun _ _ _=>none:aMD->List AV->List kp->Option (uP×List kp)) f args J.heap=some (o,H')->BE P f args J (fun o' EX=>o'=o/\EX=H'):=by
 intro f args J o H' h;cases h
def qe:∀(f:aMD)(args:List AV)(J:jX),(∀e,(fun _ _ _=>none:aMD->List AV->List kp->Option CO) f args J.heap=some (.ret e)->NY P f args J e)/\∀x H',(fun _ _ _=>none:aMD->List AV->List kp->Option CO) f args J.heap=some (.pan x H')->al7 P f args J.heap x H':=by
 grind
def BE.mono {K':uP->List kp->Prop}(h:BE P f args J K)(hk:∀o H,K o H->K' o H):BE P f args J K':=by
 obtain⟨he,hc⟩:=h;refine⟨he,fun C U a w hP S vs hr=>(hc C U a w hP S vs hr).mono ?_⟩
 grind
def M5.mono {K':uP->List kp->Prop}(h:M5 P l args J K)(hk:∀o H,K o H->K' o H):M5 P l args J K':=by
 obtain⟨he,hc⟩:=h;refine⟨he,fun C U a w hP S vs hr D rec h1 h2=>(hc C U a w hP S vs hr D rec h1 h2).mono ?_⟩
 grind
def oR:∀(l:Nat)(args:List AV)(J:jX)(r:AV)(H':List kp),(fun _ _ _=>none:Nat->List AV->List kp->Option (AV×List kp)) l args J.heap=some (r,H')->M5 P l args J (fun o EX=>o=.ret r/\EX=H'):=by
 intro l args J r H' h;cases h
def Bg {M:kR R} (G:Fh M) {ky:Array aMA} {Q:nW->jX->Prop}: ∀ (rest:List aMA) (J J':jX) (e:nW),vq M ky rest J=some (e,J')->Q e J'->UB M.P ky rest Q J
 |[],J,J',e,h,hq=>by simp only[vq,cf,cm]at h;obtain⟨rfl,rfl⟩:=h;exact hq
 |o::rest,J,J',en,h,hq=>by
  simp only[vq]at h;simp only[UB];cases hw:qE ky o J with
  |none=>simp only[hw]at h;cases h
  |some b=>
   simp only[hw]at h;have hg:=aqq hw;cases b with
   |false=>
    refine⟨fun h=>(by cases h),fun _=>?_⟩;simp only[jL,hg]at h;exact Bg G rest _ J' _ h hq
   |true=>
    refine⟨fun _=>?_,fun h=>by cases h⟩;simp only[jK,hg]at h;cases hc:nF J o.op with
    |some p=>
     obtain⟨f,args⟩:=p;simp only[hc]at h ⊢;cases hi:M.wF f with
     |true=>
      simp only[hi,jK]at h;cases ha:M.cp f args J.heap with
      |none=>simp only[ha]at h;cases h
      |some q=>
       obtain⟨r,H'⟩:=q;refine(G.cp f args J r H' ha).mono ?_;cases r with
       |ret r=>
        simp only[ha]at h;rintro o' EX ⟨rfl,rfl⟩;exact Bg G rest _ J' _ h hq
       |panic x=>
        grind
     |false=>
      simp only[hi,jL]at h;cases ha:M.cl f args J.heap with
      |none=>simp only[ha]at h;cases h
      |some q=>
       obtain⟨r,H'⟩:=q;simp only[ha]at h;refine(G.cl f args J r H' ha).mono ?_;rintro o' EX ⟨rfl,rfl⟩;exact Bg G rest _ J' _ h hq
    |none=>
     simp only[hc]at h ⊢;cases hy:Gt J o.op with
     |some p=>
      obtain⟨l,args⟩:=p;simp only[hy]at h ⊢;cases ha:M.cy l args J.heap with
      |none=>simp only[ha]at h;cases h
      |some q=>
       obtain⟨r,H'⟩:=q;simp only[ha]at h;refine(G.cy l args J r H' ha).mono ?_;rintro o' EX ⟨rfl,rfl⟩;exact Bg G rest _ J' _ h hq
     |none=>
      simp only[hy]at h ⊢;cases he:lC M.P J o.op with
      |none=>
       simp only[he]at h ⊢;cases hd:Gu J o.op with
       |some p=>
        simp only[hd]at h ⊢;exact Bg G rest _ J' _ h hq
       |none=>
        grind
      |some e=>
       simp only[he]at h;rw[mO]at h;exact⟨h.1,Bg G rest _ J' _ h.2 hq⟩
def Jl {M:kR R} (G:Fh M) {ky:Array aMA} {Q:nW->jX->Prop}: ∀ (rest:List aMA) (j:Nat) (tr:List Tr) (J J':jX) (e:nW),Kx M ky rest j tr J=some (e,J')->Q e J'->ahk M.P ky Q rest j tr J
 |[],_,_,J,J',e,h,hq=>by simp only[Kx,cf,cm]at h;obtain⟨rfl,rfl⟩:=h;exact hq
 |o::rest,j,tr,J,J',en,h,hq=>by
  simp only[Kx]at h;simp only[ahk];cases hw:qE ky o J with
  |none=>simp only[hw]at h;cases h
  |some b=>
   simp only[hw]at h;have hg:=aqq hw;cases b with
   |false=>
    refine⟨fun h=>(by cases h),fun _=>?_⟩;simp only[jL,hg]at h;exact Jl G rest _ _ _ J' _ h hq
   |true=>
    refine⟨fun _=>?_,fun h=>(by cases h)⟩;simp only[jK,hg]at h;cases hc:nF J o.op with
    |some p=>
     obtain⟨f,args⟩:=p;simp only[hc]at h ⊢;cases hic:M.uO f with
     |true=>
      simp only[hic,jK]at h;cases ha:M.co f args J.heap with
      |none=>simp only[ha]at h;cases h
      |some q=>
       cases q with
       |ret e=>
        simp only[ha]at h;rw[mO]at h;exact .inr (.inl ⟨e,(G.co f args J).1 e ha,h.1.2,Jl G rest _ _ _ J' _ h.2 hq⟩)
       |pan x H'=>
        simp only[ha]at h;rw[mO]at h;obtain⟨h1,h⟩:=h;simp only[cf,cm]at h;obtain⟨rfl,rfl⟩:=h;exact .inr (.inr ⟨x,H',(G.co f args J).2 x H' ha,h1,hq⟩)
     |false=>
     simp only[hic,jL]at h;cases hi:M.uR f with
     |true=>
      simp only[hi,jK]at h;cases ha:M.ce f args J.heap with
      |none=>simp only[ha]at h;cases h
      |some e=>
       simp only[ha]at h;rw[mO]at h;exact .inr (.inl ⟨e,G.ce f args J e ha,h.1.2,Jl G rest _ _ _ J' _ h.2 hq⟩)
     |false=>
     simp only[hi,jL]at h;cases ha:M.cd f args with
     |none=>simp only[ha]at h;cases h
     |some r=>
      simp only[ha]at h;exact .inl ⟨r,G.cd f args r ha,Jl G rest _ _ _ J' _ h hq⟩
    |none=>
     simp only[hc]at h ⊢;cases he:lC M.P J o.op with
     |none=>simp only[he]at h;cases h
     |some e=>
      simp only[he]at h;rw[mO]at h;exact⟨h.1.1,h.1.2,Jl G rest _ _ _ J' _ h.2 hq⟩
def amc{rK:jX->Option jX}{body:jX->Option (nW×jX)}(hb: ∀J l J',body J≠some (.goto l,J')): ∀(m:Nat)(J:jX)(l:Nat)(J':jX),lqN rK body m J≠some (.goto l,J')
 |0,_,_,_=>by simp [lqN]
 |m+1,J,l,J'=>by
  intro h;simp only[lqN]at h;cases hx:body J with
  |none=>simp only[hx]at h;cases h
  |some r=>
   obtain⟨e1,J1⟩:=r;cases e1 with
   |normal=>
    simp only[hx]at h;cases hn:rK J1 with
    |none=>grind
    |some J2=>simp only[hn,cw]at h;exact amc hb m J2 l J' h
   |goto l'=>exact hb _ _ _ hx
   |_=>grind
theorem avF{M:kR R}:∀(rest:List aMA)(J:jX)(l:Nat)(J':jX),vq M ky rest J≠some (.goto l,J'):=by
 intro rest;induction rest with
 |nil=>grind [vq]
 |cons o rest ih=>
  intro J l J' h;simp only[vq]at h
  grind [mO]
theorem aA5{M:kR R}:∀(rest:List aMA)(j:Nat)(tr:List Tr)(J:jX)(l:Nat)(J':jX),Kx M ky rest j tr J≠some (.goto l,J'):=by
 intro rest;induction rest with
 |nil=>grind [Kx]
 |cons o rest ih=>
  grind [Kx,mO]
theorem aA6{c:Option aMC}:asB J c≠some (.goto l,J'):=by
 intro h;unfold asB at h;split at h<;>simp at h
def aDB{M:kR R}{v:AV}:aA4 M lk J v≠some (.goto l,J'):=by
 intro h;unfold aA4 at h;split at h
 ·split at h
  ·unfold aDA at h
   grind [mO,aA6]
  ·cases h
 ·cases h
theorem SH(M:kR R):∀(c:aMC)(p:List Nat)(J:jX)(l:Nat)(J':jX),exec M c p J≠some (.goto l,J')
 |.skip,_,_,_,_=>by simp [exec]
 |.label _,_,_,_,_=>by simp [exec]
 |.ret,_,_,_,_=>by simp [exec]
 |.exit id,_,_,_,_=>by simp [exec]
 |.region _ ky false,_,_,_,_=>by grind [exec,avF]
 | .region _ ky true,_,_,_,_=>by
   grind [exec,mO,aA5]
 | .seq x y,p,J,l,J'=>by
   intro h;simp only[exec]at h;cases hx:exec M x (0::p) J with
   |none=>simp only[hx]at h;cases h
   |some r=>
    obtain⟨e1,J1⟩:=r;cases e1 with
    |normal=>
     simp only[hx]at h;cases hc:M.cut (1::p) J1 with
     |none=>grind
     |some J2=>simp only[hc,cw]at h;exact SH M y _ _ _ _ h
    |goto l'=>exact SH M x _ _ _ _ hx
    |_=>grind
 | .cond c x y,p,J,l,J'=>by
   intro h;simp only[exec]at h;cases hv:J.ev c with
   |bool b=>
    simp only[hv]at h;cases b with
    |true=>exact SH M x _ _ _ _ h
    |false=>exact SH M y _ _ _ _ h
   |_=>simp only[hv]at h;cases h
 | .block id x,p,J,l,J'=>by
   intro h;simp only[exec]at h;cases hx:exec M x (0::p) J with
   |none=>simp only[hx]at h;cases h
   |some r=>
    obtain⟨e1,J1⟩:=r;cases e1 with
    |exit id'=>
     grind
    |goto l'=>exact SH M x _ _ _ _ hx
    |_=>grind
 | .loop x,p,J,l,J'=>by
   intro h;simp only[exec]at h;cases hn:M.rK p J with
   |none=>grind
   |some J1=>
    simp only[hn,cw]at h;exact amc (fun _ _ _=>SH M x _ _ _ _) _ _ _ _ h
 | .scope x,p,J,l,J'=>by
   intro h;simp only[exec]at h;exact SH M x _ _ _ _ h
 |.goto _,_,_,_,_=>by simp [exec]
 |.rangeFunc g ps as body,_,_,_,_=>by simp only[exec];exact aDB
 |.refuse _,_,_,_,_=>by simp [exec]
def zx {M:kR R} (G:Fh M): ∀ (c:aMC) (p:List Nat) (Q:nW->jX->Prop) (J:jX) (e:nW) (J':jX),exec M c p J=some (e,J')->Q e J'->awp M.P c Q J
 |.skip,_,Q,J,e,J',h,hq=>by simp only[exec,cf,cm]at h;obtain⟨rfl,rfl⟩:=h;exact hq
 |.label _,_,Q,J,e,J',h,hq=>by simp only[exec,cf,cm]at h;obtain⟨rfl,rfl⟩:=h;exact hq
 |.ret,_,Q,J,e,J',h,hq=>by simp only[exec,cf,cm]at h;obtain⟨rfl,rfl⟩:=h;exact hq
 |.exit id,_,Q,J,e,J',h,hq=>by simp only[exec,cf,cm]at h;obtain⟨rfl,rfl⟩:=h;exact hq
 | .region _ ky false,_,Q,J,e,J',h,hq=>by
   simp only[exec]at h;exact Bg G _ _ _ _ h hq
 | .region _ ky true,_,Q,J,e,J',h,hq=>by
   simp only[exec]at h;rw[mO]at h;obtain⟨hp,h⟩:=h;exact⟨hp,Jl G _ _ _ _ _ _ h hq⟩
 | .seq x y,p,Q,J,e,J',h,hq=>by
   simp only[exec]at h;cases hx:exec M x (0::p) J with
   |none=>simp only[hx]at h;cases h
   |some r=>
    obtain⟨e1,J1⟩:=r;refine zx G x (0::p) _ J e1 J1 hx ?_;cases e1 with
    |normal=>
     simp only[hx]at h;cases hc:M.cut (1::p) J1 with
     |none=>grind
     |some J2=>
      simp only[hc,cw]at h;exact⟨J2,G.cut _ _ _ hc,zx G y (1::p) Q J2 e J' h hq⟩
    |_=>
     simp only[hx,cf,cm]at h;obtain⟨rfl,rfl⟩:=h;exact hq
 | .cond c x y,p,Q,J,e,J',h,hq=>by
   simp only[exec]at h;simp only[awp];cases hv:J.ev c with
   |bool b=>
    simp only[hv]at h ⊢;cases b with
    |true=>simp only[jK,axW hv]at h;exact⟨fun _=>zx G x (0::p) Q J e J' h hq,fun h=>(by cases h)⟩
    |false=>simp only[jL,axW hv]at h;exact⟨fun h=>(by cases h),fun _=>zx G y (1::p) Q J e J' h hq⟩
   |_=>simp only[hv]at h;cases h
 | .block id x,p,Q,J,e,J',h,hq=>by
   simp only[exec]at h;cases hx:exec M x (0::p) J with
   |none=>simp only[hx]at h;cases h
   |some r=>
    obtain⟨e1,J1⟩:=r;refine zx G x (0::p) _ J e1 J1 hx ?_;cases e1 with
    |exit id'=>
     grind [nW.inBlock]
    |_=>
     simp only[hx,cf,cm]at h;obtain⟨rfl,rfl⟩:=h;exact hq
 | .loop x,p,Q,J,e,J',h,hq=>by
   simp only[exec]at h;cases hn:M.rK p J with
   |none=>grind
   |some J1=>
    simp only[hn,cw]at h;refine⟨fun m J2=>lqN (M.rK p) (exec M x (0::p)) m J2=some (e,J'),M.n,J1,G.rK _ _ _ hn,h,?_⟩;intro m J2 h2;cases m with
    |zero=>simp only[lqN]at h2;cases h2
    |succ m=>
     simp only[lqN]at h2;cases hx:exec M x (0::p) J2 with
     |none=>simp only[hx]at h2;cases h2
     |some r=>
      obtain⟨e1,J3⟩:=r;refine zx G x (0::p) _ J2 e1 J3 hx ?_;cases e1 with
      |normal=>
       simp only[hx]at h2;cases hn2:M.rK p J3 with
       |none=>grind
       |some J4=>
        simp only[hn2,cw]at h2;exact⟨m,J4,Nat.lt_succ_self _,G.rK _ _ _ hn2,h2⟩
      |_=>
       simp only[hx,cf,cm]at h2;obtain⟨rfl,rfl⟩:=h2;exact hq
 | .scope x,p,Q,J,e,J',h,hq=>by
   simp only[exec]at h;refine zx G x (0::p) _ J e J' h ?_;cases e with
   |goto l=>grind [SH]
   |_=>exact hq
 |.goto _,_,_,_,_,_,h,_=>by simp only[exec]at h;cases h
 | .rangeFunc g ps as body,p,Q,J,e,J',h,hq=>by
   simp only[exec]at h;simp only[awp];unfold aA4 at h;split at h
   ·rename_i f first cap hv
    split at h
    ·rename_i r H' hc;refine asz hv ((G.cl f _ {J with kr:=J.kr++[.map J.heap.length],heap:=J.heap++[.loop ⟨ps,as,body,M.js p⟩ J.kr .ready 0]} r H' hc).mono ?_);rintro o' EX ⟨rfl,rfl⟩;unfold aDA at h;split at h
     ·rename_i k s st uK hH;rw[mO]at h;obtain⟨VT,h⟩:=h;subst VT;refine⟨r,k,s,uK,rfl,hH,?_⟩;generalize qW k.js uK=pc at*;unfold asB at h;split at h
      ·simp only[cf,cm]at h;obtain⟨rfl,rfl⟩:=h;exact hq
      ·simp only[cf,cm]at h;obtain⟨rfl,rfl⟩:=h;exact hq
      ·simp only[cf,cm]at h;obtain⟨rfl,rfl⟩:=h;exact hq
      ·cases h
     ·cases h
    ·cases h
   ·cases h
 |.refuse _,_,_,_,_,_,h,_=>by simp only[exec]at h;cases h
end
def aDC(C:tg)(U:Nat->aMB)(H:List kp)(w:aMG):Prop:=nr C U {kr:=[],heap:=H,low:=H.length} {tmps:= #[],defers:=[]} w
def Kk(P:aMF)(f:aMD)(args:List AV)(H:List kp)(V:uP->List kp->Prop):Prop:=
 enters P f=true/\xB H.length args/\(∀x∈H,sj H.length x)/\∀(C:tg)(U:Nat->aMB)(w:aMG),C.P=P->C.w0=w->C.N0=H.length->(∀l,l<H.length->C.U0 l=U l/\C.ln0 l=nO H[l]?)->(∀b o,C.M0 b o↔Sx U H b o)->
  aDC C U H w->∀vs:Array aMB,kQ (C.env U H w) args vs.toList->
  Calls P f vs w fun e w'=>∃o U' H',V o H'/\nr C U' {kr:=[],heap:=H',low:=H.length} {tmps:= #[],defers:=[]} w'/\o.rep (C.env U' H' w') e
def sH:List kp->List Nat->List kp->List kp
 |H,l::ls,x::xs=>sH (H.set l x) ls xs
 |H,_,_=>H
def oG(Y:List Nat)(n:Nat)(l:Nat):Nat:=if l<Y.length then Y.getD l 0 else n+(l-Y.length)
def wP(Y:List Nat)(H H':List kp):List kp:=
 sH H Y (H'.map (kp.qC (oG Y H.length)))++(H'.drop Y.length).map (kp.qC (oG Y H.length))
theorem xm:∀(H:List kp)(ls:List Nat)(xs:List kp),(sH H ls xs).length=H.length
 |_,[],_=>by simp [sH]
 |_,_::_,[]=>by simp [sH]
 |H,l::ls,x::xs=>by rw[sH,xm,List.length_set]
theorem Gv:∀(ls:List Nat)(H:List kp)(xs:List kp)(k:Nat),k ∉ ls->(sH H ls xs)[k]? =H[k]?
 |[],_,_,_,_=>by simp [sH]
 |_::_,_,[],_,_=>by simp [sH]
 |l::ls,H,x::xs,k,h=>by
  simp only[cY,not_or]at h;rw[sH,Gv ls _ xs k h.2,dG (fun e=>h.1 e.symm)]
theorem V3:∀(ls:List Nat)(H:List kp)(xs:List kp)(i k:Nat)(x:kp),ls.Nodup->ls[i]? =some k->xs[i]? =some x->k<H.length->(sH H ls xs)[k]? =some x
 |[],_,_,_,_,_,_,h,_,_=>by simp at h
 |_::_,_,[],_,_,_,_,_,h,_=>by simp at h
 |l::ls,H,y::ys,0,k,x,hnd,h,hx,hk=>by
  grind [sH,Gv]
 |l::ls,H,y::ys,i+1,k,x,hnd,h,hx,hk=>by
  simp at h hx;rw[dy]at hnd;rw[sH];exact V3 ls _ ys i k x hnd.2 h hx (by rw[List.length_set];exact hk)
def amd:List Nat->Nat->Option Nat
 |[],_=>none
 |x::xs,k=>if x=k then some 0 else(amd xs k).map (· +1)
theorem ahn:∀(Y:List Nat)(l k:Nat),Y.Nodup->Y[l]? =some k->amd Y k=some l
 |[],_,_,_,h=>by simp at h
 |x::xs,0,k,_,h=>by simp at h;subst h;simp [amd]
 |x::xs,l+1,k,hnd,h=>by
  simp at h;rw[dy]at hnd;have wN:x≠k:=fun e=>hnd.1 (e ▸ cQ h)
  simp [amd,wN,ahn xs l k hnd.2 h]
theorem ame:∀(Y:List Nat)(k:Nat),k ∉ Y->amd Y k=none
 |[],_,_=>rfl
 |x::xs,k,h=>by
  simp only[cY,not_or]at h;have wN:x≠k:=fun e=>h.1 e.symm
  simp [amd,wN,ame xs k h.2]
section call
variable {C:tg}
structure abw(T:aMB->aMG->Array aMB->(aMH->aMG->Prop)->Prop):Prop where
 mono:∀h w vs R R',(∀e w',R e w'->R' e w')->T h w vs R->T h w vs R'
def FnT(P:aMF)(T:aMB->aMG->Array aMB->(aMH->aMG->Prop)->Prop)(args:List AV)(H:List kp)(V:uP->List kp->Prop):Prop:=
 xB H.length args/\(∀x∈H,sj H.length x)/\∀(C:tg)(U:Nat->aMB)(w:aMG),C.P=P->C.w0=w->C.N0=H.length->(∀l,l<H.length->C.U0 l=U l/\C.ln0 l=nO H[l]?)->(∀b o,C.M0 b o↔Sx U H b o)->
  aDC C U H w->∀vs:Array aMB,kQ (C.env U H w) args vs.toList->
  T (U 0) w vs fun e w'=>∃o U' H',V o H'/\nr C U' {kr:=[],heap:=H',low:=H.length} {tmps:= #[],defers:=[]} w'/\o.rep (C.env U' H' w') e
def SI(P:aMF)(T:aMB->aMG->Array aMB->(aMH->aMG->Prop)->Prop)(l:Nat)(args:List AV)(J:jX)(K:uP->List kp->Prop):Prop:=
 ∀ (C:tg) (U:Nat->aMB) (a:Act) (w:aMG),C.P=P->nr C U J a w-> ∀vs:Array aMB,kQ (C.env U J.heap w) args vs.toList->
   T (U l) w vs fun e w'=>∃o U' H',K o H'/\nr C U' {J with heap:=H'} a w'/\o.rep (C.env U' H' w') e
def aho{T:aMB->aMG->Array aMB->(aMH->aMG->Prop)->Prop}(hT:abw T){l0:Nat}{QD:List AV}(h:FnT P T args H V)(Y:List Nat)(hlen:Y.length=H.length)(hnd:Y.Nodup)
 (hz:∀U:Nat->aMB,T (U (oG Y J.heap.length 0))=T (U l0))
 (SF:qX QD (sO (oG Y J.heap.length) args)) (IM:∀(i:Nat)(k:Nat)(x:kp),Y[i]? =some k->H[i]? =some x->J.heap[k]? =some (x.qC (oG Y J.heap.length)))
 (hK:∀o H',V o H'->K (o.qC (oG Y J.heap.length)) (wP Y J.heap H')):SI P T l0 QD J K:=by
 obtain⟨aKz,IP,hc⟩:=h;intro C U a w hP S vs hr
 let ρf:Nat->Nat:=oG Y J.heap.length
 have hρ:∀l,l<H.length->Y[l]? =some (ρf l):=by
  grind [oG]
 let φc:Nat->aMB:=fun l=>U (ρf l)
 have amf:∀(l:Nat)(x:kp),H[l]? =some x->J.heap[ρf l]? =some (x.qC ρf):=fun l x hx=>IM l _ x (hρ l (cc.1 hx).1) hx
 have aLx:∀l,l<H.length->ρf l<J.heap.length:=by
  intro l hl;have:=amf l H[l] (b9 hl)
  grind
 have hinj:∀l l',l<H.length->l'<H.length->ρf l=ρf l'->l=l':=by
  grind [List.getElem_inj]
 have asC:∀b o,Sx φc H b o->Sx U J.heap b o:=by
  rintro b o ⟨l,x,hx,hm⟩;exact⟨ρf l,_,amf l x hx,VZ.2 hm⟩
 have hA0:∀b o,((Sx U J.heap b o\/C.A b o)/\ ¬ Sx φc H b o)->b<w.heap.size:=by
  rintro b o ⟨⟨l,x,hx,hm⟩|hA,_⟩
  ·exact(S.sF l x hx).B9 (kp.sw hm)
  ·exact cj (C.hA b o hA) S.size
 let C':tg:=tg.mk C.P w (Sx φc H) (fun b o=>(Sx U J.heap b o\/C.A b o)/\ ¬ Sx φc H b o) hA0 (fun b o h=>let ⟨v,h1,h2,h3⟩:=S.know b o h;⟨v,h1,h2,fun hm=>h3 (asC b o hm)⟩) H.length φc (fun l=>nO H[l]?)
 have aIv:∀b o,(Sx φc H b o\/C'.A b o)↔(Sx U J.heap b o\/C.A b o):=by
  grind
 have un:asp H.length ρf (C.env U J.heap w) (C'.env φc H w):=by
  refine⟨cn _,fun l hl=>⟨rfl,?_⟩,fun b o u hm HA=>⟨fun hh=>hm ((aIv b o).1 hh),HA⟩⟩
  grind [tg.env,Fm]
 have VR:∀(l:Nat)(x:kp)(b:Nat),H[l]? =some x->x.block (φc l) b->∃y:kp,J.heap[ρf l]? =some y/\y.block (U (ρf l)) b:=fun l x b hx hb=>⟨_,amf l x hx,Cf.2 hb⟩
 have aKA:∀(l:Nat)(x:kp)(b:Nat),H[l]? =some x->x.block (φc l) b->∀o,Sx U J.heap b o->Sx φc H b o:=by
  rintro l x b hx hb o ⟨k,y,hy,hm⟩;obtain⟨z,hz,hzb⟩:=VR l x b hx hb;have hk:=S.apart k (ρf l) y z b hy hz (kp.sw hm) hzb;subst hk;have hf:=amf l x hx;rw[hy]at hf;cases hf;exact⟨l,x,hx,VZ.1 hm⟩
 have hS':aDC C' φc H w:=by
  refine {kr:=rfl,defers:=xj.nil,sF:=?_,apart:=?_,Fj:=?_,size:=cn _,R3:=fun _ _ _ _=>rfl,tC:=fun _ _ _=>rfl,XG:=?_,Hz:=fun _ _=>rfl,rest:=⟨rfl,rfl⟩,low:=⟨rfl,cn _⟩,oe:=fun l hl=>.inl ⟨rfl,.inl rfl⟩}
  ·intro l x hx;exact rz.C6 un (IP x (cQ hx)) (fun _ _=>rfl) (S.sF (ρf l) _ (amf l x hx))
  ·intro l l' x x' b hx VO hb Gs;obtain⟨z,hz,hzb⟩:=VR l x b hx hb;obtain⟨z',hz',aGz⟩:=VR l' x' b VO Gs;exact hinj l l' (cc.1 hx).1 (cc.1 VO).1 (S.apart _ _ z z' b hz hz' hzb aGz)
  ·rintro l x b o hx hb ⟨hA|hA,hn⟩
   ·exact hn (aKA l x b hx hb o hA)
   ·obtain⟨z,hz,hzb⟩:=VR l x b hx hb;exact S.Fj _ z b o hz hzb hA
  ·intro l x b o hx hm _;exact⟨l,x,hx,hm⟩
 have hr':kQ (C'.env φc H w) args vs.toList:=kQ.C6 un _ _ aKz (SF _ _ hr);have xk:=hc C' φc w hP rfl rfl (fun l _=>⟨rfl,rfl⟩) (fun _ _=>cg) hS' vs hr';rw[show φc 0=U (oG Y J.heap.length 0)from rfl,hz U]at xk;refine hT.mono _ _ _ _ _ ?_ xk;rintro e w' ⟨o,U',H',hV,S',tP⟩;have aLy:H.length<=H'.length:=S'.low.2
 let n:=J.heap.length
 have axR:∀k,k<n->(∃l,l<H.length/\ρf l=k)\/k ∉ Y:=by
  grind [dD]
 let ix:Nat->Option Nat:=amd Y
 have hix:∀l,l<H.length->ix (ρf l)=some l:=by
  grind [ahn]
 have aLz:∀k,k ∉ Y->ix k=none:=by
  grind [ame]
 let U2:Nat->aMB:=fun k=>if k<n then(match ix k with|some l=>U' l|none=>U k)else U' (H.length+(k-n))
 have amg:∀l,l<H'.length->U2 (ρf l)=U' l:=by
  intro l hl;by_cases h1:l<H.length
  ·grind
  ·have h2:ρf l=n+(l-H.length):=by
    grind [oG]
   simp only[U2];rw[if_neg (by omega),h2];congr 1;omega
 have asD:∀k,k<n->k ∉ Y->U2 k=U k:=by
  grind
 let H2:List kp:=wP Y J.heap H'
 have aGA:∀(l:Nat)(hl:l<H'.length),H2[ρf l]? =some ((H'[l]).qC ρf):=by
  intro l hl;simp only[H2,wP];by_cases h1:l<H.length
  ·grind [xm,V3]
  ·have h2:ρf l=n+(l-H.length):=by
    grind [oG]
   rw[h2,cR (by rw[xm];omega),xm];rw[List.getElem?_map,List.getElem?_drop,hlen];have e:H.length+(n+(l-H.length)-J.heap.length)=l:=by simp only[n];omega
   grind
 have aKB:∀k,k<n->k ∉ Y->H2[k]? =J.heap[k]? :=by
  grind [wP,xm,Gv]
 have aKC:H2.length=n+(H'.length-H.length):=by
  grind [wP,xm]
 have hH2:∀(k:Nat)(y:kp),H2[k]? =some y->(∃l,∃hl:l<H'.length,k=ρf l/\y=(H'[l]).qC ρf)\/(k<n/\k ∉ Y/\J.heap[k]? =some y):=by
  intro k y hy;have hk:k<H2.length:=(cc.1 hy).1;by_cases h1:k<n
  ·rcases axR k h1 with⟨l,hl,rfl⟩|hm
   all_goals grind
  ·left;have hl:H.length+(k-n)<H'.length:=by omega
   grind [oG]
 have aF4:∀b o,Sx U2 H2 b o->Sx U' H' b o\/∃(k:Nat)(y:kp),k<n/\k ∉ Y/\J.heap[k]? =some y/\y.Ff (U k) b o:=by
  rintro b o ⟨k,y,hy,hm⟩;rcases hH2 k y hy with⟨l,hl,rfl,rfl⟩|⟨h1,h2,h3⟩
  ·left;rw[amg l hl]at hm;exact⟨l,_,b9 hl,VZ.1 hm⟩
  grind
 have asv:∀(k:Nat)(y:kp)(b:Nat),k<n->k ∉ Y->J.heap[k]? =some y->y.block (U k) b->∀o,¬ Sx φc H b o:=by
  rintro k y b hk hm hy hb o ⟨l,x,hx,hmu⟩;obtain⟨z,hz,hzb⟩:=VR l x b hx (kp.sw hmu);have e:=S.apart k (ρf l) y z b hy hz hb hzb
  grind
 have alk:∀(l:Nat)(hl:l<H'.length)(b:Nat),(H'[l]).block (U' l) b->b<w.heap.size->∃(k:Nat)(x:kp),H[k]? =some x/\x.block (φc k) b:=by
  intro l hl b hb me;obtain⟨o,hmu⟩:=Ny hb;obtain⟨k,x,hx,hmx⟩:=S'.XG l _ b o (b9 hl) hmu me
  grind [kp.sw]
 have le:(C.env U J.heap w).Le n (C.env U2 H2 w'):=by
  refine⟨by simp only[tg.env];omega,fun k hk=>?_,fun b o' u hm HA=>?_⟩
  ·rcases axR k hk with⟨l,hl,rfl⟩|hm
   ·have hn:=S'.oe l hl;simp only[tg.env];rw[amg l (by omega),aGA l (by omega),Fm,amf l H[l] (b9 hl),Fm];have h1:nO H'[l]? =nO (some H'[l]):=by grind
    have h2:C'.ln0 l=nO (some H[l]):=by grind
    rw[h1,h2]at hn;exact hn
   grind [tg.env]
  ·have hb:=Sy HA;simp only[tg.env]at hb hm ⊢;have hnc: ¬ Sx φc H b o':=fun hh=>hm (.inl (asC b o' hh))
   refine⟨?_,by rw[S'.R3 b o' hb hnc];exact HA⟩;rintro(hh|hh)
   ·rcases aF4 b o' hh with⟨l,x,hx,hmu⟩|⟨k,y,_,_,hy,hmu⟩
    ·exact hnc (S'.XG l x b o' hx hmu hb)
    ·exact hm (.inl ⟨k,y,hy,hmu⟩)
   ·exact hm (.inr hh)
 have qC:ahg H'.length ρf (C'.env U' H' w') (C.env U2 H2 w'):=by
  refine⟨fun l hl=>?_,fun l hl=>?_,fun b o' u hm HA=>⟨?_,HA⟩⟩
  ·have:=aGA l hl;exact(cc.1 this).1
  ·grind [tg.env,Fm]
  ·simp only[tg.env]at hm ⊢;rintro(hh|hh)
   ·rcases aF4 b o' hh with h1|⟨k,y,hk,hkm,hy,hmu⟩
    ·exact hm (.inl h1)
    ·exact hm (.inr ⟨.inl ⟨k,y,hy,hmu⟩,asv k y b hk hkm hy (kp.sw hmu) o'⟩)
   ·refine hm (.inr ⟨.inr hh,?_⟩);rintro⟨l,x,hx,hmu⟩;obtain⟨z,hz,hzb⟩:=VR l x b hx (kp.sw hmu);exact S.Fj _ z b o' hz hzb hh
 have S2:nr C U2 {J with heap:=H2} a w':=by
  have abg:xj C U2 H2 w' J.df a.defers:=by
   refine S.defers.step le (fun b hb hno=>S'.tC b hb (fun o' hh=>?_)) (fun k x b hx hb=>?_)
   ·obtain⟨l,x,hx,hmu⟩:=hh
    grind [kp.sw]
   ·by_cases hbs:b<w.heap.size
    ·rcases hH2 k x hx with⟨l,hl,rfl,rfl⟩|⟨h1,h2,h3⟩
     ·rw[amg l hl]at hb;obtain⟨q,z,hz',hzb⟩:=alk l hl b (Cf.1 hb) hbs
      grind
     grind
    ·exact .inr (by omega)
  refine {kr:=kQ.mono le _ _ (kQ.nb _ _ S.kr) S.kr,defers:=abg,sF:=?_,apart:=?_,Fj:=?_,size:=Nat.le_trans S.size S'.size,R3:=?_,tC:=?_,XG:=?_,Hz:=fun x hx=>(S'.Hz x (cj hx S.size)).trans (S.Hz x hx),rest:=⟨S'.rest.1.trans S.rest.1,S'.rest.2.trans S.rest.2⟩,low:=⟨S.low.1,by have:=S.low.2;show J.low<=H2.length;omega⟩,oe:=?_}
  ·intro k y hy;rcases hH2 k y hy with⟨l,hl,rfl,rfl⟩|⟨h1,h2,h3⟩
   ·rw[amg l hl];have r0:=S'.sF l _ (b9 hl);exact rz.qC qC (V0 r0) (fun _ _=>rfl) r0
   ·rw[asD k h1 h2];have r0:=S.sF k y h3;exact rz.mono r0 le (fun b hb=>S'.tC b (r0.B9 hb) (asv k y b h1 h2 h3 hb))
  ·intro k k' x x' b hx VO hb Gs;rcases hH2 k x hx with⟨l,hl,rfl,rfl⟩|⟨h1,h2,h3⟩<;>rcases hH2 k' x' VO with⟨l',hl',rfl,rfl⟩|⟨h1',h2',h3'⟩
   ·rw[amg l hl]at hb;rw[amg l' hl']at Gs;have:=S'.apart l l' _ _ b (b9 hl) (b9 hl') (Cf.1 hb) (Cf.1 Gs);rw[this]
   ·rw[amg l hl]at hb;rw[asD k' h1' h2']at Gs;exfalso;obtain⟨q,z,hz,hzb⟩:=alk l hl b (Cf.1 hb) ((S.sF k' x' h3').B9 Gs);obtain⟨o'',hmu⟩:=Ny hzb;exact asv k' x' b h1' h2' h3' Gs o'' ⟨q,z,hz,hmu⟩
   ·rw[amg l' hl']at Gs;rw[asD k h1 h2]at hb;exfalso;obtain⟨q,z,hz,hzb⟩:=alk l' hl' b (Cf.1 Gs) ((S.sF k x h3).B9 hb);obtain⟨o'',hmu⟩:=Ny hzb;exact asv k x b h1 h2 h3 hb o'' ⟨q,z,hz,hmu⟩
   ·rw[asD k h1 h2]at hb;rw[asD k' h1' h2']at Gs;exact S.apart k k' x x' b h3 h3' hb Gs
  ·intro k x b o' hx hb;rcases hH2 k x hx with⟨l,hl,rfl,rfl⟩|⟨h1,h2,h3⟩
   ·rw[amg l hl]at hb;intro hA;have hbs:b<w.heap.size:=cj (C.hA b o' hA) S.size;obtain⟨q,z,hz,hzb⟩:=alk l hl b (Cf.1 hb) hbs;obtain⟨z',hz',aGz⟩:=VR q z b hz hzb;exact S.Fj _ z' b o' hz' aGz hA
   ·rw[asD k h1 h2]at hb;exact S.Fj k x b o' h3 hb
  ·intro b o' hb hm;have Gs:b<w.heap.size:=cj hb S.size
   have hnc: ¬ Sx φc H b o':=by
    intro hh;obtain⟨k,y,hy,hmu⟩:=asC b o' hh;exact hm (S.XG k y b o' hy hmu hb)
   exact(S'.R3 b o' Gs hnc).trans (S.R3 b o' hb hm)
  ·intro b hb hm;have Gs:b<w.heap.size:=cj hb S.size
   have hnc:∀o',¬ Sx φc H b o':=by
    intro o' hh;obtain⟨k,y,hy,hmu⟩:=asC b o' hh;exact hm o' (S.XG k y b o' hy hmu hb)
   exact(S'.tC b Gs hnc).trans (S.tC b hb hm)
  ·intro k x b o' hx hmu hb;rcases hH2 k x hx with⟨l,hl,rfl,rfl⟩|⟨h1,h2,h3⟩
   ·rw[amg l hl]at hmu;obtain⟨q,z,hz,hmz⟩:=S'.XG l _ b o' (b9 hl) (VZ.1 hmu) (cj hb S.size);obtain⟨k2,y2,hy2,aKD⟩:=asC b o' ⟨q,z,hz,hmz⟩;exact S.XG k2 y2 b o' hy2 aKD hb
   ·rw[asD k h1 h2]at hmu;exact S.XG k x b o' h3 hmu hb
  ·intro k hk;have hkn:k<n:=by have:=S.low;simp only[n];omega
   have hn:=S.oe k hk;show(U2 k=_/\_)\/_;rcases axR k hkn with⟨l,hl,rfl⟩|hm
   ·have hn':=S'.oe l hl;rw[amg l (by omega),aGA l (by omega),Fm];rw[amf l H[l] (b9 hl),Fm]at hn;have h1:nO H'[l]? =nO (some H'[l]):=by rw[b9 (by omega)]
    have h2:C'.ln0 l=nO (some H[l]):=by show nO H[l]? =_;rw[b9 hl]
    have h3:C'.U0 l=U (ρf l):=rfl;rw[h1,h2,h3]at hn';rcases hn' with⟨ha,hb|hb⟩|⟨⟨q,hq,me⟩,hp,hmp⟩
    ·rw[ha,hb];exact hn
    ·rw[hb];rcases hn with⟨hc1,_⟩|⟨⟨q,hq,_⟩,hp,hmp⟩
     ·exact .inl ⟨by rw[ha];exact hc1,.inr rfl⟩
     ·exact .inr ⟨⟨q,hq,fun k' OZ=>by cases OZ⟩,hp,hmp⟩
    ·right;rcases hn with⟨hc1,hc2|hc2⟩|⟨⟨q2,hq2,aKE⟩,hp2,aKF⟩
     ·rw[hq]at hc2;exact⟨⟨q,hc2.symm,me⟩,by rw[<-hc1];exact⟨hp,hmp⟩⟩
     ·rw[hq]at hc2;cases hc2
     ·exact⟨⟨q2,hq2,fun k' OZ=>by have:=me k' OZ;have:=aKE q hq;omega⟩,hp2,aKF⟩
   ·rw[asD k hkn hm,aKB k hkn hm];exact hn
 refine⟨o.qC ρf,U2,H2,hK o H' hV,S2,?_⟩;cases o with
 |ret r=>
  cases e with
  |returned v=>exact pO.qC qC r v (pO.nb _ _ tP) tP
  |panicked chain=>exact tP.elim
  |outgrown=>exact tP.elim
 |panic x=>
  cases e with
  |returned v=>exact tP.elim
  |panicked chain=>
   obtain⟨v,hv,hr⟩:=tP;exact⟨v,hv,pO.qC qC x v (pO.nb _ _ hr) hr⟩
  |outgrown=>exact tP.elim
def af4:abw (fun _ w vs R=>Calls P f vs w R):=⟨fun _ _ _ _ _ hr h=>Calls.mono h hr⟩
def asE:abw (abo P):=⟨fun _ _ _ _ _ hr h D rec h1 h2=>(h D rec h1 h2).mono hr⟩
def aqr {QD:List AV}(h:Kk P f args H V)(Y:List Nat)(hlen:Y.length=H.length)(hnd:Y.Nodup)
 (SF:qX QD (sO (oG Y J.heap.length) args)) (IM:∀(i:Nat)(k:Nat)(x:kp),Y[i]? =some k->H[i]? =some x->J.heap[k]? =some (x.qC (oG Y J.heap.length)))
 (hK:∀o H',V o H'->K (o.qC (oG Y J.heap.length)) (wP Y J.heap H')):BE P f QD J K:=
 ⟨h.1,aho (T:=fun _ w vs R=>Calls P f vs w R) (l0:=0) af4 h.2 Y hlen hnd (fun _=>rfl) SF IM hK⟩
end call
def rz.aIw{x:kp}(r:rz E x hd)(h:E.Le N E')(hn:sj N x)(hs:E'.w=E.w:=by rfl):rz E' x hd:=by
 cases x with
 |cells cs=>obtain⟨b,c,t,h1,h2,rl,h3⟩:=r;exact⟨b,c,t,h1,by rw[hs];exact h2,kQ.mono h _ _ hn rl,h3⟩
 |mE vA sz rows=>
  obtain⟨base,cap,h1,h2,h3,h4,h5⟩:=r;refine⟨base,cap,h1,h2,h3,h4,fun a0 ha hc=>?_⟩;obtain⟨h6,c,t,h7,h8,rl,h9⟩:=h5 a0 ha hc;exact⟨h6,c,t,by rw[hs];exact h7,h8,kQ.mono h _ _ (Jj hn) rl,h9⟩
 |map es=>obtain⟨r',en,cl,h1,h2,rp⟩:=r;exact⟨r',en,cl,h1,by rw[hs];exact h2,sN.mono h hn rp⟩
 |loop k kr st uK=>obtain⟨D,rec,h1,h2,h3,h4,rl⟩:=r;exact⟨D,rec,h1,by rw[hs];exact h2,by rw[hs];exact h3,h4,kQ.mono h _ _ hn rl⟩
 |iter s p=>obtain⟨b,h1,h2⟩:=r;exact⟨b,h1,by rw[hs];exact h2⟩
 |sU=>trivial
def af5(J:jX)(x r:AV)(H':List kp):Prop:=
 ∀ (C:tg) (U:Nat->aMB) (a:Act) (w:aMG),nr C U J a w-> ∀v,pO (C.env U J.heap w) x v->
   ∃U',nr C U' {kr:=[],heap:=H',low:=J.low} {tmps:= #[],defers:=[]} w/\pO (C.env U' H' w) r v
def XV(low l k:Nat):Nat:=if k<low then k else if k=l then low else low+1+k
section aDD

theorem asF(hl:l<low):(H.take low)[l]? =H[l]? :=by rw[List.getElem?_take,if_pos hl]
def avG{y:kp}(hl:J.heap[l]? =some y)(HC:J.low<=l)(Nb: ∀z∈J.heap.take J.low,sj J.low z)(hy:sj J.low y)(hr:(x.qC (XV J.low l)).nb (J.low+1)):
 af5 J x (x.qC (XV J.low l)) (J.heap.take J.low++[y]):=by
 intro C U a w S v hv;have aKG:=S.low.2;have hHl:(J.heap.take J.low).length=J.low:=by rw[List.length_take];omega
 let H':=J.heap.take J.low++[y]
 let U':Nat->aMB:=fun k=>if k=J.low then U l else U k
 have hφ':∀k,k<J.low->U' k=U k:=fun k hk=>by simp only[U'];rw[if_neg (by omega)]
 have hφl:U' J.low=U l:=by simp [U']
 have axX:∀k,k<J.low->H'[k]? =J.heap[k]? :=by
  intro k hk;simp only[H'];rw[cU (by omega),asF hk]
 have aF5:H'[J.low]? =some y:=by
  simp only[H'];rw[cR (by omega),hHl,Nat.sub_self];rfl
 have aA7:H'.length=J.low+1:=by simp only[H',List.length_append,hHl,dr,List.length_nil]
 have Df:∀(k:Nat)(z:kp),H'[k]? =some z->(k<J.low/\J.heap[k]? =some z)\/(k=J.low/\z=y):=by
  intro k z hz;have hk:k<J.low+1:=by rw[<-aA7];exact(cc.1 hz).1
  by_cases e:k=J.low
  ·subst e;rw[aF5]at hz;cases hz;exact .inr ⟨rfl,rfl⟩
  ·left;rw[axX k (by omega)]at hz;exact⟨by omega,hz⟩
 let R3:Nat->Nat:=fun k=>if k=J.low then l else k
 have hold:∀(k:Nat)(z:kp),H'[k]? =some z->J.heap[R3 k]? =some z/\U' k=U (R3 k):=by
  intro k z hz;rcases Df k z hz with⟨h1,h2⟩|⟨rfl,rfl⟩
  ·simp only[R3];rw[if_neg (by omega)];exact⟨h2,hφ' k h1⟩
  ·simp only[R3,jQ];exact⟨hl,hφl⟩
 have aDE:∀k k',k<J.low+1->k'<J.low+1->R3 k=R3 k'->k=k':=by
  intro k k' hk OZ he;simp only[R3]at he;split at he<;>split at he<;>omega
 have alH:∀b o,Sx U' H' b o->Sx U J.heap b o:=by
  rintro b o ⟨k,z,hz,hm⟩;obtain⟨h1,h2⟩:=hold k z hz;rw[h2]at hm;exact⟨R3 k,z,h1,hm⟩
 have le:(C.env U J.heap w).Le J.low (C.env U' H' w):=by
  refine⟨by simp only[tg.env];omega,fun k hk=>.inl ⟨hφ' k hk,.inl (by simp only[tg.env];rw[axX k hk])⟩,fun b o u hm hc=>⟨fun h=>hm (h.imp (alH b o) id),hc⟩⟩
 refine⟨U',{kr:=rfl,defers:=xj.nil,sF:=?_,apart:=?_,Fj:=?_,size:=S.size,R3:=S.R3,tC:=S.tC,XG:=?_,Hz:=S.Hz,rest:=S.rest,low:=⟨S.low.1,by show J.low<=H'.length;omega⟩,oe:=?_},?_⟩
 ·intro k z hz;show rz (C.env U' H' w) z (U' k);obtain⟨h1,h2⟩:=hold k z hz;rw[h2];refine(S.sF (R3 k) z h1).aIw le ?_;rcases Df k z hz with⟨h3,h4⟩|⟨rfl,rfl⟩
  ·exact Nb z (cQ ((asF h3).trans h4))
  ·exact hy
 ·intro k k' z z' b hz hz' hb Gs;obtain⟨h1,h2⟩:=hold k z hz;obtain⟨h1',h2'⟩:=hold k' z' hz';rw[h2]at hb;rw[h2']at Gs;have hk:k<J.low+1:=by rw[<-aA7];exact(cc.1 hz).1
  have OZ:k'<J.low+1:=by rw[<-aA7];exact(cc.1 hz').1
  exact aDE k k' hk OZ (S.apart _ _ z z' b h1 h1' hb Gs)
 ·intro k z b o hz hb;obtain⟨h1,h2⟩:=hold k z hz;rw[h2]at hb;exact S.Fj _ z b o h1 hb
 ·intro k z b o hz hm hb;obtain⟨h1,h2⟩:=hold k z hz;rw[h2]at hm;exact S.XG _ z b o h1 hm hb
 ·intro k hk;have OZ:k<J.low:=by have:=S.low.1;omega
  show(U' k=_/\(nO H'[k]? =_\/_))\/_;rw[hφ' k OZ,axX k OZ];exact S.oe k hk
 ·
  let E2:D4:={w,mu:=(C.env U' H' w).mu,U:=fun k=>if k<J.low+1 then U' k else U (k-(J.low+1)),ln:=fun k=>if k<J.low+1 then nO H'[k]? else none,n:=J.low+1+J.heap.length}
  have qC:ahg J.heap.length (XV J.low l) (C.env U J.heap w) E2:=by
   refine⟨fun k hk=>?_,fun k hk=>?_,fun b o u hm hc=>⟨fun h=>hm (h.imp (alH b o) id),hc⟩⟩
   ·simp only[XV,E2];split
    ·omega
    ·split<;>omega
   ·simp only[XV,E2,tg.env];split
    ·rename_i h1;rw[if_pos (by omega),if_pos (by omega),hφ' k h1,axX k h1];exact⟨rfl,.inl rfl⟩
    ·split
     ·rename_i h1 h2;subst h2;rw[if_pos (by omega),if_pos (by omega),hφl,aF5,hl];exact⟨rfl,.inl rfl⟩
     ·rw[if_neg (by omega),if_neg (by omega)];refine⟨?_,.inr rfl⟩;congr 1;omega
  have h1:=pO.qC qC x v (pO.nb _ _ hv) hv
  have le2:E2.Le (J.low+1) (C.env U' H' w):=by
   refine⟨by simp only[tg.env];show J.low+1<=H'.length;omega,fun k hk=>.inl ⟨?_,.inl ?_⟩,fun b o u hm hc=>⟨hm,hc⟩⟩
   ·show U' k=if k<J.low+1 then U' k else _
    rw[if_pos hk]
   ·show nO H'[k]? =if k<J.low+1 then nO H'[k]? else none
    rw[if_pos hk]
  exact pO.mono le2 _ v hr h1
end aDD
def xn{args:Array aMB}{R R':aMH->FrameMode->aMG->Prop}(h:CallsDIn F n P f args u w R)(hr:∀e u' w',R e u' w'->R' e u' w'):CallsDIn F n P f args u w R':=by
 refine⟨h.1,fun c cs hc Kp=>?_⟩;obtain⟨e,u',w',fr,hR,qz⟩:=h.2 c cs hc Kp;exact⟨e,u',w',fr,hr _ _ _ hR,qz⟩
def anZ(P:aMF)(f:aMD):aMB->aMG->Array aMB->(aMH->aMG->Prop)->Prop:=fun _ w vs R=>
 CallsDIn cv 0 P f vs .returning w fun e u' w'=>∃r,e=.returned r/\settle u'=.returning/\R (.returned r) w'
def an0(P:aMF)(f:aMD):aMB->aMG->Array aMB->(aMH->aMG->Prop)->Prop:=fun _ w vs R=>∀(vs0:Array aMB)(v:aMB),vs=vs0.push v->
 CallsDIn cv 0 P f vs0 (.panicking [{v,recovered:=false}]) w fun e u' w'=>∃r,e=.returned r/\
  ((settle u'=.returning/\R (.returned r) w')\/∃v',settle u'=.panicking [{v:=v',recovered:=false}]/\R (.panicked [{v:=v',recovered:=false}]) w')
def aiY:abw (anZ P f):=⟨fun _ _ _ _ _ hr h=>xn h fun _ _ _ ⟨r,h1,h2,h3⟩=>⟨r,h1,h2,hr _ _ h3⟩⟩
def aiZ:abw (an0 P f):=⟨fun _ _ _ _ _ hr h vs0 v hv=>xn (h vs0 v hv) fun _ _ _ ⟨r,h1,h2⟩=>⟨r,h1,h2.imp (fun ⟨h3,h4⟩=>⟨h3,hr _ _ h4⟩) fun ⟨v',h3,h4⟩=>⟨v',h3,hr _ _ h4⟩⟩⟩
def ahp (P:aMF) (uA:Option AV->jX->Prop):List (aMD×List AV)->Option AV->jX->Prop
 |[],m,J=>uA m J
 |(f,args)::ds,none,J=>enters P f=true/\SI P (anZ P f) 0 args {J with df:=ds} (fun o H'=>match o with
    |.ret _=>ahp P uA ds none {J with heap:=H',df:=ds}
    |.panic _=>False)
 |(f,args)::ds,some x,J=>enters P f=true/\SI P (an0 P f) 0 (args++[x]) {J with df:=ds} (fun o H'=>match o with
    |.ret _=>ahp P uA ds none {J with heap:=H',df:=ds}
    |.panic x'=>ahp P uA ds (some x') {J with heap:=H',df:=ds})
section unw
variable {C:tg} {ds:List Deferred}
def nr.avH(S:nr C U {J with kr:=J.kr++[x]} {tmps:=tmps.push v,defers:=ds} w)(hl:J.kr.length=tmps.size):nr C U J {tmps,defers:=ds} w/\pO (C.env U J.heap w) x v:=by
 have h1:=S.kr.take J.kr.length;have h2:=S.kr.drop J.kr.length;have hlen:tmps.toList.length=J.kr.length:=by simp [hl]
 simp only[cD]at h1 h2;rw[cM rfl,cM hlen]at h1;rw[cN rfl,cN hlen]at h2;obtain⟨u,us,he2,r1,_⟩:=h2;simp only[dh]at he2;obtain⟨rfl,_⟩:=he2;exact⟨{S with kr:=h1,defers:=S.defers},r1⟩
def nr.aqs(S:nr C U J {tmps,defers:=ds} w)(h:pO (C.env U J.heap w) x v):nr C U {J with kr:=J.kr++[x]} {tmps:=tmps.push v,defers:=ds} w:=by
 refine {S with kr:=?_,defers:=S.defers};have hv:kQ (C.env U J.heap w) [x] [v]:=⟨v,[],rfl,h,rfl⟩;simp only[cD];exact S.kr.append hv
theorem nr.len(S:nr C U J {tmps,defers:=ds} w):J.kr.length=tmps.size:=by
 have:=S.kr.length;simpa using this.symm
def nr.aIx(S:nr C U {J with kr:=J.kr++[x]} {tmps:=tmps.push v,defers:=ds} w):J.kr.length=tmps.size:=by
 have:=S.kr.length;simp at this;exact this.symm
def nr.pop{d:Deferred}(S:nr C U J {tmps,defers:=d::ds} w)(hm:agY d=false):
 ∃f xs df' cap,J.df=(f,xs)::df'/\d.target=.fn (.func f) cap/\kQ (C.env U J.heap w) xs (d.args++cap).toList/\nr C U {J with df:=df'} {tmps,defers:=ds} w:=by
 obtain⟨h1,h2,h3⟩:=S.defers;simp only[dw,hm,Bool.not_false,jQ,di,if_false]at h1 h3;cases hdf:J.df with
 |nil=>rw[hdf]at h3;cases h3
 |cons p df'=>
  obtain⟨f,xs⟩:=p;rw[hdf]at h3;obtain⟨d',s,cap,he,ht,hr,qz⟩:=h3;simp only[dh]at he;obtain⟨rfl,rfl⟩:=he;exact⟨f,xs,df',cap,rfl,ht,hr,{S with kr:=S.kr,defers:=⟨h1,fun d' hd'=>h2 d' (List.mem_cons_of_mem _ hd'),qz⟩}⟩
def amh{d:Deferred}{cap:Array aMB}(ht:d.target=.fn (.func f) cap)(he:enters P f=true):(invoke d.target d.args).run P w=.ok (.enter f (d.args++cap)) w:=by
 unfold enters at he;split at he
 ·rename_i fn hfn;simp only[ck,bne_iff_ne,ne_eq]at he;have ao3:fn.body≠none:=by intro hb;simp [hb]at he
  simp [ht,invoke,callFunc,hfn,he.2,ao3]
 ·cases he
def af6{fn:Func}{R:aMH->aMG->Prop}{uA:Option AV->jX->Prop}
 (hr:∀U J w,nr C U J {tmps,defers:=[]} w->uA none J->∃v,(results fn tmps).run C.P w=.ok v w/\R (.returned v) w)
 (hp:∀U J x v w,nr C U J {tmps,defers:=[]} w->pO (C.env U J.heap w) x v->uA (some x) J->R (.panicked [{v,recovered:=false}]) w):
 ∀ (ds:List Deferred),
   (∀U J w,nr C U J {tmps,defers:=ds} w->ahp C.P uA J.df none J->LeavesInM cv 0 C.P fn tmps R ds .returning w)/\
   (∀U J x v w,nr C U {J with kr:=J.kr++[x]} {tmps:=tmps.push v,defers:=ds} w->ahp C.P uA J.df (some x) J->LeavesInM cv 0 C.P fn tmps R ds (.panicking [{v,recovered:=false}]) w)
 |[]=>by
  refine⟨fun U J w S h=>?_,fun U J x v w S h=>?_⟩
  ·have hd:J.df=[]:=by
    have:=S.defers.2.2;cases hdf:J.df with
    |nil=>rfl
    |cons p r=>rw[hdf]at this;obtain⟨_,_,_,h,_⟩:=this;cases h
   rw[hd]at h;exact hr U J w S h
  ·obtain⟨S',hx⟩:=S.avH S.aIx
   have hd:J.df=[]:=by
    have:=S'.defers.2.2;cases hdf:J.df with
    |nil=>rfl
    |cons p r=>rw[hdf]at this;obtain⟨_,_,_,h,_⟩:=this;cases h
   rw[hd]at h;exact hp U J x v w S' hx h
 |d::ds=>by
  obtain⟨ihr,ihp⟩:=af6 hr hp ds;refine⟨fun U J w S h=>?_,fun U J x v w S h=>?_⟩
  ·cases hm:agY d with
   |true=>
    obtain⟨D,hD,_⟩:=S.defers.2.1 d (cO) hm;subst hD;obtain⟨h1,S'⟩:=S.ahm;exact⟨by simp,.inl ⟨D,_,rfl,run_takeDeferred h1,ihr U J _ S' h⟩⟩
   |false=>
    obtain⟨f,xs,df',cap,hdf,ht,hxs,S'⟩:=S.pop hm;rw[hdf]at h;obtain⟨he,hc⟩:=h;refine⟨by simp,.inr ⟨fun h=>by simp [cv]at h,_,cap,f,d.args++cap,ht,amh ht he,fun _ _=>trivial,?_⟩⟩;refine xn (hc C U _ w rfl S' _ hxs) ?_;rintro e u' w' ⟨r,rfl,hs,o,U',H',hK,S2,tP⟩;cases o with
    |ret r'=>
     simp only;rw[hs];exact ihr U' _ w' S2 hK
    |panic _=>exact hK.elim
  ·cases hm:agY d with
   |true=>
    obtain⟨D,hD,_⟩:=S.defers.2.1 d (cO) hm;subst hD;obtain⟨h1,S'⟩:=S.ahm;exact⟨by simp,.inl ⟨D,_,rfl,run_takeDeferred h1,ihp U J x v _ S' h⟩⟩
   |false=>
    obtain⟨S1,hx⟩:=S.avH S.aIx;obtain⟨f,xs,df',cap,hdf,ht,hxs,S'⟩:=S1.pop hm;rw[hdf]at h;obtain⟨he,hc⟩:=h;refine⟨by simp,.inr ⟨fun h=>by simp [cv]at h,_,cap,f,d.args++cap,ht,amh ht he,fun _ _=>trivial,?_⟩⟩
    have SF:kQ (C.env U J.heap w) (xs++[x]) ((d.args++cap).push v).toList:=by
     have hv:kQ (C.env U J.heap w) [x] [v]:=⟨v,[],rfl,hx,rfl⟩;rw[cD];exact hxs.append hv
    refine xn (hc C U _ w rfl S' _ SF _ v rfl) ?_;rintro e u' w' ⟨r,rfl,⟨hs,o,U',H',hK,S2,tP⟩|⟨v',hs,o,U',H',hK,S2,tP⟩⟩
    ·cases o with
     |ret r'=>
      simp only;rw[hs];exact ihr U' _ w' S2 hK
     |panic _=>exact tP.elim
    ·cases o with
     |ret r'=>exact tP.elim
     |panic x'=>
      simp only;rw[hs];obtain⟨v2,hv2,hr2⟩:=tP;simp only[dh,PanicEntry.mk.injEq,and_true]at hv2;subst hv2;exact ihp U' _ x' _ w' (S2.aqs hr2) hK
end unw
def ai0(P:aMF)(rs:List ResultVar)(V:uP->List kp->Prop):Option AV->jX->Prop
 |none,J=>∃x,Pq P J rs=some x/\∃r H',af5 J x r H'/\V (.ret r) H'
 |some x,J=>∃r H',af5 J x r H'/\V (.panic r) H'
def aF6(P:aMF)(rs:List ResultVar)(V:uP->List kp->Prop):nW->jX->Prop
 |.normal,J=>ahp P (ai0 P rs V) J.df none J
 |.ret,J=>ahp P (ai0 P rs V) J.df none J
 |.panic x,J=>ahp P (ai0 P rs V) J.df (some x) J
 |_,_=>False
def asG{fn:Func}(hf:P.funcs[f]? =some fn)(hb:fn.body=some c)(wN:(fn.name != "runtime.NumGoroutine")=true)(Nb:xB H.length args)
 (IP:∀x∈H,sj H.length x) (hn:fn.ntmps=n) (Kg:fn.results=rs.toArray)
 (h:awp P c (aF6 P rs V) {kr:=args++ct (n-args.length) .any,heap:=H,low:=H.length}):Kk P f args H V:=by
 refine⟨?_,Nb,IP,fun C U w hP h0 hN0 hφ0 hM HS vs hr=>?_⟩
 ·unfold enters;rw[hf];simp only[hb,dJ,Bool.true_and];exact wN
 ·subst hP;refine(callsIn_wide (n:=0)).1 (callsIn_of_wp_marks hf hb trivial ?_);have hsz:vs.size=args.length:=by have:=hr.length;simpa using this
  have S:nr C U {kr:=args++ct (n-args.length) .any,heap:=H,low:=H.length} {tmps:=vs++cq (fn.ntmps-vs.size) undef,defers:=[]} w:=by
   refine {HS with kr:=?_,defers:=xj.nil};simp only[cT,cX];refine hr.append ?_;rw[hsz,hn];have:=kQ.Er (E:=C.env U H w) (ct (n-args.length) undef);simpa using this
  refine wpIn_mono (xR (ro:=none) c _ U _ _ w (.inl rfl) h S) ?_;intro e a' w' hq;have HC:∀{U':Nat->aMB}{J':jX}{a'':Act}{w'':aMG},nr C U' J' a'' w''->J'.low=H.length:=fun S'=>by rw[<-S'.low.1];exact hN0
  have uA:=af6 (C:=C) (tmps:=a'.tmps) (fn:=fn) (R:=fun e w'=>∃o U' H',V o H'/\nr C U' {kr:=[],heap:=H',low:=H.length} {tmps:= #[],defers:=[]} w'/\o.rep (C.env U' H' w') e) (uA:=ai0 C.P rs V)
   (by
     rintro U' J' w' S' ⟨x,hx,r,H',hex,hV⟩;obtain⟨v,hv,rv⟩:=N2 (fn:=fn) S' (by rw[Kg];exact hx);obtain⟨U2,S2,hr2⟩:=hex C U' _ w' S' v rv;rw[HC S']at S2;exact⟨v,hv,.ret r,U2,H',hV,S2,hr2⟩)
   (by
     rintro U' J' x v w' S' hx ⟨r,H',hex,hV⟩;obtain⟨U2,S2,hr2⟩:=hex C U' _ w' S' v hx;rw[HC S']at S2;exact⟨.panic r,U2,H',hV,S2,v,rfl,hr2⟩) a'.defers
  cases e with
  |normal=>obtain⟨U',J',S',hq⟩:=hq;exact uA.1 U' J' w' S' hq
  |ret=>obtain⟨U',J',S',hq⟩:=hq;exact uA.1 U' J' w' S' hq
  |exit id=>obtain⟨_,_,_,hq⟩:=hq;exact hq.elim
  |goto l=>obtain⟨_,_,_,hq⟩:=hq;exact hq.elim
  |panic chain=>
   obtain⟨U',J',x,v,S',hq,hch,tP⟩:=hq;subst hch;exact uA.2 U' J' x v w' (nr.aqs (tmps:=a'.tmps) (ds:=a'.defers) S' tP) hq
  |outgrown=>exact hq.elim
def ayY(P:aMF)(rs:List ResultVar)(V:AV->Prop):Option AV->jX->Prop
 |none,J=>ayX V J.heap (Pq P J rs)
 |some _,_=>False
def aA8(P:aMF)(rs:List ResultVar)(V:AV->Prop):nW->jX->Prop
 |.normal,J=>ahp P (ayY P rs V) J.df none J
 |.ret,J=>ahp P (ayY P rs V) J.df none J
 |.panic x,J=>ahp P (ayY P rs V) J.df (some x) J
 |_,_=>False
def aqt {fn:Func} {V:AV->Prop} (hf:P.funcs[f]? =some fn) (hb:fn.body=some c) (wN:(fn.name != "runtime.NumGoroutine")=true) (Nb:xB 0 args)
 (h:awp P c (aA8 P fn.results.toList V) {kr:=args++ct (fn.ntmps-args.length) .any,heap:=[]}):Ku P f args V:=by
 refine⟨?_,Nb,fun C U w hP h0 hN hM vs hr=>?_⟩
 ·unfold enters;rw[hf];simp only[hb,dJ,Bool.true_and];exact wN
 ·subst hP;refine (callsIn_wide (n:=0)).1 (callsIn_of_wp_marks hf hb trivial ?_);have hsz:vs.size=args.length:=by have:=hr.length;simpa using this
  have S:nr C U {kr:=args++ct (fn.ntmps-args.length) .any,heap:=[]} {tmps:=vs++cq (fn.ntmps-vs.size) undef,defers:=[]} w:=by
   refine {kr:=?_,defers:=xj.nil,sF:=by simp,apart:=by simp,Fj:=by simp,size:=by rw[h0];exact cn _,R3:=fun b o _ _=>by rw[h0],tC:=fun b _ _=>by rw[h0],XG:=by simp,Hz:=fun x _=>by rw[h0],rest:=by rw[h0];exact⟨rfl,rfl⟩,low:=⟨hN,cn _⟩,oe:=fun l hl=>by rw[hN]at hl;exact absurd hl (cx _)};simp only[cT,cX];refine hr.append ?_;rw[hsz];have:=kQ.Er (E:=C.env U [] w) (ct (fn.ntmps-args.length) undef);simpa using this
  refine wpIn_mono (xR (ro:=none) c _ U _ _ w (.inl rfl) h S) ?_;intro e a' w' hq
  have uA:=af6 (C:=C) (tmps:=a'.tmps) (fn:=fn) (R:=fun e w'=>∃r v U',V r/\e=.returned v/\pO (C.env U' [] w') r v/\w.heap.size<=w'.heap.size/\(∀b,b<w.heap.size->w'.heap[b]? =w.heap[b]?)/\
        (∀x,x.block<w.heap.size->w'.frozen? x=w.frozen? x)/\w'.output=w.output/\w'.os=w.os) (uA:=ayY C.P fn.results.toList V)
   (by
     intro U' J' w' S' UC;simp only[ayY]at UC;cases hx:Pq C.P J' fn.results.toList with
     |none=>rw[hx]at UC;exact UC.elim
     |some x=>
     rw[hx]at UC;obtain⟨hn,r0,aea,hV⟩:=UC;obtain⟨v,hv,rv⟩:=N2 S' hx;refine⟨v,hv,_,v,U',hV,rfl,aea _ _ (by have:=aiT S' (S'.aFZ (by rw[<-S'.low.1];exact hN)) x v;rw[<-S'.low.1,hN]at this;exact this hn rv),?_,?_,?_,?_⟩
     ·rw[<-h0];exact S'.size
     ·intro b hb;rw[<-h0];exact S'.tC b (by rw[h0];exact hb) (fun o=>hM b o)
     ·intro y hy;rw[<-h0];exact S'.Hz y (by rw[h0];exact hy)
     ·rw[<-h0];exact S'.rest)
   (by
     intro U' J' x v w' S' hx UC;exact UC.elim) a'.defers
  cases e with
  |normal=>obtain⟨U',J',S',hq⟩:=hq;exact uA.1 U' J' w' S' hq
  |ret=>obtain⟨U',J',S',hq⟩:=hq;exact uA.1 U' J' w' S' hq
  |exit id=>obtain⟨_,_,_,hq⟩:=hq;exact hq.elim
  |goto l=>obtain⟨_,_,_,hq⟩:=hq;exact hq.elim
  |panic chain=>
   obtain⟨U',J',x,v,S',hq,hch,tP⟩:=hq;subst hch;exact uA.2 U' J' x v w' (nr.aqs (tmps:=a'.tmps) (ds:=a'.defers) S' tP) hq
  |outgrown=>exact hq.elim
attribute [go_sem] AV.qC sO Fg kp.qC uP.qC oG wP sH XV aF6
def V4:List AV->List Tmp->List AV->List AV
 |s,p::ps,x::xs=>V4 (s.set p x) ps xs
 |s,_,_=>s
def apb{E:D4}:∀{ps:List Tmp}{xs:List AV}{vs:List aMB}{s:List AV}{t:Array aMB},kQ E xs vs->kQ E s t.toList->
 kQ E (V4 s ps xs) ((ps.zip vs).foldl (fun t (p:Tmp×aMB)=>t.setIfInBounds p.1 p.2) t).toList
 |[],_,_,_,_,_,h=>by simpa [V4] using h
 |_::_,[],_,_,_,rfl,h=>by simpa [V4] using h
 |p::ps,x::xs,_,s,t,⟨u,us,rfl,r1,r2⟩,h=>by
  simp only[V4,List.zip_cons_cons,List.foldl_cons];refine apb r2 ?_;have:=h.set (i:=p) r1
  grind
def ami:nW->Option (Option aMC)
 |.normal=>some none
 |.ret=>some (some .ret)
 |.exit id=>some (some (.exit id))
 |_=>none
def axY(V:uP->List kp->Prop)(e:nW)(J:jX):Prop:=
 ∃j k s,ami e=some (qW k.js j)/\J.heap[0]? =some (.loop k s .busy 0)/\∃r H',af5 {J with heap:=J.heap.set 0 (.loop k s (stP (qW k.js j)) j)} (.bool (qW k.js j).isNone) r H'/\V (.ret r) H'
def aqu{k:yo}(hH:H[0]? =some (.loop k kr .ready 0))
 (Nb:xB H.length args) (IP:∀x∈H,sj H.length x) (hn:xQ k.assign=true/\xQ k.body=true)
 (h:awp P k.assign (nW.then (fun J1=>∃k1 s1,J1.heap[0]? =some (.loop k1 s1 .ready 0)/\awp P k.body (axY V) {J1 with heap:=J1.heap.set 0 (.loop k1 s1 .busy 0)}) (fun _ _=>False))
   {kr:=V4 kr k.ps.toList args,heap:=H,low:=H.length}):FnT P (abo P) args H V:=by
 refine⟨Nb,IP,fun C U w hP h0 hN hφ0 hM HS vs hr D rec hφ hw=>?_⟩;subst hP;have anW:0<H.length:=(cc.1 hH).1
 have aA9:∀{U':Nat->aMB}{J':jX}{a':Act}{w':aMG},nr C U' J' a' w'->U' 0=.func (.yield (D+1)) #[] #[]:=by
  intro U' J' a' w' S';rcases S'.oe 0 (by omega)with⟨h1,_⟩|⟨⟨n,h1,_⟩,_⟩
  ·rw[h1,(hφ0 0 anW).1];exact hφ
  ·rw[(hφ0 0 anW).2,hH]at h1;cases h1
 have HC:∀{U':Nat->aMB}{J':jX}{a':Act}{w':aMG},nr C U' J' a' w'->J'.low=H.length:=fun S'=>by rw[<-S'.low.1];exact hN
 have IM:∀{U':Nat->aMB}{J':jX}{a':Act}{w':aMG}{k:yo}{s:List AV}{st:aMI}{c:Int},nr C U' J' a' w'->J'.heap[0]? =some (.loop k s st c)->
  ∃aai,w'.heap[D+1]? =some (.loop aai)/\(aai.params=k.ps/\aai.assign=k.assign/\aai.body=k.body/\aai.state=st/\aai.pending=qW k.js c/\aai.defers=D)/\kQ (C.env U' J'.heap w') s aai.tmps.toList:=by
  intro U' J' a' w' k s st c S' h0;obtain⟨D',aai,e1,g1,g2,g3,rl⟩:=S'.sF 0 _ h0;rw[aA9 S']at e1;simp only[c9,Fn.yield.injEq,cJ,and_true]at e1;subst e1;exact⟨aai,g1,g3,rl⟩
 obtain⟨aLA,g1,g3,rl⟩:=IM HS hH;rw[hw]at g1;cases g1;rw[g3.1,g3.2.1,g3.2.2.1];refine roundIn_of_wpIn (F:=cv) trivial ?_
 have S:nr C U {kr:=V4 kr k.ps.toList args,heap:=H,low:=H.length} {tmps:=(k.ps.zip vs).foldl (fun tmps (t,a)=>tmps.setIfInBounds t a) rec.tmps,defers:=[]} w:=by
  refine {HS with kr:=?_,defers:=xj.nil};have:=apb (ps:=k.ps.toList) hr rl
  grind [Array.toList_zip]
 refine wpIn_mono (xR (ro:=some (D+1)) k.assign _ U _ _ w (.inr hn.1) h S) ?_;intro e a1 w1 hq;cases e with
 |exit id=>obtain⟨_,_,_,hq⟩:=hq;exact hq.elim
 |goto l=>obtain⟨_,_,_,hq⟩:=hq;exact hq.elim
 |ret=>obtain⟨_,_,_,hq⟩:=hq;exact hq.elim
 |panic ch=>obtain⟨_,_,_,_,_,hq,_⟩:=hq;exact hq.elim
 |outgrown=>exact hq.elim
 |normal=>
  obtain⟨U1,J1,S1,k1,s1,hH1,Md⟩:=hq;obtain⟨aIy,kk,k3,_⟩:=IM S1 hH1;refine⟨_,run_beginRound kk k3.2.2.2.1,?_⟩;have S2:=S1.aqp (st':=.busy) (ama:=0) hH1 (aA9 S1) kk
  have e2:({aIy with state:=.busy,pending:=qW k1.js 0}:Loop)={aIy with state:=.busy}:=by
   rw[<-k3.2.2.2.2.1]
  rw[e2]at S2;refine wpIn_mono (xR (ro:=some (D+1)) k.body _ _ _ _ _ (.inr hn.2) Md S2) ?_
  have uA:∀(e:nW)(c:Option aMC)(U2:Nat->aMB)(J2:jX)(a2:Act)(w3:aMG),ami e=some c->nr C U2 J2 a2 w3->axY V e J2->
   ∃v w',(Instr.endRound (D+1) c).run C.P w3=.ok v w'/\∃o U' H',V o H'/\nr C U' {kr:=[],heap:=H',low:=H.length} {tmps:= #[],defers:=[]} w'/\o.rep (C.env U' H' w') (.returned v):=by
   rintro e c U2 J2 a2 w3 hj S3 ⟨j,k2,s2,hj',hH2,r,H',hex,hV⟩;rw[hj]at hj';obtain rfl:c=qW k2.js j:=Option.some.inj hj';obtain⟨aLB,m1,m3,_⟩:=IM S3 hH2;have S4:=S3.aqp (st':=stP (qW k2.js j)) (ama:=j) hH2 (aA9 S3) m1;have UC:=run_endRound (P:=C.P) (qW k2.js j) m1;have est:(if (qW k2.js j).isNone then LoopState.ready else .done)=stP (qW k2.js j):=by cases qW k2.js j<;>rfl
   rw[est]at UC;obtain⟨U5,S5,hr5⟩:=hex C U2 a2 _ S4 (.bool (qW k2.js j).isNone) rfl;rw[show J2.low=H.length from HC S3]at S5;exact⟨_,_,UC,.ret r,U5,H',hV,S5,hr5⟩
  intro e a2 w3 hq;cases e with
  |normal=>obtain⟨U2,J2,S3,hq⟩:=hq;exact uA .normal none U2 J2 a2 w3 rfl S3 hq
  |ret=>obtain⟨U2,J2,S3,hq⟩:=hq;exact uA .ret _ U2 J2 a2 w3 rfl S3 hq
  |exit id=>obtain⟨U2,J2,S3,hq⟩:=hq;exact uA (.exit id) _ U2 J2 a2 w3 rfl S3 hq
  |goto l=>obtain⟨_,_,_,_,_,_,hq,_⟩:=hq;cases hq
  |panic ch=>obtain⟨_,_,_,_,_,⟨_,_,_,hq,_⟩,_⟩:=hq;cases hq
  |outgrown=>exact hq.elim
def ahq:Nat->aMC->aMC
 |0,.seq x _=>x
 |1,.seq _ y=>y
 |0,.cond _ x _=>x
 |1,.cond _ _ y=>y
 |0,.block _ x=>x
 |0,.loop x=>x
 |0,.scope x=>x
 |_,_=>.skip
def sub:List Nat->aMC->aMC
 |[],c=>c
 |d::p,c=>ahq d (sub p c)
inductive Kt where
 |at (p:List Nat)
 |cut (p:List Nat)
 |ky (ky:Array aMA) (rest:List aMA)
 |R4 (p:List Nat) (rest:List aMA) (j:Nat) (tr:List Tr)
 |qU (id:Nat)
 |lp (m:Nat) (p:List Nat)
 |lq (m:Nat) (p:List Nat)
 |rb
 |rd
def avI(J:jX):Option kp->Option jX
 |some (.loop k s .ready 0)=>some {J with heap:=J.heap.set 0 (.loop k s .busy 0)}
 |_=>none
def ai1(J:jX):Option jX:=avI J J.heap[0]?
section

def avJ:aMC->Array aMA
 |.region _ ky _=>ky
 |_=> #[]
def tA(M:kR R)(p:List Nat):Array aMA:=avJ (sub p M.body)
def zy(M:kR R):Kt->jX->Option (nW×jX)
 |.at p,J=>exec M (sub p M.body) p J
 |.cut p,J=>(M.cut p J).map fun J'=>(.normal,J')
 |.ky ky rest,J=>vq M ky rest J
 |.R4 p rest j tr,J=>Kx M (tA M p) rest j tr J
 |.qU _,J=>some (.normal,J)
 |.lp m p,J=>(M.rK p J).bind (lqN (M.rK p) (exec M (sub (0::p) M.body) (0::p)) m)
 |.lq m p,J=>lqN (M.rK p) (exec M (sub (0::p) M.body) (0::p)) m J
 |.rb,J=>(ai1 J).map fun J'=>(.normal,J')
 |.rd,_=>none
def uA(M:kR R):List Kt->nW->jX->Option R
 |[],.normal,J=>M.out J
 |[],.ret,J=>M.out J
 |[],.panic x,J=>M.pT x J
 |[],_,_=>none
 |.rd::_,e,J=>M.nT e J
 |.qU id::k,.exit id',J=>if id'=id then uA M k .normal J else uA M k (.exit id') J
 |x::k,.normal,J=>match zy M x J with
  |some (e,J')=>uA M k e J'
  |none=>none
 |_::k,e,J=>uA M k e J
def run(M:kR R)(k:List Kt)(J:jX):Option R:=uA M k .normal J
variable {M:kR R} {k:List Kt}
def aDF:run M [] J=M.out J:=rfl
def aDG{id:Nat}:run M (.qU id::k) J=run M k J:=rfl
theorem qD{x:Kt}(h:∀id,x≠ .qU id)(h2:x≠ .rd:=by simp):uA M (x::k) .normal J=match zy M x J with
 |some (e,J')=>uA M k e J'
 |none=>none:=by
 cases x<;>first|rfl|exact absurd rfl (h _)|exact absurd rfl h2
def asH:run M (.ky ky []::k) J=run M k J:=rfl
def aqv:run M (.R4 p [] j tr::k) J=run M k J:=rfl
def vI(id:Nat):List Kt->Option (List Kt)
 |[]=>none
 |.qU id'::k=>if id=id' then some k else vI id k
 |.rd::_=>none
 |_::k=>vI id k
def aIz:Kt->Bool
 |.rd=>true
 |_=>false
def asI:List Kt->Bool
 |[]=>false
 |x::k=>aIz x||asI k
def HE{id:Nat}:∀{k k':List Kt},vI id k=some k'->uA M k (.exit id) J=run M k' J
 |[],_,h=>by simp [vI]at h
 | .qU id'::k,k',h=>by
   simp only[vI]at h;split at h
   ·rename_i e;cases h;subst e;simp only[uA,jQ];rfl
   ·rename_i e;simp only[uA,e,if_false];exact HE h
 |.at _::k,k',h=>HE (k:=k) (by simpa [vI] using h)
 |.cut _::k,k',h=>HE (k:=k) (by simpa [vI] using h)
 |.ky _ _::k,k',h=>HE (k:=k) (by simpa [vI] using h)
 |.R4 _ _ _ _::k,k',h=>HE (k:=k) (by simpa [vI] using h)
 |.lp _ _::k,k',h=>HE (k:=k) (by simpa [vI] using h)
 |.lq _ _::k,k',h=>HE (k:=k) (by simpa [vI] using h)
 |.rb::k,k',h=>HE (k:=k) (by simpa [vI] using h)
 |.rd::k,k',h=>by simp [vI]at h
def HF{id:Nat}:∀{k:List Kt},vI id k=none->uA M k (.exit id) J=bif asI k then M.nT (.exit id) J else none
 |[],_=>rfl
 | .qU id'::k,h=>by
   simp only[vI]at h;split at h
   ·cases h
   ·rename_i e;simp only[uA,e,if_false];exact HF h
 |.rb::k,h=>HF (k:=k) (by simpa [vI] using h)
 |.rd::k,h=>rfl
 |.at _::k,h=>HF (k:=k) (by simpa [vI] using h)
 |.cut _::k,h=>HF (k:=k) (by simpa [vI] using h)
 |.ky _ _::k,h=>HF (k:=k) (by simpa [vI] using h)
 |.R4 _ _ _ _::k,h=>HF (k:=k) (by simpa [vI] using h)
 |.lp _ _::k,h=>HF (k:=k) (by simpa [vI] using h)
 |.lq _ _::k,h=>HF (k:=k) (by simpa [vI] using h)
def ND:∀{k:List Kt},uA M k .ret J=bif asI k then M.nT .ret J else M.out J
 |[]=>rfl
 |.rb::k=>ND (k:=k)
 |.rd::k=>rfl
 |.qU _::k=>ND (k:=k)
 |.at _::k=>ND (k:=k)
 |.cut _::k=>ND (k:=k)
 |.ky _ _::k=>ND (k:=k)
 |.R4 _ _ _ _::k=>ND (k:=k)
 |.lp _ _::k=>ND (k:=k)
 |.lq _ _::k=>ND (k:=k)
def aqw(M:kR R)(x:AV)(J:jX)(k:List Kt):Option R:=bif asI k then M.nT (.panic x) J else M.pT x J
theorem Cg{x:AV}:∀{k:List Kt},uA M k (.panic x) J=aqw M x J k
 |[]=>rfl
 |.rb::k=>Cg (k:=k)
 |.rd::k=>rfl
 |.qU _::k=>Cg (k:=k)
 |.at _::k=>Cg (k:=k)
 |.cut _::k=>Cg (k:=k)
 |.ky _ _::k=>Cg (k:=k)
 |.R4 _ _ _ _::k=>Cg (k:=k)
 |.lp _ _::k=>Cg (k:=k)
 |.lq _ _::k=>Cg (k:=k)
def apc(M:kR R)(J:jX)(id:Nat)(k:List Kt):Option (List Kt)->Option R
 |some k=>run M k J
 |none=>bif asI k then M.nT (.exit id) J else none
def avK{id:Nat}{k k':List Kt}:apc M J id k (some k')=run M k' J:=rfl
def avL{id:Nat}{k:List Kt}:apc M J id k none=bif asI k then M.nT (.exit id) J else none:=rfl
def aBa(M:kR R)(J:jX)(k:List Kt):Option R:=bif asI k then M.nT .ret J else M.out J
def amj(M:kR R)(k:List Kt)(J:jX):Option aMC->Option R
 |none=>run M k J
 |some .ret=>aBa M J k
 |some (.exit id)=>apc M J id k (vI id k)
 |_=>none
def amk(M:kR R)(k:List Kt)(J:jX)(H':List kp):Option kp->Option R
 |some (.loop lk _ st uK)=>nJ (st=stP (qW lk.js uK)) (amj M k {J with heap:=H'.set J.heap.length .sU} (qW lk.js uK))
 |_=>none
def af7(M:kR R)(k:List Kt)(J:jX):Option (AV×List kp)->Option R
 |some (_,H')=>amk M k J H' H'[J.heap.length]?
 |none=>none
def axZ(M:kR R)(lk:yo)(k:List Kt)(J:jX):AV->Option R
 |.func (.func f) first cap=>af7 M k J (M.cl f (first++[.map J.heap.length]++cap) (J.heap++[.loop lk J.kr .ready 0]))
 |_=>none
def avM:amj M k J none=run M k J:=rfl
def ayZ:amj M k J (some .ret)=aBa M J k:=rfl
def avN{id:Nat}:amj M k J (some (.exit id))=apc M J id k (vI id k):=rfl
theorem asJ{st:aMI}:amk M k J H' (some (.loop lk s st uK))=nJ (st=stP (qW lk.js uK)) (amj M k {J with heap:=H'.set J.heap.length .sU} (qW lk.js uK)):=rfl
def asK:af7 M k J (some (r,H'))=amk M k J H' H'[J.heap.length]? :=rfl
def asL:af7 M k J none=none:=rfl
def asM{o:Option W}{f:W->Option (AV×List kp)}:af7 M k J (o.bind f)=o.bind fun x=>af7 M k J (f x):=by cases o<;>rfl
def avO {cap:List AV}:axZ M lk k J (.func (.func f) first cap)=af7 M k J (M.cl f (first++[.map J.heap.length]++cap) (J.heap++[.loop lk J.kr .ready 0])):=rfl
def ai2(M:kR R)(c:aME)(p:List Nat)(k:List Kt)(J:jX):AV->Option R
 |.bool b=>bif b then run M (.at (0::p)::k) (amb c true J)else run M (.at (1::p)::k) (amb c false J)
 |_=>none
def asO{c:aME}:ai2 M c p k J (.bool true)=run M (.at (0::p)::k) (amb c true J):=rfl
def aqx{c:aME}:ai2 M c p k J (.bool false)=run M (.at (1::p)::k) (amb c false J):=rfl
def avP{c:aME}:ai2 M c p k J (.bool b)=bif b then run M (.at (0::p)::k) (amb c true J)else run M (.at (1::p)::k) (amb c false J):=rfl
def sP(M:kR R)(p:List Nat):Bool:=
 match sub p M.body with
 |.region _ ky _=>IN ky
 |_=>false
def aDH(js:List (Int×aMC)):aMC->yo
 |.rangeFunc _ ps as body=>⟨ps,as,body,js⟩
 |_=>⟨#[],.skip,.skip,[]⟩
def lkM(M:kR R)(p:List Nat):yo:=aDH (M.js p) (sub p M.body)
def Fs(M:kR R)(p:List Nat)(k:List Kt)(J:jX):aMC->Option R
 |.skip=>run M k J
 |.region _ ky false=>run M (.ky ky ky.toList::k) J
 |.region _ ky true=>nJ (M.P.follows .mixedOrders=true/\sP M p=true) (run M (.R4 p ky.toList 0 []::k) J)
 |.seq _ _=>run M (.at (0::p)::.cut (1::p)::.at (1::p)::k) J
 |.cond c _ _=>ai2 M c p k J (J.ev c)
 |.block id _=>run M (.at (0::p)::.qU id::k) J
 |.loop _=>run M (.lp M.n p::k) J
 |.exit id=>apc M J id k (vI id k)
 |.scope _=>run M (.at (0::p)::k) J
 |.label _=>run M k J
 |.ret=>aBa M J k
 |.rangeFunc g _ _ _=>axZ M (lkM M p) k J (J.ev g)
 |_=>none
theorem ay0{id:Nat}{e:nW}:uA M (.qU id::k) e J=match (match e with
 |.exit id'=>if id'=id then(nW.normal,J)else(.exit id',J)
 |e=>(e,J))with
 |(e,J)=>uA M k e J:=by
 cases e with
 |exit id'=>
  simp only[uA];split<;>rfl
 |_=>rfl
theorem asQ{x:Kt}{e:nW}(h:∀id,x≠ .qU id)(he:e≠ .normal)(h2:x≠ .rd:=by simp):uA M (x::k) e J=uA M k e J:=by
 cases x<;>cases e<;>first|rfl|exact absurd rfl (h _)|exact absurd rfl he|exact absurd rfl h2
def aGB:run M (.at p::k) J=Fs M p k J (sub p M.body):=by
 show uA M (.at p::k) .normal J=_;rw[qD (by simp)];simp only[zy];cases hc:sub p M.body with
 |skip=>rfl
 |region id ky b=>
  cases b with
  |false=>
   simp only[exec,Fs];show _=uA M (.ky ky ky.toList::k) .normal J
   grind [qD,zy]
  |true=>
   simp only[exec,Fs];show _=nJ _ (uA M (.R4 p ky.toList 0 []::k) .normal J)
   grind [qD,zy,sP,tA,avJ,nJ]
 |seq x y=>
  simp only[exec,Fs];show _=uA M (.at (0::p)::.cut (1::p)::.at (1::p)::k) .normal J;rw[qD (by simp)];have h0:sub (0::p) M.body=x:=by simp [sub,hc,ahq]
  have h1:sub (1::p) M.body=y:=by simp [sub,hc,ahq]
  simp only[zy,h0];cases hx:exec M x (0::p) J with
  |none=>rfl
  |some r=>
   obtain⟨e1,J1⟩:=r;cases e1 with
   |normal=>
    simp only;rw[qD (by simp)];simp only[zy];cases aGC:M.cut (1::p) J1 with
    |none=>rfl
    |some J2=>
     grind [qD,zy]
   |_=>
    simp_all [asQ]
 |cond c x y=>
  simp only[exec,Fs];have h0:sub (0::p) M.body=x:=by simp [sub,hc,ahq]
  have h1:sub (1::p) M.body=y:=by simp [sub,hc,ahq]
  cases hv:J.ev c with
  |bool b=>
   simp only[ai2];cases b with
   |true=>
    simp only[jK];show _=uA M (.at (0::p)::k) .normal _
    grind [qD,zy]
   |false=>
    simp only[jL];show _=uA M (.at (1::p)::k) .normal _
    grind [qD,zy]
  |_=>rfl
 |block id x=>
  simp only[exec,Fs];have h0:sub (0::p) M.body=x:=by simp [sub,hc,ahq]
  show _=uA M (.at (0::p)::.qU id::k) .normal J
  grind [qD,zy,ay0]
 |loop x=>
  simp only[exec,Fs];have h0:sub (0::p) M.body=x:=by simp [sub,hc,ahq]
  show _=uA M (.lp M.n p::k) .normal J
  grind [qD,zy]
 |exit id=>
  simp only[exec,Fs];cases hb:vI id k with
  |none=>exact HF hb
  |some k'=>exact HE hb
 |scope x=>
  simp only[exec,Fs];have h0:sub (0::p) M.body=x:=by simp [sub,hc,ahq]
  show _=uA M (.at (0::p)::k) .normal J
  grind [qD,zy]
 |label l=>rfl
 |ret=>exact ND
 |goto l=>rfl
 |rangeFunc g ps as body=>
  have hlk:lkM M p=⟨ps,as,body,M.js p⟩:=by simp only[lkM,hc,aDH]
  simp only[exec,Fs,hlk];cases hv:J.ev g with
  |func fn first cap=>
   cases fn with
   |func f=>
    simp only[aA4,axZ];cases hcl:M.cl f (first++[.map J.heap.length]++cap) (J.heap++[.loop ⟨ps,as,body,M.js p⟩ J.kr .ready 0])with
    |none=>rfl
    |some q=>
     obtain⟨r,H'⟩:=q;simp only[af7];cases hH:H'[J.heap.length]? with
     |none=>rfl
     |some x=>
      cases x with
      |loop lk s st uK=>
       simp only[aDA,amk];by_cases VT:st=stP (qW lk.js uK)
       ·simp only[nJ,if_pos VT];generalize qW lk.js uK=pc;cases pc with
        |none=>rfl
        |some c=>
         cases c with
         |ret=>exact ND
         |exit id=>
          simp only[asB,amj];cases hb:vI id k with
          |none=>exact HF hb
          |some k'=>exact HE hb
         |_=>rfl
       ·simp only[nJ,if_neg VT]
      |_=>rfl
   |_=>rfl
  |_=>rfl
 |refuse s=>rfl
def avQ:Fs M p k J .skip=run M k J:=rfl
def aqy{id:Nat}:Fs M p k J (.region id ky false)=run M (.ky ky ky.toList::k) J:=rfl
def avR{id:Nat}:Fs M p k J (.region id ky true)=nJ (M.P.follows .mixedOrders=true) (nJ (sP M p=true) (run M (.R4 p ky.toList 0 []::k) J)):=by
 rw[<-adM];rfl
def ay1{x y:aMC}:Fs M p k J (.seq x y)=run M (.at (0::p)::.cut (1::p)::.at (1::p)::k) J:=rfl
def avS{c:aME}{x y:aMC}:Fs M p k J (.cond c x y)=ai2 M c p k J (J.ev c):=rfl
def asR{id:Nat}{x:aMC}:Fs M p k J (.block id x)=run M (.at (0::p)::.qU id::k) J:=rfl
def avT{x:aMC}:Fs M p k J (.loop x)=run M (.lp M.n p::k) J:=rfl
def avU{id:Nat}:Fs M p k J (.exit id)=apc M J id k (vI id k):=rfl
def asS {as:aMC}:Fs M p k J (.rangeFunc g ps as body)=axZ M (lkM M p) k J (J.ev g):=rfl
def asU{x:aMC}:Fs M p k J (.scope x)=run M (.at (0::p)::k) J:=rfl
def asV:Fs M p k J (.label l)=run M k J:=rfl
def ay2:Fs M p k J .ret=aBa M J k:=rfl
def aGD:run M (.rb::k) J=(ai1 J).bind fun J'=>run M k J':=by
 show uA M (.rb::k) .normal J=_;rw[qD (by simp)];simp only[zy];cases ai1 J<;>rfl
def aGE:run M (.rd::k) J=M.nT .normal J:=rfl
theorem alm:run M (.cut p::k) J=(M.cut p J).bind fun J'=>run M k J':=by
 show uA M (.cut p::k) .normal J=_;rw[qD (by simp)];simp only[zy];cases M.cut p J<;>rfl
def aGF:run M (.lp m p::k) J=(M.rK p J).bind fun J'=>run M (.lq m p::k) J':=by
 show uA M (.lp m p::k) .normal J=_;rw[qD (by simp)];simp only[zy];cases h:M.rK p J with
 |none=>rfl
 |some J'=>
  simp only[cw];show _=uA M (.lq m p::k) .normal J'
  grind [qD,zy]
def Jm:run M (.lq 0 p::k) J=none:=by
 show uA M (.lq 0 p::k) .normal J=_
 grind [qD,zy,lqN]
theorem C7:run M (.lq (m+1) p::k) J=run M (.at (0::p)::.lp m p::k) J:=by
 show uA M (.lq (m+1) p::k) .normal J=uA M (.at (0::p)::.lp m p::k) .normal J;rw[qD (by simp),qD (by simp)];simp only[zy,lqN];cases hx:exec M (sub (0::p) M.body) (0::p) J with
 |none=>rfl
 |some r=>
  obtain⟨e1,J1⟩:=r;cases e1 with
  |normal=>
   grind [qD,zy]
  |_=>
   grind [asQ]
def th(M:kR R)(ky:Array aMA)(dst:Option Tmp)(rest:List aMA)(k:List Kt)(J:jX):Option wO->Option R
 |some e=>nJ e.pre (run M (.ky ky rest::k) (J.app dst e))
 |none=>none
def QF(M:kR R)(ky:Array aMA)(dst:Option Tmp)(rest:List aMA)(k:List Kt)(J:jX):Option (AV×List kp)->Option R
 |some (r,H')=>run M (.ky ky rest::k) (jX.put {J with heap:=H'} dst r)
 |none=>none
def SJ(M:kR R)(ky:Array aMA)(dst:Option Tmp)(rest:List aMA)(k:List Kt)(J:jX):Option (uP×List kp)->Option R
 |some (.ret r,H')=>run M (.ky ky rest::k) (jX.put {J with heap:=H'} dst r)
 |some (.panic x,H')=>aqw M x {J with heap:=H'} k
 |none=>none
def ax0(M:kR R)(ky:Array aMA)(dst:Option Tmp)(rest:List aMA)(k:List Kt)(J:jX):Option (aMD×List AV)->Option R
 |some p=>run M (.ky ky rest::k) (J.dfr p dst)
 |none=>none
def ax1(M:kR R)(k:List Kt)(J:jX):Option AV->Option R
 |some x=>aqw M x J k
 |none=>none
def wG(M:kR R)(ky:Array aMA)(dst:Option Tmp)(rest:List aMA)(k:List Kt)(J:jX):Op->Option R
 |.defer c=>ax0 M ky dst rest k J (Gu J (.defer c))
 |.panic x=>ax1 M k J (VV J (.panic x))
 |o=>th M ky dst rest k J (lC M.P J o)
def apd(M:kR R)(ky:Array aMA)(o:aMA)(rest:List aMA)(k:List Kt)(J:jX):Option (Nat×List AV)->Option R
 |some (l,args)=>QF M ky o.dst rest k J (M.cy l args J.heap)
 |none=>wG M ky o.dst rest k J o.op
def aml(M:kR R)(ky:Array aMA)(o:aMA)(rest:List aMA)(k:List Kt)(J:jX):Option (aMD×List AV)->Option R
 |some (f,args)=>bif M.wF f then SJ M ky o.dst rest k J (M.cp f args J.heap)else QF M ky o.dst rest k J (M.cl f args J.heap)
 |none=>apd M ky o rest k J (Gt J o.op)
def asW(M:kR R)(ky:Array aMA)(o:aMA)(rest:List aMA)(k:List Kt)(J:jX):Option Bool->Option R
 |none=>none
 |some b=>bif b then aml M ky o rest k (vB ky o true J) (nF (vB ky o true J) o.op)else run M (.ky ky rest::k) ((vB ky o false J).put o.dst (.uE undef))
def aDI {rest:List aMA}:run M (.ky ky (o::rest)::k) J=asW M ky o rest k J (qE ky o J):=by
 have hr:∀J,run M (.ky ky rest::k) J=match vq M ky rest J with|some (e,J')=>uA M k e J'|none=>none:=by
  intro J;show uA M (.ky ky rest::k) .normal J=_
  grind [qD,zy]
 have hl:run M (.ky ky (o::rest)::k) J=match vq M ky (o::rest) J with|some (e,J')=>uA M k e J'|none=>none:=by
  show uA M (.ky ky (o::rest)::k) .normal J=_
  grind [qD,zy]
 rw[hl];simp only[vq];cases hw:qE ky o J with
 |none=>rfl
 |some b=>
  simp only[asW];cases b with
  |false=>simp only[jL,hr]
  |true=>
   simp only[jK];cases hc:nF (vB ky o true J) o.op with
   |some q=>
    grind [aml,SJ,Cg,QF]
   |none=>
    simp only[aml];cases hy:Gt (vB ky o true J) o.op with
    |some q=>
     grind [apd,QF]
    |none=>
     simp only[apd]
     have key:(∀c,o.op≠ .defer c)->(∀x,o.op≠ .panic x)->wG M ky o.dst rest k (vB ky o true J) o.op=th M ky o.dst rest k (vB ky o true J) (lC M.P (vB ky o true J) o.op):=by
      simp_all [wG]
     by_cases h1:∃c,o.op=.defer c
     ·obtain⟨c,hc'⟩:=h1;simp only[hc',lC,wG]
      grind [ax0,VV]
     ·by_cases h2:∃x,o.op=.panic x
      ·obtain⟨x,hx⟩:=h2;simp only[hx,lC,wG,Gu]
       grind [ax1,Cg]
      ·rw[key (fun c hc'=>h1 ⟨c,hc'⟩) (fun x hx=>h2 ⟨x,hx⟩)];cases he:lC M.P (vB ky o true J) o.op with
       |none=>
        simp_all [th,Gu,VV]
       |some e=>
        grind [th,nJ]
def avV{rest:List aMA}:asW M ky o rest k J (some true)=aml M ky o rest k (vB ky o true J) (nF (vB ky o true J) o.op):=rfl
def asX{rest:List aMA}:asW M ky o rest k J (some false)=run M (.ky ky rest::k) ((vB ky o false J).put o.dst (.uE undef)):=rfl
def ay3{rest:List aMA}:asW M ky o rest k J (some b)=bif b then aml M ky o rest k (vB ky o true J) (nF (vB ky o true J) o.op)else run M (.ky ky rest::k) ((vB ky o false J).put o.dst (.uE undef)):=rfl
def avW{rest:List aMA}:aml M ky o rest k J (some (f,args))=bif M.wF f then SJ M ky o.dst rest k J (M.cp f args J.heap)else QF M ky o.dst rest k J (M.cl f args J.heap):=rfl
def ay5{rest:List aMA}:SJ M ky dst rest k J (some (.ret r,H'))=run M (.ky ky rest::k) (jX.put {J with heap:=H'} dst r):=rfl
def ay6{rest:List aMA}:SJ M ky dst rest k J (some (.panic x,H'))=aqw M x {J with heap:=H'} k:=rfl
def avX{rest:List aMA}:SJ M ky dst rest k J none=none:=rfl
def avY{rest:List aMA}{o:Option W}{f:W->Option (uP×List kp)}:SJ M ky dst rest k J (o.bind f)=o.bind fun x=>SJ M ky dst rest k J (f x):=by
 cases o<;>rfl
def avZ{rest:List aMA}{x y:Option (uP×List kp)}:SJ M ky dst rest k J (bif b then x else y)=bif b then SJ M ky dst rest k J x else SJ M ky dst rest k J y:=by cases b<;>rfl
def av0{rest:List aMA}{p:aMD×List AV}:ax0 M ky dst rest k J (some p)=run M (.ky ky rest::k) (J.dfr p dst):=rfl
def av1:ax1 M k J (some x)=aqw M x J k:=rfl
def av2{rest:List aMA}:aml M ky o rest k J none=apd M ky o rest k J (Gt J o.op):=rfl
def av3{rest:List aMA}:apd M ky o rest k J (some (l,args))=QF M ky o.dst rest k J (M.cy l args J.heap):=rfl
def av4{rest:List aMA}:apd M ky o rest k J none=wG M ky o.dst rest k J o.op:=rfl
def av5{rest:List aMA}:th M ky dst rest k J none=none:=rfl
def av6{rest:List aMA}{rd:List Nat}{up:List (Nat×kp)}{p:Prop}:
 th M ky dst rest k J (some {val:=x,rd,up,nw,pre:=p})=nJ p (run M (.ky ky rest::k) {J.put dst x with heap:=mN J.heap up++nw}):=rfl
def av7{rest:List aMA}{o:Option W}{f:W->Option wO}:th M ky dst rest k J (o.bind f)=o.bind fun x=>th M ky dst rest k J (f x):=by
 cases o<;>rfl
def ay7{rest:List aMA}{p:Prop}[Decidable p]{a b:Option wO}:th M ky dst rest k J (if p then a else b)=bif decide p then th M ky dst rest k J a else th M ky dst rest k J b:=by
 by_cases h:p<;>simp [h]
def av8{rest:List aMA}:QF M ky dst rest k J (some (r,H'))=run M (.ky ky rest::k) (jX.put {J with heap:=H'} dst r):=rfl
theorem amm{rest:List aMA}:QF M ky dst rest k J none=none:=rfl
def av9{rest:List aMA}{o:Option W}{f:W->Option (AV×List kp)}:QF M ky dst rest k J (o.bind f)=o.bind fun x=>QF M ky dst rest k J (f x):=by
 cases o<;>rfl
def XW(M:kR R)(p:List Nat)(tr:List Tr)(j:Nat)(e:wO):Prop:=XU (tA M p) tr j e
def N3(M:kR R)(p:List Nat)(i j:Nat):Bool:=akt (tA M p) i j
def awa{e:wO}:XW M p tr j e=(e.idle=true\/(tr.all fun t=>Ce t e||N3 M p t.j j)=true):=rfl
def Ch(M:kR R)(p:List Nat)(dst:Option Tmp)(rest:List aMA)(j:Nat)(tr:List Tr)(k:List Kt)(J:jX):Option wO->Option R
 |some e=>nJ (e.pre/\XW M p tr j e) (run M (.R4 p rest (j+1) (Na tr j J.heap.length e)::k) (J.app dst e))
 |none=>none
def af8(M:kR R)(p:List Nat)(dst:Option Tmp)(rest:List aMA)(j:Nat)(tr:List Tr)(k:List Kt)(J:jX):Option AV->Option R
 |some r=>run M (.R4 p rest (j+1) tr::k) (J.put dst r)
 |none=>none
def abx(M:kR R)(p:List Nat)(c:Nat)(rest:List aMA)(j:Nat)(J:jX):Prop:=V1 M.P (tA M p) c rest j J
def UD(M:kR R)(p:List Nat)(c:Nat):Bool:=ast (tA M p) c
def aMm(M:kR R)(p:List Nat)(dst:Option Tmp)(rest:List aMA)(j:Nat)(tr:List Tr)(k:List Kt)(J:jX):Option CO->Option R
 |some (.ret e)=>Ch M p dst rest j tr k J (some e)
 |some (.pan x H')=>nJ (UD M p j=true\/(QB tr=true/\abx M p j rest (j+1) (J.put dst (.uE undef)))) (aqw M x {J with kr:=XT (tA M p) J.kr,heap:=H'} k)
 |none=>none
def af9(M:kR R)(p:List Nat)(o:aMA)(rest:List aMA)(j:Nat)(tr:List Tr)(k:List Kt)(J:jX):Option (aMD×List AV)->Option R
 |some (f,args)=>bif M.uO f then aMm M p o.dst rest j tr k J (M.co f args J.heap)else bif M.uR f then Ch M p o.dst rest j tr k J (M.ce f args J.heap)else af8 M p o.dst rest j tr k J (M.cd f args)
 |none=>Ch M p o.dst rest j tr k J (lC M.P J o.op)
def amn(M:kR R)(p:List Nat)(o:aMA)(rest:List aMA)(j:Nat)(tr:List Tr)(k:List Kt)(J:jX):Option Bool->Option R
 |none=>none
 |some b=>bif b then af9 M p o rest j tr k (vB (tA M p) o true J) (nF (vB (tA M p) o true J) o.op)else run M (.R4 p rest (j+1) tr::k) ((vB (tA M p) o false J).put o.dst (.uE undef))
def aBb{rest:List aMA}:run M (.R4 p (o::rest) j tr::k) J=amn M p o rest j tr k J (qE (tA M p) o J):=by
 have hr:∀j tr J,run M (.R4 p rest j tr::k) J=match Kx M (tA M p) rest j tr J with|some (e,J')=>uA M k e J'|none=>none:=by
  intro j tr J;show uA M (.R4 p rest j tr::k) .normal J=_
  grind [qD,zy]
 have hl:run M (.R4 p (o::rest) j tr::k) J=match Kx M (tA M p) (o::rest) j tr J with|some (e,J')=>uA M k e J'|none=>none:=by
  show uA M (.R4 p (o::rest) j tr::k) .normal J=_
  grind [qD,zy]
 rw[hl];simp only[Kx];cases hw:qE (tA M p) o J with
 |none=>rfl
 |some b=>
  simp only[amn];cases b with
  |false=>simp only[jL,hr]
  |true=>
   simp only[jK];cases hc:nF (vB (tA M p) o true J) o.op with
   |some q=>
    obtain⟨f,args⟩:=q;simp only[af9];cases hic:M.uO f with
    |true=>
     grind [aMm,Ch,XW,nJ,abx,UD,Cg]
    |false=>
    grind [Ch,XW,nJ,af8]
   |none=>
    grind [af9,Ch,XW,nJ]
def asY{rest:List aMA}:amn M p o rest j tr k J (some true)=af9 M p o rest j tr k (vB (tA M p) o true J) (nF (vB (tA M p) o true J) o.op):=rfl
def aqz{rest:List aMA}:amn M p o rest j tr k J (some false)=run M (.R4 p rest (j+1) tr::k) ((vB (tA M p) o false J).put o.dst (.uE undef)):=rfl
def awb{rest:List aMA}:amn M p o rest j tr k J (some b)=bif b then af9 M p o rest j tr k (vB (tA M p) o true J) (nF (vB (tA M p) o true J) o.op)else run M (.R4 p rest (j+1) tr::k) ((vB (tA M p) o false J).put o.dst (.uE undef)):=rfl
def asZ{rest:List aMA}:af9 M p o rest j tr k J (some (f,args))=bif M.uO f then aMm M p o.dst rest j tr k J (M.co f args J.heap)else bif M.uR f then Ch M p o.dst rest j tr k J (M.ce f args J.heap)else af8 M p o.dst rest j tr k J (M.cd f args):=rfl
def awc{rest:List aMA}{e:wO}:aMm M p dst rest j tr k J (some (.ret e))=Ch M p dst rest j tr k J (some e):=rfl
def awd{rest:List aMA}:aMm M p dst rest j tr k J (some (.pan x H'))=bif UD M p j then aqw M x {J with kr:=XT (tA M p) J.kr,heap:=H'} k else nJ (QB tr=true) (nJ (abx M p j rest (j+1) (J.put dst (.uE undef))) (aqw M x {J with kr:=XT (tA M p) J.kr,heap:=H'} k)):=by
 grind [aMm,nJ]
def as0{rest:List aMA}:aMm M p dst rest j tr k J none=none:=rfl
def as1{rest:List aMA}{o:Option W}{f:W->Option CO}:aMm M p dst rest j tr k J (o.bind f)=o.bind fun x=>aMm M p dst rest j tr k J (f x):=by
 cases o<;>rfl
def ay8 {c:Nat}:abx M p c [] j J=True:=rfl
def Mb(M:kR R)(p:List Nat)(c j:Nat):Bool:=pY (tA M p) c j
def awe {c:Nat}{rest:List aMA}(h:Mb M p c j=true):abx M p c (o::rest) j J=abx M p c rest (j+1) (J.put o.dst (.uE undef)):=by
 unfold Mb at h;show V1 M.P (tA M p) c (o::rest) j J=V1 M.P (tA M p) c rest (j+1) (J.put o.dst (.uE undef));simp only[V1,h]
def as2{rest:List aMA}:Ch M p dst rest j tr k J none=none:=rfl
def as3{rest:List aMA}{rd:List Nat}{up:List (Nat×kp)}:
 Ch M p dst rest j tr k J (some {val:=x,rd,up,nw,pre:=pr})=nJ pr (nJ (XW M p tr j {val:=x,rd,up,nw,pre:=pr}) (run M (.R4 p rest (j+1) (Na tr j J.heap.length {val:=x,rd,up,nw,pre:=pr})::k) {J.put dst x with heap:=mN J.heap up++nw})):=by
 rw[<-adM];rfl
def as4{rest:List aMA}{o:Option W}{f:W->Option wO}:Ch M p dst rest j tr k J (o.bind f)=o.bind fun x=>Ch M p dst rest j tr k J (f x):=by
 cases o<;>rfl
def awf{rest:List aMA}[Decidable pr]{a b:Option wO}:Ch M p dst rest j tr k J (if pr then a else b)=bif decide pr then Ch M p dst rest j tr k J a else Ch M p dst rest j tr k J b:=by
 by_cases h:pr<;>simp [h]
def as5{rest:List aMA}:af8 M p dst rest j tr k J (some r)=run M (.R4 p rest (j+1) tr::k) (J.put dst r):=rfl
def as6{rest:List aMA}:af8 M p dst rest j tr k J none=none:=rfl
def as7{rest:List aMA}{o:Option W}{f:W->Option AV}:af8 M p dst rest j tr k J (o.bind f)=o.bind fun x=>af8 M p dst rest j tr k J (f x):=by
 cases o<;>rfl
def XX(G:Fh M){r:R}(h:run M [.at []] J=some r)(hQ:∀J',M.out J'=some r->Q .normal J'/\Q .ret J')(hP:∀x J',M.pT x J'=some r->Q (.panic x) J'):awp M.P M.body Q J:=by
 have h':uA M [.at []] .normal J=some r:=h;rw[qD (by simp)]at h';simp only[zy,sub]at h';cases hx:exec M M.body [] J with
 |none=>simp only[hx]at h';cases h'
 |some q=>
  obtain⟨e,J'⟩:=q;simp only[hx]at h';refine zx G _ [] Q J e J' hx ?_;cases e with
  |normal=>exact(hQ J' h').1
  |ret=>exact(hQ J' h').2
  |panic x=>exact hP x J' h'
  |_=>simp only[uA]at h';cases h'
def ay9(G:Fh M){r:R}(h:run M [.at []] J=some r)(hQ:∀J',M.out J'=some r->Q .normal J'/\Q .ret J')(hP:∀x J',M.pT x J'=none):awp M.P M.body Q J:=
 XX G h hQ fun x J' hx=>by rw[hP x J']at hx;cases hx
def amo:Op->Bool
 |.call {callee:=.value _,..}=>false
 |.panic _=>false
 |_=>true
def amq:aMC->Bool
 |.skip=>true
 |.region _ ky _=>ky.toList.all fun o=>amo o.op
 |.seq x y=>amq x&&amq y
 |_=>false
theorem aby{o:Op}(h:amo o=true):nF J o=none:=by
 unfold nF;split
 ·cases h
 ·rfl
theorem as8{o:Op}(h:amo o=true):VV J o=none:=by
 unfold VV;split
 ·cases h
 ·rfl
def XY{M:kR R}{ky:Array aMA}:∀(rest:List aMA)(J:jX)(e:nW)(J':jX),rest.all (fun o=>amo o.op)=true->vq M ky rest J=some (e,J')->e=.normal
 |[],J,e,J',_,h=>by grind [vq]
 |o::rest,J,e,J',hc,h=>by
  rw[List.all_cons,ck]at hc;have ih:=fun J=>XY (M:=M) (ky:=ky) rest J e J' hc.2
  simp only[vq]at h
  grind [aby,as8,mO]
def amr{M:kR R}{ky:Array aMA}:∀(rest:List aMA)(j:Nat)(tr:List Tr)(J:jX)(e:nW)(J':jX),rest.all (fun o=>amo o.op)=true->Kx M ky rest j tr J=some (e,J')->e=.normal
 |[],_,_,J,e,J',_,h=>by grind [Kx]
 |o::rest,j,tr,J,e,J',hc,h=>by
  rw[List.all_cons,ck]at hc;have ih:=fun tr J=>amr (M:=M) (ky:=ky) rest (j+1) tr J e J' hc.2
  grind [Kx,aby,mO]
def ai3{M:kR R}: ∀(c:aMC)(p:List Nat)(J:jX)(e:nW)(J':jX),amq c=true->exec M c p J=some (e,J')->e= .normal
 |.skip,_,_,e,_,_,h=>by grind [exec]
 | .region _ ky false,_,_,e,_,hp,h=>by
   simp only[exec]at h;exact XY _ _ _ _ hp h
 | .region _ ky true,_,_,e,_,hp,h=>by
   simp only[exec]at h;rw[mO]at h;exact amr _ _ _ _ _ _ hp h.2
 | .seq x y,p,J,e,J',hp,h=>by
   simp only[amq,ck]at hp;simp only[exec]at h;cases hx:exec M x (0::p) J with
   |none=>simp only[hx]at h;cases h
   |some r=>
    obtain⟨e1,J1⟩:=r;have:=ai3 x _ _ _ _ hp.1 hx;subst this;simp only[hx]at h;cases hc:M.cut (1::p) J1 with
    |none=>grind
    |some J2=>
     simp only[hc,cw]at h;exact ai3 y _ _ _ _ hp.2 h
 |.cond _ _ _,_,_,_,_,hp,_=>by cases hp
 |.block _ _,_,_,_,_,hp,_=>by cases hp
 |.loop _,_,_,_,_,hp,_=>by cases hp
 |.exit _,_,_,_,_,hp,_=>by cases hp
 |.scope _,_,_,_,_,hp,_=>by cases hp
 |.label _,_,_,_,_,hp,_=>by cases hp
 |.ret,_,_,_,_,hp,_=>by cases hp
 |.goto _,_,_,_,_,hp,_=>by cases hp
 |.rangeFunc _ _ _ _,_,_,_,_,hp,_=>by cases hp
 |.refuse _,_,_,_,_,hp,_=>by cases hp
def ax2{r:R}(G:Fh M)(Md:M.body= .seq lk.assign lk.body)(hp:amq lk.assign=true)(hn:xQ lk.assign=true/\xQ lk.body=true)
 (hH:H[0]? =some (.loop lk kr .ready 0)) (Nb:xB H.length args) (IP:∀x∈H,sj H.length x) (ai4:∀e J,M.nT e J=some r->axY V e J)
 (h:run M [.at [0],.rb,.at [1],.rd] {kr:=V4 kr lk.ps.toList args,heap:=H,low:=H.length}=some r):FnT M.P (abo M.P) args H V:=by
 refine aqu hH Nb IP hn ?_;have h0:sub [0] M.body=lk.assign:=by rw[Md];rfl
 have h1:sub [1] M.body=lk.body:=by rw[Md];rfl
 have h':uA M [.at [0],.rb,.at [1],.rd] .normal {kr:=V4 kr lk.ps.toList args,heap:=H,low:=H.length}=some r:=h;rw[qD (by simp)]at h';simp only[zy,h0]at h';cases hx:exec M lk.assign [0] {kr:=V4 kr lk.ps.toList args,heap:=H,low:=H.length} with
 |none=>simp only[hx]at h';cases h'
 |some q=>
  obtain⟨e,J'⟩:=q;have:=ai3 _ _ _ _ _ hp hx;subst this;simp only[hx]at h';refine zx G _ [0] _ _ .normal J' hx ?_;rw[qD (by simp)]at h';simp only[zy]at h';cases hb:ai1 J' with
  |none=>grind
  |some J2=>
   simp only[hb,dx]at h';unfold ai1 avI at hb;split at hb
   ·rename_i k s hk;simp only[cf]at hb;subst hb;refine⟨k,s,hk,?_⟩;rw[qD (by simp)]at h';simp only[zy,h1]at h';cases hx2:exec M lk.body [1] {J' with heap:=J'.heap.set 0 (.loop k s .busy 0)} with
    |none=>simp only[hx2]at h';cases h'
    |some q=>
     obtain⟨e2,J3⟩:=q;simp only[hx2]at h';refine zx G _ [1] _ _ e2 J3 hx2 ?_;exact ai4 e2 J3 (by cases e2<;>exact h')
   ·cases hb
def aln{fn:Func}{V:AV->Prop}{r:R}(G:Fh M)(hf:M.P.funcs[f]? =some fn)(hb:fn.body=some M.body)(wN:(fn.name != "runtime.NumGoroutine")=true)(Nb:xB 0 args)
 (hn:fn.ntmps=n) (Kg:fn.results=rs.toArray) (ai4:∀J,M.out J=some r->J.df=[]/\ayX V J.heap (Pq M.P J rs))
 (h:run M [.at []] {kr:=args++ct (n-args.length) .any,heap:=[]}=some r) (hP:∀x J',M.pT x J'=none:=by intros;rfl):Ku M.P f args V:=by
 refine asy hf hb wN Nb ?_;rw[Kg,hn];refine ay9 G h (fun J' hs=>?_) hP;have:=ai4 J' hs;exact⟨this,this⟩
end
end Go.Abs
end
