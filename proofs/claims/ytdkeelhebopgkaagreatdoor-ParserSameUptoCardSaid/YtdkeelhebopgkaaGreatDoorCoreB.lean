/- A part of the proof: abstract states and the rules for them. -/
import Derived.Test.YtdkeelhebopgkaaGreatDoorCoreA
import Derived.RangeFuncLeaves
import Derived.Attr
set_option linter.all false
open List renaming getElem?_eq_getElem → b8,getElem?_eq_some_iff → b9,replicate → cq,range_eq_range' → cx,eq_nil_of_length_eq_zero → cz,range → cE,getElem?_append_left → cG,range' → cH,take_left' → cM,drop_left' → cN,mem_cons_self → cO,flatten_cons → cP,mem_of_getElem? → cQ,getElem?_append_right → cR,pairwise_cons → cU,pairwise_lt_range → cV,mem_cons → cX,range'_succ → cY,mem_of_mem_erase → c9,mem_append → da,length_erase_of_mem → dm,length_cons → dn,filter_cons → dr,nodup_cons → dx,getElem?_set_self → dy,tail_drop → dz,set_getElem_self → dA,getElem?_of_mem → dD,getElem?_set_ne → dG,set_comm → dH
open Option.some renaming injEq → cc
open Nat renaming lt_of_lt_of_le → cf,le_refl → cm,not_lt_zero → cw,add_right_cancel_iff → cJ,ne_of_lt → db,zero_le → dK
open Iff renaming rfl → cg
open Bool renaming and_eq_true → cj,false_eq_true → di
open Prod.mk renaming injEq → ck
open Array renaming replicate → cn,toList_push → cC,getElem?_eq_getElem → cD,toList_append → cT,toList_replicate → cW,getElem?_eq_some_iff → dj
open Go.Fence renaming wide → ct
open Option renaming bind_some → cv,bind_eq_some_iff → cK,getD_some → dl,map_some → dw,isSome_some → dJ
open Go.Value.func renaming injEq → cZ
open List.cons renaming injEq → dh
noncomputable section
namespace Go.Abs
variable {r v x:AV}{a:Act}{ops:Array Oper}{ps:Array Tmp}{tmps:Array Value}{b:Bool}{body c:Code}{E E':Env}{F:Fence}{u:FrameMode}{f:FuncId}{rQ:Int}{df:List (FuncId×List AV)}{args args' first s slots xs ys z:List AV}{cs:List Frame}{k:List Item}{p rd:List Nat}{rs:List ResultVar}{tr:List Tr}{H H' nw:List kq}{D N i j l low m n:Nat}{ρ:Nat->Nat}{φ:Nat->Value}{o oi:Oper}{g:Operand}{ro:Option Nat}{d dst:Option Tmp}{P:Program}{pr:Prop}{R α:Type}{t:TypeId}{h:Value}{w:World}{σ σ':jZ}{Q:mM->jZ->Prop}{K V:sO->List kq->Prop}{lk:wy}
def Fa{E:Env}{b:Nat}{c:Array Value}{t:TypeId}{fr:Nat×Nat}(hcb:E.w.heap[b]? =some (.cells c t fr)): ∀(cs:List AV)(off:Nat),(∀o,off<=o->o<off+cs.length-> ¬ E.mu b o)->
 kC E cs ((c.toList.drop off).take cs.length)->(∀u∈(c.toList.drop off).take cs.length,u.oneCell'=true)->ni E b off cs
 |[],_,_,_,_=>trivial
 |x::cs,off,hm,r,h1=>by
  obtain⟨u,us,hu,r1,r2⟩:=r
  have hcu:c[off]? =some u:=by
   have:(c.toList.drop off)[0]? =some u:=by
    have:=congrArg (fun l:List Value=>l[0]?) hu;simpa using this
   simpa using this
  have htl:us=(c.toList.drop (off+1)).take cs.length:=by
   have h1:=congrArg List.tail hu;simp only[List.tail_cons] at h1;rw[<-h1];cases hd:c.toList.drop off with
   |nil=>rw[hd] at hu;simp at hu
   |cons y ys=>
    grind [dz]
  refine⟨⟨hm off (cm _) (by simp),u,by grind [World.cell?],h1 u (by rw[hu];simp),r1⟩,Fa hcb cs (off+1) (fun o h2 h3=>hm o (by omega) (by simp;omega)) (by rw[<-htl];exact r2) (fun v hv=>h1 v (by rw[hu,htl];simp [hv]))⟩
def Ps{E:Env}{b sz:Nat}{c:Array Value}{t:TypeId}{fr:Nat×Nat}(hcb:E.w.heap[b]? =some (.cells c t fr)): ∀(rs:List (List AV))(off:Nat),(∀r∈rs,r.length=sz)->
 (∀o,off<=o->o<off+rs.length*sz-> ¬ E.mu b o)->kC E rs.flatten ((c.toList.drop off).take (rs.length*sz))->(∀u∈(c.toList.drop off).take (rs.length*sz),u.oneCell'=true)->mU E sz b off rs
 |[],_,_,_,_,_=>trivial
 |r::rs,off,hl,hm,h,h1=>by
  have hr:r.length=sz:=hl r (by simp);simp only[cP] at h;have h3:=kC.take r.length h;have h2:=kC.drop r.length h;simp only[cM,cN,List.take_take,List.drop_take,List.drop_drop] at h3 h2
  have e1:min r.length ((r::rs).length*sz)=r.length:=by
   grind [Nat.add_mul]
  have e2:(r::rs).length*sz-r.length=rs.length*sz:=by grind [Nat.add_mul]
  have e3:(r::rs).length*sz=rs.length*sz+sz:=by grind
  rw[e1] at h3;rw[e2,hr] at h2;refine⟨hr,Fa hcb r off (fun o h4 h5=>hm o h4 (by omega)) h3 (fun u hu=>h1 u ?_),Ps hcb rs (off+sz) (fun q hq=>hl q (by simp [hq])) (fun o h4 h5=>hm o (by omega) (by omega)) h2 (fun u hu=>h1 u ?_)⟩
  all_goals grind [List.drop_drop]
def qk(n:Nat):kq->Prop
 | .cells cs=>vK n cs
 | .acc _ _ rows=>MU n rows
 | .map es=> ∀p∈es,p.1.nb n/\p.2.nb n
 | .loop _ slots _ _=>vK n slots
 | .iter _ _=>True
 | .dead=>True
def Sub(x y:AV):Prop:= ∀(E:Env)(v:Value),n8 E x v->n8 E y v
def qv(xs ys:List AV):Prop:= ∀(E:Env)(vs:List Value),kC E xs vs->kC E ys vs
def Q4(xs ys:List (List AV)):Prop:=xs.length=ys.length/\ ∀(E:Env)(sz b off:Nat),mU E sz b off xs->mU E sz b off ys
def abc(xs ys:List AV):Prop:=xs.length=ys.length/\ ∀(E:Env)(b off:Nat),ni E b off xs->ni E b off ys
theorem Sub.refl(x:AV):Sub x x:=fun _ _ h=>h
def Sub.any(x:AV):Sub x .any:=fun _ _ _=>trivial
theorem qv.refl(xs:List AV):qv xs xs:=fun _ _ h=>h
theorem qv.nil:qv [] []:=fun _ _ h=>h
theorem qv.cons{x y:AV}{xs ys:List AV}(h:Sub x y)(hs:qv xs ys):qv (x::xs) (y::ys):=fun E _ ⟨u,us,hv,r1,r2⟩=>⟨u,us,hv,h E u r1,hs E us r2⟩
theorem abc.refl(xs:List AV):abc xs xs:=⟨rfl,fun _ _ _ h=>h⟩
theorem abc.nil:abc [] []:=abc.refl []
theorem abc.cons{x y:AV}{xs ys:List AV}(h:Sub x y)(hs:abc xs ys):abc (x::xs) (y::ys):=
 ⟨by simp [hs.1],fun E b off ⟨⟨hm,u,hu,h1,r⟩,r2⟩=>⟨⟨hm,u,hu,h1,h E u r⟩,hs.2 E b _ r2⟩⟩
theorem Q4.refl(xs:List (List AV)):Q4 xs xs:=⟨rfl,fun _ _ _ _ h=>h⟩
theorem Q4.nil:Q4 [] []:=Q4.refl []
theorem Q4.cons{x y:List AV}{xs ys:List (List AV)}(h:abc x y)(hs:Q4 xs ys):Q4 (x::xs) (y::ys):=
 ⟨by simp [hs.1],fun E sz b off ⟨h1,r,r2⟩=>⟨by rw[<-h.1];exact h1,h.2 E b off r,hs.2 E sz b _ r2⟩⟩
def Sub.agg(h:qv xs ys):Sub (.agg xs) (.agg ys):=fun E _ ⟨vs,hv,r⟩=>⟨vs,hv,h E _ r⟩
def Sub.FI(h:qv xs ys):Sub (.FI xs) (.FI ys):=fun E _ ⟨vs,hv,r⟩=>⟨vs,hv,h E _ r⟩
def Sub.pp(h:abc xs ys):Sub (.pp xs) (.pp ys):=fun E _ ⟨b,off,hv,r⟩=>⟨b,off,hv,h.2 E b off r⟩
def Sub.func{fn:Fn}{f f' c c':List AV}(h:qv f f')(h':qv c c'):Sub (.func fn f c) (.func fn f' c'):=fun E _ ⟨a,b,hv,r1,r2⟩=>⟨a,b,hv,h E _ r1,h' E _ r2⟩
def Sub.mb{t:Bool}{sz:Nat}{xs ys:List (List AV)}(h:Q4 xs ys):Sub (.mb t sz xs) (.mb false sz ys):=fun E v ⟨base,cap,h1,h2,h3,h4,h5,h6⟩=>
 ⟨base,cap,by rw[<-h.1];exact h1,by rw[<-h.1];exact h2,(by intro h;cases h),h4,fun a ha hne=>h5 a ha (fun e=>hne (by have:=h.1;grind)),fun a ha=>h.2 E sz _ _ (h6 a ha)⟩
def Sub.empty(t:Bool)(sz KI:Nat):Sub (.mb t sz []) (.mb false KI []):=fun _ _ ⟨base,cap,h1,h2,_,h4,_,_⟩=>
 ⟨base,cap,h1,h2,(by intro h;cases h),h4,(by intro a _ h;exact absurd rfl h),fun _ _=>trivial⟩
def Co1(H:List kq)(n:Nat)(x y:AV):Prop:=
 (Sub x y/\y.nb n)\/ ∃l m sz rows,x= .acc l m/\H[l]? =some (.acc true sz rows)/\rows.length=m/\Sub (.mb false sz rows) y/\y.nb n
def pE(H:List kq)(n:Nat):List AV->List AV->Prop
 |[],ys=>ys=[]
 |x::xs,ys=> ∃y zs,ys=y::zs/\Co1 H n x y/\pE H n xs zs
def Co(H:List kq)(n:Nat)(x y:AV):Prop:=Co1 H n x y\/ ∃cs ds,x= .agg cs/\y= .agg ds/\pE H n cs ds
def B9(H:List kq)(n:Nat):List AV->List AV->Prop
 |[],ys=>ys=[]
 |x::xs,ys=> ∃y zs,ys=y::zs/\Co H n x y/\B9 H n xs zs
def IT{n:Nat}: ∀{p q:List AV},vK n p->vK n q->vK n (p++q)
 |[],_,_,hq=>hq
 |_::_,_,hp,hq=>⟨hp.1,IT hp.2 hq⟩
def FM{n:Nat}: ∀{rows:List (List AV)},MU n rows->vK n rows.flatten
 |[],_=>trivial
 |_::_,h=>by simp only[cP];exact IT h.1 (FM h.2)
def Fb:List (List AV)->List (List AV)->Prop
 |[],ys=>ys=[]
 |x::xs,ys=> ∃y zs,ys=y::zs/\(x.length=y.length/\qv x y)/\Fb xs zs
theorem Fb.length: ∀{xs ys:List (List AV)},Fb xs ys->ys.length=xs.length
 |[],_,rfl=>rfl
 |_::_,_,⟨_,_,rfl,_,h⟩=>by simp [Fb.length h]
theorem Fb.sz{sz:Nat}: ∀{xs ys:List (List AV)},Fb xs ys->(∀r∈xs,r.length=sz)-> ∀r∈ys,r.length=sz
 |[],_,rfl,_=>by simp
 |x::_,_,⟨y,_,rfl,h1,h⟩,hl=>by
  intro r hr;simp only[cX] at hr;rcases hr with rfl|hr
  ·rw[<-h1.1];exact hl x (by simp)
  ·exact Fb.sz h (fun q hq=>hl q (by simp [hq])) r hr
def Fb.flat: ∀{xs ys:List (List AV)}{vs:List Value},Fb xs ys->kC E xs.flatten vs->kC E ys.flatten vs
 |[],_,_,rfl,r=>r
 |x::xs,_,vs,⟨y,zs,rfl,h1,h⟩,r=>by
  simp only[cP] at r ⊢;have h3:=kC.take x.length r;have h2:=kC.drop x.length r;simp only[cM,cN] at h3 h2;have:=kC.append (h1.2 _ _ h3) (Fb.flat h h2)
  rwa [List.take_append_drop] at this
def LL(H:List kq)(n:Nat)(x y:kq):Prop:=
 y= .dead\/(y=x/\qk n x)\/(∃cs ds,x= .cells cs/\y= .cells ds/\B9 H n cs ds)\/(∃rT sz rows uY,x= .acc rT sz rows/\y= .acc rT sz uY/\Fb rows uY/\MU n uY)\/
  ∃k s s' st rQ,x= .loop k s st rQ/\y= .loop k s' st rQ/\B9 H n s s'
def CoH(H:List kq)(n:Nat):List kq->List kq->Prop
 |_,[]=>True
 |[],_::_=>False
 |x::xs,y::ys=>LL H n x y/\CoH H n xs ys
def amz(n:Nat)(df:List (FuncId×List AV)):Prop:= ∀p∈df,vK n p.2
def U6:amz n []:=fun _ h=>by cases h
def adX(σ σ':jZ):Prop:=((σ'.low=σ.low/\σ.low<=σ'.heap.length)/\σ'.df=σ.df/\amz σ'.heap.length σ.df)/\B9 σ.heap σ'.heap.length σ.slots σ'.slots/\CoH σ.heap σ'.heap.length σ.heap σ'.heap
def CoH.get: ∀{xs ys:List kq}{l:Nat}{y:kq},CoH H n xs ys->ys[l]? =some y-> ∃x,xs[l]? =some x/\LL H n x y
 |_,[],_,_,_,h=>by simp at h
 |[],_::_,_,_,h,_=>h.elim
 |x::_,_::_,0,_,⟨h,_⟩,hy=>by simp at hy;subst hy;exact⟨x,by simp,h⟩
 |_::_,_::_,l+1,_,⟨_,h⟩,hy=>by
  simp at hy;obtain⟨x,hx,hc⟩:=CoH.get h hy;exact⟨x,by simpa using hx,hc⟩
section weak
variable {C:pX}
def B9.No{E E':Env}{H:List kq}{n:Nat}(hone: ∀x y v,Co H n x y->n8 E x v->n8 E' y v): ∀{xs ys:List AV}{vs:List Value},B9 H n xs ys->kC E xs vs->kC E' ys vs
 |[],_,_,rfl,r=>r
 |_::_,_,_,⟨y,zs,rfl,hc,hr⟩,⟨u,us,rfl,r1,r2⟩=>⟨u,us,rfl,hone _ y u hc r1,B9.No hone hr r2⟩
def pE.No{E E':Env}{H:List kq}{n:Nat}(hone: ∀x y v,Co1 H n x y->n8 E x v->n8 E' y v): ∀{xs ys:List AV}{vs:List Value},pE H n xs ys->kC E xs vs->kC E' ys vs
 |[],_,_,rfl,r=>r
 |_::_,_,_,⟨y,zs,rfl,hc,hr⟩,⟨u,us,rfl,r1,r2⟩=>⟨u,us,rfl,hone _ y u hc r1,pE.No hone hr r2⟩
theorem Co.Xr(hone: ∀x y v,Co1 H n x y->n8 E x v->n8 E' y v)(x y:AV)(v:Value)(h:Co H n x y)(r:n8 E x v):n8 E' y v:=by
 rcases h with h|⟨cs,ds,rfl,rfl,h⟩
 ·exact hone x y v h r
 ·obtain⟨vs,hv,rl⟩:=r;exact⟨vs,hv,pE.No hone h rl⟩
def Co.No(S:mo C φ σ a w){n:Nat}{x y:AV}{v:Value}(h:Co σ.heap n x y)(r:n8 (C.env φ σ.heap w) x v):n8 (C.env φ σ.heap w) y v:=by
 refine Co.Xr ?_ x y v h r;intro x y v hc r;rcases hc with⟨hsub,hn⟩|⟨l,m,sz,rows,rfl,hl,hm,hsub,hn⟩
 ·exact hsub _ _ r
 ·have hv:=Je S hl hm r;subst hv;exact hsub _ _ (UZ S hl)
def B9.aCw(S:mo C φ σ a w){vs:List Value}(h:B9 σ.heap n xs ys)(r:kC (C.env φ σ.heap w) xs vs):kC (C.env φ σ.heap w) ys vs:=
 B9.No (fun _ _ _ h r=>Co.No S h r) h r
def adX.sim(h:adX σ σ')(S:mo C φ σ a w):mo C φ σ' a w:=by
 obtain⟨⟨Ez,Ug,hdn⟩,hs,hh⟩:=h;have Kq: ∀(l:Nat)(y:kq),σ'.heap[l]? =some y-> ∃x,σ.heap[l]? =some x/\LL σ.heap σ'.heap.length x y:=fun l y hy=>hh.get hy
 have ab9: ∀{x y:kq}{h:Value}{b o:Nat},LL σ.heap σ'.heap.length x y->y.yy h b o->x.yy h b o:=by
  intro x y h b o hc hm;rcases hc with rfl|⟨rfl,_⟩|⟨cs,ds,rfl,rfl,_⟩|⟨rT,sz,rows,uY,rfl,rfl,_,_⟩|⟨lk,s1,s2,st,rQ,rfl,rfl,_⟩
  ·simp [kq.yy] at hm
  ·exact hm
  ·cases h with
   |pointer p=>cases p<;>exact hm
   |_=>exact hm
  ·cases h with
   |slice p _ _=>cases p<;>exact hm
   |_=>exact hm
  ·cases h with
   |func q _ _=>cases q<;>exact hm
   |_=>exact hm
 have LI: ∀{x y:kq}{h:Value}{b:Nat},LL σ.heap σ'.heap.length x y->y.block h b->x.block h b:=by
  intro x y h b hc hm;rcases hc with rfl|⟨rfl,_⟩|⟨cs,ds,rfl,rfl,_⟩|⟨rT,sz,rows,uY,rfl,rfl,_,_⟩|⟨lk,s1,s2,st,rQ,rfl,rfl,_⟩
  ·simp [kq.block] at hm
  ·exact hm
  ·cases h with
   |pointer p=>cases p<;>exact hm
   |_=>exact hm
  ·cases h with
   |slice p _ _=>cases p<;>exact hm
   |_=>exact hm
  ·cases h with
   |func q _ _=>cases q<;>exact hm
   |_=>exact hm
 have Km: ∀b o,Eh φ σ'.heap b o->Eh φ σ.heap b o:=by
  rintro b o ⟨l,y,hy,hm⟩;obtain⟨x,hx,hc⟩:=Kq l y hy;exact⟨l,x,hx,ab9 hc hm⟩
 have le:(C.env φ σ.heap w).Le σ'.heap.length (C.env φ σ'.heap w):=by
  refine⟨cm _,fun l hl=> .inl ⟨rfl,?_⟩,fun b o u hm hc=>⟨fun h=>hm (h.imp (Km b o) id),hc⟩⟩;obtain⟨x,hx,hc⟩:=Kq l σ'.heap[l] (b8 hl);simp only[pX.env];rw[b8 hl,hx];rcases hc with h|⟨h,_⟩|⟨cs,ds,rfl,h,_⟩|⟨rT,sz,rows,uY,rfl,h,hr,_⟩|⟨lk,s1,s2,st,rQ,rfl,h,_⟩
  ·right;rw[h];rfl
  ·left;rw[h]
  ·left;rw[h];rfl
  ·left;rw[h];simp only[lT,hr.length]
  ·left;rw[h];rfl
 have hone: ∀x y v,Co σ.heap σ'.heap.length x y->n8 (C.env φ σ.heap w) x v->n8 (C.env φ σ'.heap w) y v:=by
  refine Co.Xr ?_;intro x y v hc r;rcases hc with⟨hsub,hn⟩|⟨l,m,sz,rows,rfl,hl,hm,hsub,hn⟩
  ·exact n8.mono le _ _ hn (hsub _ _ r)
  ·have hv:=Je S hl hm r;subst hv;exact n8.mono le _ _ hn (hsub _ _ (UZ S hl))
 have A2:qT C φ σ'.heap w σ'.df a.defers:=by
  rw[Ug]
  exact S.defers.ajm (fun xs vs ⟨f,hf⟩ r=>kC.mono le _ _ (hdn _ hf) r) (fun _ _ _=>rfl) (fun l x b hx hb=>by
   grind)
 refine {slots:=B9.No hone hs S.slots,defers:=A2,nN:= ?_,apart:= ?_,sE:= ?_,size:=S.size,old:=S.old,nj:=S.nj,B8:= ?_,u1:=S.u1,rest:=S.rest,low:=⟨by rw[Ez.1];exact S.low.1,by rw[Ez.1];exact Ez.2⟩,names:= ?_}
 ·intro l y hy;obtain⟨x,hx,hc⟩:=Kq l y hy;have r:=S.nN l x hx;rcases hc with rfl|⟨rfl,hn⟩|⟨cs,ds,rfl,rfl,hcl⟩|⟨rT,sz,rows,uY,rfl,rfl,hr,hn⟩|⟨lk,s1,s2,st,rQ,rfl,rfl,hcl⟩
  ·exact trivial
  ·cases y with
   |cells cs=>
    obtain⟨b,c,t,h1,h2,rl,h3⟩:=r;exact⟨b,c,t,h1,h2,kC.mono le _ _ hn rl,h3⟩
   |acc rT sz rows=>
    obtain⟨base,cap,h1,h2,h3,h4,h5⟩:=r;refine⟨base,cap,h1,h2,h3,h4,fun a0 ha hc=> ?_⟩;obtain⟨h6,c,t,h7,h8,rl,h9⟩:=h5 a0 ha hc
    exact⟨h6,c,t,h7,h8,kC.mono le _ _ (by
     clear rl h9 h8 h7 h6 hc ha h5 h4 h3 h2 h1;revert hn;simp only[qk];clear hy hx;induction rows with
     |nil=>intro _;trivial
     |cons r rs ih=>
      intro hn;simp only[cP]
      have: ∀(p q:List AV),vK σ'.heap.length p->vK σ'.heap.length q->vK σ'.heap.length (p++q):=by
       intro p q hp hq;induction p with
       |nil=>exact hq
       |cons z p ihp=>exact⟨hp.1,ihp hp.2⟩
      exact this r _ hn.1 (ih hn.2)) rl,h9⟩
   |map es=>
    obtain⟨r',en,cl,h1,h2,rp⟩:=r;exact⟨r',en,cl,h1,h2,qC.mono le hn rp⟩
   |loop lk s1 st rQ=>
    obtain⟨D,rec,h1,h2,h3,h4,rl⟩:=r;exact⟨D,rec,h1,h2,h3,h4,kC.mono le _ _ hn rl⟩
   |iter s p=>exact r
   |dead=>trivial
  ·obtain⟨b,c,t,h1,h2,rl,h3⟩:=r;exact⟨b,c,t,h1,h2,B9.No hone hcl rl,h3⟩
  ·obtain⟨base,cap,h1,h2,h3,h4,h5⟩:=r;have hlen:=hr.length;refine⟨base,cap,by rw[hlen];exact h1,by rw[hlen];exact h2,h3,hr.sz h4,fun a0 ha hc=> ?_⟩;obtain⟨h6,c,t,h7,h8,rl,h9⟩:=h5 a0 ha hc;rw[hlen];exact⟨h6,c,t,h7,h8,kC.mono le _ _ (FM hn) (hr.flat rl),h9⟩
  ·obtain⟨D,rec,h1,h2,h3,h4,rl⟩:=r;exact⟨D,rec,h1,h2,h3,h4,B9.No hone hcl rl⟩
 ·intro l l' x x' b hx hx' hb hb';obtain⟨y,hy,hc⟩:=Kq l x hx;obtain⟨y',hy',hc'⟩:=Kq l' x' hx';exact S.apart l l' y y' b hy hy' (LI hc hb) (LI hc' hb')
 ·intro l x b o hx hb;obtain⟨y,hy,hc⟩:=Kq l x hx;exact S.sE l y b o hy (LI hc hb)
 ·intro l x b o hx hm hb;obtain⟨y,hy,hc⟩:=Kq l x hx;exact S.B8 l y b o hy (ab9 hc hm) hb
 ·intro l hl;have hlt:l<σ'.heap.length:=by have:=S.low;omega
  obtain⟨x,hx,hc⟩:=Kq l σ'.heap[l] (b8 hlt);have hn:=S.names l hl;rw[hx] at hn;rw[b8 hlt]
  have aoO:lT (some σ'.heap[l])=lT (some x)\/lT (some σ'.heap[l])=none:=by
   rcases hc with h|⟨h,_⟩|⟨cs,ds,rfl,h,_⟩|⟨rT,sz,rows,uY,rfl,h,hr,_⟩|⟨lk,s1,s2,st,rQ,rfl,h,_⟩
   ·right;rw[h];rfl
   ·left;rw[h]
   ·left;rw[h];rfl
   ·left;rw[h];simp only[lT,hr.length]
   ·left;rw[h];rfl
  grind
def adX.imp(h:adX σ σ'):GF σ σ':=fun _ φ _ _ S=>⟨φ,h.sim S⟩
def arX {s sz:Nat}{rT:Bool}(h:σ.slots[i]? =some (.mb true s [])):GF σ {σ with slots:=σ.slots.set i (.acc σ.heap.length 0),heap:=σ.heap++[.acc rT sz []]}:=by
 intro C φ a w S;obtain⟨v,hv,base,cap,rfl,_,hc,_⟩:=S.slots.get h;have hcap:cap=0:=hc rfl;subst hcap
 have S':=S.Q2 (rT:=rT) (sz:=sz) (rows:=[]) (w':=w) (h':= .slice base 0 0) (cm _) (fun _ _=>rfl) (fun _=>rfl) ⟨rfl,rfl⟩ (by
  intro b hb;cases base<;>simp [kq.block] at hb) (fun E' _ _=>⟨base,0,rfl,cm _,fun _=>rfl,by simp,fun b _ h0=>absurd rfl h0⟩)
 refine⟨(fun k=>if k=σ.heap.length then .slice base 0 0 else φ k),?_⟩
 have:=S'.put (some i) (x:= .acc σ.heap.length 0) (v:= .slice base 0 0) ⟨by simp [pX.env],⟨_,_,_,rfl⟩,fun k hk=>by
  grind [pX.env]⟩
 refine {this with slots:= ?_,defers:=this.defers};have hs:=this.slots
 have ha:(a.put (some i) (.slice base 0 0)).tmps.toList=a.tmps.toList:=by
  simp only[Act.put,Array.toList_setIfInBounds];apply List.ext_getElem?
  grind
 rw[ha] at hs;exact hs
end weak
mutual
def frz(low:Nat)(H:List kq):AV->AV
 | .acc l n=>if l<low then .acc l n else match H[l]? with
   |some (.acc _ sz rows)=>if rows.length=n then .mb false sz rows else .any
   |_=> .any
 | .own l i n o sz=>if l<low then .own l i n o sz else .any
 | .agg cs=> .agg (afL low H cs)
 | .FI cs=> .FI (afL low H cs)
 | .any=> .any
 | .bool b=> .bool b
 | .int k n=> .int k n
 | .str s=> .str s
 | .raw v=> .raw v
 | .mb t sz rows=> .mb t sz rows
 | .ptr l off=> .ptr l off
 | .map l=> .map l
 | .pp cs=> .pp cs
 | .func fn f c=> .func fn f c
 | .iface t x=> .iface t x
def afL(low:Nat)(H:List kq):List AV->List AV
 |[]=>[]
 |x::xs=>frz low H x::afL low H xs
end
section res
variable {C:pX}
def ajH(_S:mo C φ σ a w):(C.env φ σ.heap w).Le 0 (C.env φ [] w):=by
 refine⟨dK _,fun l hl=>absurd hl (cw _),fun b o u hm hc=>⟨?_,hc⟩⟩;simp only[pX.env] at hm ⊢;rintro(⟨l,x,hx,_⟩|h)
 all_goals grind
structure arY(C:pX)(φ:Nat->Value)(σ:jZ)(w:World)(E':Env):Prop where
 le:(C.env φ σ.heap w).Le σ.low E'
 w:E'.w=w
 free: ∀(l:Nat)(x:kq)(b o:Nat),σ.low<=l->σ.heap[l]? =some x->x.block (φ l) b-> ¬ E'.mu b o
def mo.axQ(S:mo C φ σ a w)(h0:σ.low=0):arY C φ σ w (C.env φ [] w):=by
 refine⟨by rw[h0];exact ajH S,rfl,fun l x b o _ hx hb=> ?_⟩;simp only[pX.env];rintro(⟨l',y,hy,_⟩|hA)
 ·simp at hy
 ·exact S.sE l x b o hx hb hA
mutual
def abd(S:mo C φ σ a w){E':Env}(D:arY C φ σ w E'):
 ∀(x:AV)(v:Value),(frz σ.low σ.heap x).nb σ.low->n8 (C.env φ σ.heap w) x v->n8 E' (frz σ.low σ.heap x) v
 | .acc l n,v,hn,r=>by
   simp only[frz] at hn ⊢;by_cases Ez:l<σ.low
   ·rw[if_pos Ez];exact n8.mono D.le (.acc l n) v Ez r
   ·rw[if_neg Ez] at hn ⊢;split
    ·rename_i rT sz rows hl;simp only[hl] at hn;split
     ·rename_i hlen;rw[if_pos hlen] at hn;have hv:=Je S hl hlen r;subst hv;obtain⟨base,cap,hh,h2,h3,h4,h5⟩:=S.nN l _ hl;refine⟨base,cap,hh,h2,(by intro h;cases h),h3,?_,?_⟩
      ·intro b hb hne;exact(h5 b hb (fun h0=>hne (cz (by omega)))).1
      ·intro b hb;by_cases hc:cap=0
       ·have:rows=[]:=cz (by omega);subst this;trivial
       ·obtain⟨hsp,c,t,hcb,hsz,rl,h1⟩:=h5 b hb hc;subst hb;refine Ps (E:=E') (c:=c) (t:=t) (fr:=(0,0)) (by rw[D.w];exact hcb) rows b.off h4 ?_ (kC.mono D.le _ _ (FM hn) rl) h1;intro o _ _;exact D.free l _ b.block o (by omega) hl (by rw[hh];exact⟨rfl,hc⟩)
     ·exact trivial
    ·exact trivial
 | .own l i n o sz,v,hn,r=>by
   simp only[frz] at hn ⊢;by_cases Ez:l<σ.low
   ·rw[if_pos Ez];exact n8.mono D.le (.own l i n o sz) v Ez r
   ·rw[if_neg Ez];exact trivial
 | .agg cs,v,hn,⟨vs,hv,rl⟩=>⟨vs,hv,YW S D cs _ hn rl⟩
 | .FI cs,v,hn,⟨vs,hv,rl⟩=>⟨vs,hv,YW S D cs _ hn rl⟩
 | .any,_,_,_=>trivial
 | .bool _,_,_,r=>r
 | .int _ _,_,_,r=>r
 | .str _,_,_,r=>r
 | .raw _,_,_,r=>r
 | .mb t sz rows,_,hn,r=>n8.mono D.le (.mb t sz rows) _ hn r
 | .ptr l off,_,hn,r=>n8.mono D.le (.ptr l off) _ hn r
 | .map l,_,hn,r=>n8.mono D.le (.map l) _ hn r
 | .pp cs,_,hn,r=>n8.mono D.le (.pp cs) _ hn r
 | .func fn f c,_,hn,r=>n8.mono D.le (.func fn f c) _ hn r
 | .iface t x,_,hn,r=>n8.mono D.le (.iface t x) _ hn r
def YW(S:mo C φ σ a w){E':Env}(D:arY C φ σ w E'):
 ∀(xs:List AV)(vs:List Value),vK σ.low (afL σ.low σ.heap xs)->kC (C.env φ σ.heap w) xs vs->kC E' (afL σ.low σ.heap xs) vs
 |[],_,_,r=>r
 |x::xs,_,hn,⟨u,us,hv,r1,r2⟩=>⟨u,us,hv,abd S D x u hn.1 r1,YW S D xs us hn.2 r2⟩
end
mutual
theorem ap0(low:Nat)(H:List kq): ∀x:AV,x.nb 0->frz low H x=x
 | .acc _ _,h=>absurd h (cw _)
 | .own _ _ _ _ _,h=>absurd h (cw _)
 | .agg cs,h=>by rw[frz,LM low H cs h]
 | .FI cs,h=>by rw[frz,LM low H cs h]
 | .any,_| .bool _,_| .int _ _,_| .str _,_| .raw _,_| .mb _ _ _,_| .ptr _ _,_| .map _,_| .pp _,_| .func _ _ _,_| .iface _ _,_=>by rw[frz]
theorem LM(low:Nat)(H:List kq): ∀xs:List AV,vK 0 xs->afL low H xs=xs
 |[],_=>rfl
 |x::xs,h=>by rw[afL,ap0 low H x h.1,LM low H xs h.2]
end
end res
mutual
def AV.pe(ρ:Nat->Nat):AV->AV
 | .agg cs=> .agg (qQ ρ cs)
 | .FI cs=> .FI (qQ ρ cs)
 | .pp cs=> .pp (qQ ρ cs)
 | .mb t sz rows=> .mb t sz (DI ρ rows)
 | .acc l n=> .acc (ρ l) n
 | .own l off len cap sz=> .own (ρ l) off len cap sz
 | .ptr l off=> .ptr (ρ l) off
 | .map l=> .map (ρ l)
 | .func fn f c=> .func fn (qQ ρ f) (qQ ρ c)
 | .iface t x=> .iface t (x.pe ρ)
 | .any=> .any
 | .bool b=> .bool b
 | .int k n=> .int k n
 | .str s=> .str s
 | .raw v=> .raw v
def qQ(ρ:Nat->Nat):List AV->List AV
 |[]=>[]
 |c::cs=>c.pe ρ::qQ ρ cs
def DI(ρ:Nat->Nat):List (List AV)->List (List AV)
 |[]=>[]
 |r::rs=>qQ ρ r::DI ρ rs
end
theorem Jx(ρ:Nat->Nat): ∀cs:List AV,(qQ ρ cs).length=cs.length
 |[]=>rfl
 |_::cs=>by simp [qQ,Jx ρ cs]
theorem sP(ρ:Nat->Nat): ∀cs:List (List AV),(DI ρ cs).length=cs.length
 |[]=>rfl
 |_::cs=>by simp [DI,sP ρ cs]
theorem U7(ρ:Nat->Nat): ∀a b:List AV,qQ ρ (a++b)=qQ ρ a++qQ ρ b
 |[],_=>rfl
 |_::a,b=>by simp [qQ,U7 ρ a b]
theorem Q5(ρ:Nat->Nat): ∀rs:List (List AV),(DI ρ rs).flatten=qQ ρ rs.flatten
 |[]=>rfl
 |r::rs=>by simp [DI,U7,Q5 ρ rs]
mutual
theorem IU(ρ:Nat->Nat): ∀x:AV,x.nb 0->x.pe ρ=x
 | .acc _ _,h=>absurd h (cw _)
 | .own _ _ _ _ _,h=>absurd h (cw _)
 | .ptr _ _,h=>absurd h (cw _)
 | .map _,h=>absurd h (cw _)
 | .agg cs,h=>by rw[AV.pe,rR ρ cs h]
 | .FI cs,h=>by rw[AV.pe,rR ρ cs h]
 | .pp cs,h=>by rw[AV.pe,rR ρ cs h]
 | .mb _ _ rows,h=>by rw[AV.pe,uQ ρ rows h]
 | .func _ f c,h=>by rw[AV.pe,rR ρ f h.1,rR ρ c h.2]
 | .iface _ x,h=>by rw[AV.pe,IU ρ x h]
 | .any,_| .bool _,_| .int _ _,_| .str _,_| .raw _,_=>by rw[AV.pe]
theorem rR(ρ:Nat->Nat): ∀xs:List AV,vK 0 xs->qQ ρ xs=xs
 |[],_=>rfl
 |x::xs,h=>by rw[qQ,IU ρ x h.1,rR ρ xs h.2]
theorem uQ(ρ:Nat->Nat): ∀xs:List (List AV),MU 0 xs->DI ρ xs=xs
 |[],_=>rfl
 |x::xs,h=>by rw[DI,rR ρ x h.1,uQ ρ xs h.2]
end
def kq.pe(ρ:Nat->Nat):kq->kq
 | .cells cs=> .cells (qQ ρ cs)
 | .acc rT sz rows=> .acc rT sz (DI ρ rows)
 | .map es=> .map (es.map fun p=>(p.1.pe ρ,p.2.pe ρ))
 | .loop k slots st rQ=> .loop k (qQ ρ slots) st rQ
 | .iter s p=> .iter s p
 | .dead=> .dead
def sO.pe(ρ:Nat->Nat):sO->sO
 | .ret r=> .ret (r.pe ρ)
 | .panic x=> .panic (x.pe ρ)
structure ZX(N:Nat)(ρ:Nat->Nat)(E E':Env):Prop where
 n: ∀l,l<N->ρ l<E'.n
 names: ∀l,l<N->E'.φ (ρ l)=E.φ l/\(E'.ln (ρ l)=E.ln l\/E'.ln (ρ l)=none)
 mem: ∀b o u,¬ E.mu b o->E.w.cell? ⟨b,o,none⟩=some u-> ¬ E'.mu b o/\E'.w.cell? ⟨b,o,none⟩=some u
section

mutual
theorem n8.pe(h:ZX N ρ E E'): ∀(x:AV)(v:Value),x.nb N->n8 E x v->n8 E' (x.pe ρ) v
 | .any,_,_,_=>trivial
 | .bool _,_,_,r=>r
 | .int _ _,_,_,r=>r
 | .str _,_,_,r=>r
 | .raw _,_,_,r=>r
 | .agg cs,_,hb,⟨vs,hv,hr⟩=>⟨vs,hv,kC.pe h cs _ hb hr⟩
 | .FI cs,_,hb,⟨vs,hv,hr⟩=>⟨vs,hv,kC.pe h cs _ hb hr⟩
 | .mb t sz rows,_,hb,⟨base,cap,h1,h2,h3,h4,h5,h6⟩=>
   ⟨base,cap,by rw[sP];exact h1,by rw[sP];exact h2,fun e=>by rw[sP];exact h3 e,h4,fun a ha hne=>h5 a ha (fun e=>hne (by rw[e];rfl)),fun a ha=>mU.pe h rows _ hb (h6 a ha)⟩
 | .acc l n,v,hb,⟨_,ZH,r⟩=>⟨h.n l hb,ZH,fun k hk=>by
     rcases (h.names l hb).2 with e|e
     ·rw[e] at hk;rw[(h.names l hb).1];exact r k hk
     ·rw[e] at hk;cases hk⟩
 | .own l i n o sz,v,hb,⟨_,ZH,r⟩=>⟨h.n l hb,ZH,fun k hk=>by
     rcases (h.names l hb).2 with e|e
     ·rw[e] at hk;rw[(h.names l hb).1];exact r k hk
     ·rw[e] at hk;cases hk⟩
 | .ptr l off,v,hb,⟨_,b,hφ,hv⟩=>⟨h.n l hb,b,by rw[(h.names l hb).1];exact hφ,hv⟩
 | .map l,v,hb,⟨_,hv,r,hφ⟩=>⟨h.n l hb,by rw[(h.names l hb).1];exact hv,r,by rw[(h.names l hb).1];exact hφ⟩
 | .pp cs,_,hb,⟨b,off,hv,r⟩=>⟨b,off,hv,ni.pe h cs _ hb r⟩
 | .func _ f c,_,hb,⟨f',c',hv,r1,r2⟩=>⟨f',c',hv,kC.pe h f _ hb.1 r1,kC.pe h c _ hb.2 r2⟩
 | .iface _ x,_,hb,⟨u,hv,r⟩=>⟨u,hv,n8.pe h x _ hb r⟩
theorem kC.pe(h:ZX N ρ E E'): ∀(cs:List AV)(vs:List Value),vK N cs->kC E cs vs->kC E' (qQ ρ cs) vs
 |[],_,_,r=>r
 |c::cs,_,hb,⟨u,us,hv,r1,r2⟩=>⟨u,us,hv,n8.pe h c _ hb.1 r1,kC.pe h cs _ hb.2 r2⟩
theorem ni.pe(h:ZX N ρ E E'){b:Nat}: ∀(cs:List AV)(off:Nat),vK N cs->ni E b off cs->ni E' b off (qQ ρ cs)
 |[],_,_,_=>trivial
 |c::cs,off,hb,⟨⟨hm,u,hu,h1,r1⟩,r2⟩=>
  let ⟨m,c'⟩:=h.mem b off u hm hu
  ⟨⟨m,u,c',h1,n8.pe h c _ hb.1 r1⟩,ni.pe h cs _ hb.2 r2⟩
theorem mU.pe(h:ZX N ρ E E'){sz b:Nat}: ∀(rs:List (List AV))(off:Nat),MU N rs->mU E sz b off rs->mU E' sz b off (DI ρ rs)
 |[],_,_,_=>trivial
 |r::rs,off,hb,⟨hl,r1,r2⟩=>⟨by rw[Jx];exact hl,ni.pe h r _ hb.1 r1,mU.pe h rs _ hb.2 r2⟩
end
structure ajI(N:Nat)(ρ:Nat->Nat)(E' E:Env):Prop where
 n:N<=E.n
 names: ∀l,l<N->E.φ l=E'.φ (ρ l)/\E.ln l=E'.ln (ρ l)
 mem: ∀b o u,¬ E'.mu b o->E'.w.cell? ⟨b,o,none⟩=some u-> ¬ E.mu b o/\E.w.cell? ⟨b,o,none⟩=some u
mutual
def n8.AT(h:ajI N ρ E' E): ∀(x:AV)(v:Value),x.nb N->n8 E' (x.pe ρ) v->n8 E x v
 | .any,_,_,_=>trivial
 | .bool _,_,_,r=>r
 | .int _ _,_,_,r=>r
 | .str _,_,_,r=>r
 | .raw _,_,_,r=>r
 | .agg cs,_,hb,⟨vs,hv,hr⟩=>⟨vs,hv,kC.AT h cs _ hb hr⟩
 | .FI cs,_,hb,⟨vs,hv,hr⟩=>⟨vs,hv,kC.AT h cs _ hb hr⟩
 | .mb t sz rows,_,hb,⟨base,cap,h1,h2,h3,h4,h5,h6⟩=>by
   rw[sP] at h1 h2 h3;refine⟨base,cap,h1,h2,h3,h4,fun a ha hne=>h5 a ha (fun e=>hne ?_),fun a ha=>mU.AT h rows _ hb (h6 a ha)⟩;have:=congrArg List.length e;rw[sP] at this;exact cz this
 | .acc l n,v,hb,⟨_,ZH,r⟩=>⟨cf hb h.n,ZH,fun k hk=>by rw[(h.names l hb).2] at hk;rw[(h.names l hb).1];exact r k hk⟩
 | .own l i n o sz,v,hb,⟨_,ZH,r⟩=>⟨cf hb h.n,ZH,fun k hk=>by rw[(h.names l hb).2] at hk;rw[(h.names l hb).1];exact r k hk⟩
 | .ptr l off,v,hb,⟨_,b,hφ,hv⟩=>⟨cf hb h.n,b,by rw[(h.names l hb).1];exact hφ,hv⟩
 | .map l,v,hb,⟨_,hv,r,hφ⟩=>⟨cf hb h.n,by rw[(h.names l hb).1];exact hv,r,by rw[(h.names l hb).1];exact hφ⟩
 | .pp cs,_,hb,⟨b,off,hv,r⟩=>⟨b,off,hv,ni.AT h cs _ hb r⟩
 | .func _ f c,_,hb,⟨f',c',hv,r1,r2⟩=>⟨f',c',hv,kC.AT h f _ hb.1 r1,kC.AT h c _ hb.2 r2⟩
 | .iface _ x,_,hb,⟨u,hv,r⟩=>⟨u,hv,n8.AT h x _ hb r⟩
def kC.AT(h:ajI N ρ E' E): ∀(cs:List AV)(vs:List Value),vK N cs->kC E' (qQ ρ cs) vs->kC E cs vs
 |[],_,_,r=>r
 |c::cs,_,hb,⟨u,us,hv,r1,r2⟩=>⟨u,us,hv,n8.AT h c _ hb.1 r1,kC.AT h cs _ hb.2 r2⟩
def ni.AT(h:ajI N ρ E' E){b:Nat}: ∀(cs:List AV)(off:Nat),vK N cs->ni E' b off (qQ ρ cs)->ni E b off cs
 |[],_,_,_=>trivial
 |c::cs,off,hb,⟨⟨hm,u,hu,h1,r1⟩,r2⟩=>
  let ⟨m,c'⟩:=h.mem b off u hm hu
  ⟨⟨m,u,c',h1,n8.AT h c _ hb.1 r1⟩,ni.AT h cs _ hb.2 r2⟩
def mU.AT(h:ajI N ρ E' E){sz b:Nat}: ∀(rs:List (List AV))(off:Nat),MU N rs->mU E' sz b off (DI ρ rs)->mU E sz b off rs
 |[],_,_,_=>trivial
 |r::rs,off,hb,⟨hl,r1,r2⟩=>⟨by rw[Jx] at hl;exact hl,ni.AT h r _ hb.1 r1,mU.AT h rs _ hb.2 r2⟩
end
end
def ajJ{E E':Env}{N:Nat}{ρ:Nat->Nat}(h:ZX N ρ E E'): ∀{es:List (AV×AV)}{xs:List MapEntry},(∀p∈es,p.1.nb N/\p.2.nb N)->qC E es xs->qC E' (es.map fun p=>(p.1.pe ρ,p.2.pe ρ)) xs
 |[],_,_,r=>r
 |(k,v)::_,_,hb,⟨e,s,he,r1,r2,r3⟩=>
  ⟨e,s,he,n8.pe h k _ (hb (k,v) (by simp)).1 r1,n8.pe h v _ (hb (k,v) (by simp)).2 r2,ajJ h (fun p hp=>hb p (by simp [hp])) r3⟩
def adY{E E':Env}{N:Nat}{ρ:Nat->Nat}(h:ajI N ρ E' E): ∀{es:List (AV×AV)}{xs:List MapEntry},(∀p∈es,p.1.nb N/\p.2.nb N)->qC E' (es.map fun p=>(p.1.pe ρ,p.2.pe ρ)) xs->qC E es xs
 |[],_,_,r=>r
 |(k,v)::_,_,hb,⟨e,s,he,r1,r2,r3⟩=>
  ⟨e,s,he,n8.AT h k _ (hb (k,v) (by simp)).1 r1,n8.AT h v _ (hb (k,v) (by simp)).2 r2,adY h (fun p hp=>hb p (by simp [hp])) r3⟩
theorem nG.pe(h:ZX N ρ E E'){x:kq}{hd:Value}(hb:qk N x)(hw: ∀b,x.block hd b->E'.w.heap[b]? =E.w.heap[b]?)(r:nG E x hd):nG E' (x.pe ρ) hd:=by
 cases x with
 |cells cs=>
  obtain⟨b,c,t,rfl,h2,rl,h3⟩:=r;exact⟨b,c,t,rfl,by rw[hw b rfl];exact h2,kC.pe h _ _ hb rl,h3⟩
 |acc rT sz rows=>
  obtain⟨base,cap,rfl,h2,h3,h4,h5⟩:=r;refine⟨base,cap,by rw[sP],by rw[sP];exact h2,h3,?_,fun a0 ha hc=> ?_⟩
  ·have key: ∀rs:List (List AV),(∀r∈rs,r.length=sz)-> ∀r∈DI ρ rs,r.length=sz:=by
    intro rs;induction rs with
    |nil=>intro _ r hr;simp [DI] at hr
    |cons q rs ih=>
     grind [DI,Jx]
   exact key rows h4
  ·obtain⟨h6,c,t,h7,h8,rl,h9⟩:=h5 a0 ha hc;subst ha;rw[sP,Q5];exact⟨h6,c,t,by rw[hw _ ⟨rfl,hc⟩];exact h7,h8,kC.pe h _ _ (FM hb) rl,h9⟩
 |map es=>
  obtain⟨r',en,cl,rfl,h2,rp⟩:=r;exact⟨r',en,cl,rfl,by rw[hw r' rfl];exact h2,ajJ h hb rp⟩
 |loop k slots st rQ=>
  obtain⟨D,rec,rfl,h1,h2,h3,rl⟩:=r;exact⟨D,rec,rfl,by rw[hw (D+1) (.inl rfl)];exact h1,by rw[hw D (.inr rfl)];exact h2,h3,kC.pe h _ _ hb rl⟩
 |iter s p=>
  obtain⟨b,rfl,h2⟩:=r;exact⟨b,rfl,by rw[hw b rfl];exact h2⟩
 |dead=>trivial
def nG.AT(h:ajI N ρ E' E){x:kq}{hd:Value}(hb:qk N x)(hw: ∀b,(x.pe ρ).block hd b->E.w.heap[b]? =E'.w.heap[b]?)(r:nG E' (x.pe ρ) hd):nG E x hd:=by
 cases x with
 |cells cs=>
  obtain⟨b,c,t,rfl,h2,rl,h3⟩:=r;exact⟨b,c,t,rfl,by rw[hw b rfl];exact h2,kC.AT h _ _ hb rl,h3⟩
 |acc rT sz rows=>
  obtain⟨base,cap,rfl,h2,h3,h4,h5⟩:=r;rw[sP] at h2 hw;refine⟨base,cap,by rw[sP],h2,h3,?_,fun a0 ha hc=> ?_⟩
  ·have key: ∀rs:List (List AV),(∀r∈DI ρ rs,r.length=sz)-> ∀r∈rs,r.length=sz:=by
    intro rs;induction rs with
    |nil=>intro _ r hr;simp at hr
    |cons q rs ih=>
     grind [DI,Jx]
   exact key rows h4
  ·obtain⟨h6,c,t,h7,h8,rl,h9⟩:=h5 a0 ha hc;subst ha;rw[sP] at rl h9;rw[Q5] at rl;exact⟨h6,c,t,by rw[hw _ ⟨rfl,hc⟩];exact h7,h8,kC.AT h _ _ (FM hb) rl,h9⟩
 |map es=>
  obtain⟨r',en,cl,rfl,h2,rp⟩:=r;exact⟨r',en,cl,rfl,by rw[hw r' rfl];exact h2,adY h hb rp⟩
 |loop k slots st rQ=>
  obtain⟨D,rec,rfl,h1,h2,h3,rl⟩:=r;exact⟨D,rec,rfl,by rw[hw (D+1) (.inl rfl)];exact h1,by rw[hw D (.inr rfl)];exact h2,h3,kC.AT h _ _ hb rl⟩
 |iter s p=>
  obtain⟨b,rfl,h2⟩:=r;exact⟨b,rfl,by rw[hw b rfl];exact h2⟩
 |dead=>trivial
def Pt{x:kq}{b o:Nat}:(x.pe ρ).yy h b o↔x.yy h b o:=by
 cases x with
 |cells cs=>cases h with
  |pointer p=>cases p<;>exact cg
  |_=>exact cg
 |acc rT sz rows=>cases h with
  |slice p n c=>cases p<;>exact cg
  |_=>exact cg
 |map es=>cases h with
  |map p=>cases p<;>exact cg
  |_=>exact cg
 |loop k slots st rQ=>cases h with
  |func q _ _=>cases q<;>exact cg
  |_=>exact cg
 |iter s p=>cases h with
  |pointer p=>cases p<;>exact cg
  |_=>exact cg
 |dead=>exact cg
def Ah{x:kq}{b:Nat}:(x.pe ρ).block h b↔x.block h b:=by
 cases x with
 |cells cs=>cases h with
  |pointer p=>cases p<;>exact cg
  |_=>exact cg
 |acc rT sz rows=>cases h with
  |slice p n c=>cases p<;>exact cg
  |_=>exact cg
 |map es=>cases h with
  |map p=>cases p<;>exact cg
  |_=>exact cg
 |loop k slots st rQ=>cases h with
  |func q _ _=>cases q<;>exact cg
  |_=>exact cg
 |iter s p=>cases h with
  |pointer p=>cases p<;>exact cg
  |_=>exact cg
 |dead=>exact cg
theorem CM{x:kq}:lT (some (x.pe ρ))=lT (some x):=by
 cases x<;>simp [lT,kq.pe,sP]
def Oh{x:kq}{b:Nat}(hb:x.block h b): ∃o,x.yy h b o:=by
 cases x with
 |cells cs=>
  cases h with
  |pointer p=>cases p with
   |none=>exact absurd hb id
   |some a=>exact⟨0,hb⟩
  |_=>exact absurd hb id
 |acc rT sz rows=>
  cases h with
  |slice base n cap=>cases base with
   |none=>exact absurd hb id
   |some a=>exact⟨a.off+n*sz,hb,fun _=>cm _⟩
  |_=>exact absurd hb id
 |map es=>
  cases h with
  |map r=>cases r with
   |none=>exact absurd hb id
   |some a=>exact⟨0,hb⟩
  |_=>exact absurd hb id
 |loop k slots st rQ=>
  cases h with
  |func q _ _=>cases q with
   |yield r=>exact⟨0,hb⟩
   |_=>exact absurd hb id
  |_=>exact absurd hb id
 |iter s p=>
  cases h with
  |pointer p=>cases p with
   |none=>exact absurd hb id
   |some a=>exact⟨0,hb⟩
  |_=>exact absurd hb id
 |dead=>exact absurd hb id
def arZ{op:Op}{e:ux}(hq:quiet op=true)(h:k7 P σ op=some e):e.nw=[]:=by
 cases op with
 |move x=>cases h;rfl
 |assign x=>cases h;rfl
 |pick c x y=>simp only[k7] at h;split at h<;>cases h;rfl
 |unOp op t x=>simp only[k7] at h;split at h<;>cases h<;>rfl
 |fieldAddr t x i=>simp only[k7] at h;split at h<;>cases h<;>rfl
 |extract x i=>
  simp only[k7] at h
  grind
 |binOp op t x y u=>
  simp only[k7] at h;split at h
  ·cases h;rfl
  ·unfold agJ YU at h;split at h
   ·grind
   unfold aa6 at h
   grind
 |load t x=>
  simp only[k7] at h;split at h
  ·split at h
   ·split at h
    ·unfold ldV at h
     grind
    ·cases h
   ·cases h
  ·split at h<;>cases h;rfl
  ·grind
  ·unfold adL at h
   grind [cK]
  ·cases h
 |store t x y=>
  simp only[k7] at h
  grind
 |field t x i=>
  simp only[k7] at h
  grind
 |index t x i=>
  simp only[k7] at h
  grind
 |indexAddr t x i=>
  simp only[k7] at h
  grind [cK]
 |_=>simp [quiet] at hq
def ar0{op:Op}{e:ux}(hq:quiet op=true)(h:k7 P σ op=some e):e.whole=false:=by
 cases op with
 |move x=>cases h;rfl
 |assign x=>cases h;rfl
 |pick c x y=>simp only[k7] at h;split at h<;>cases h;rfl
 |unOp op t x=>simp only[k7] at h;split at h<;>cases h<;>rfl
 |fieldAddr t x i=>simp only[k7] at h;split at h<;>cases h<;>rfl
 |extract x i=>
  simp only[k7] at h
  grind
 |binOp op t x y u=>
  simp only[k7] at h;split at h
  ·cases h;rfl
  ·unfold agJ YU at h;split at h
   ·grind
   unfold aa6 at h
   grind
 |load t x=>
  simp only[k7] at h;split at h
  ·split at h
   ·split at h
    ·unfold ldV at h
     grind
    ·cases h
   ·cases h
  ·split at h<;>cases h;rfl
  ·grind
  ·unfold adL at h
   grind [cK]
  ·cases h
 |store t x y=>
  simp only[k7] at h
  grind
 |field t x i=>
  simp only[k7] at h
  grind
 |index t x i=>
  simp only[k7] at h
  grind
 |indexAddr t x i=>
  simp only[k7] at h
  grind [cK]
 |_=>simp [quiet] at hq
mutual
theorem ads{ρ:Nat->Nat}{n:Nat}(hf: ∀l,l<n->ρ l=l): ∀x:AV,x.nb n->x.pe ρ=x
 | .acc l _,h=>by rw[AV.pe,hf l h]
 | .own l _ _ _ _,h=>by rw[AV.pe,hf l h]
 | .ptr l _,h=>by rw[AV.pe,hf l h]
 | .map l,h=>by rw[AV.pe,hf l h]
 | .agg cs,h=>by rw[AV.pe,CN hf cs h]
 | .FI cs,h=>by rw[AV.pe,CN hf cs h]
 | .pp cs,h=>by rw[AV.pe,CN hf cs h]
 | .mb _ _ rows,h=>by rw[AV.pe,adZ hf rows h]
 | .func _ f c,h=>by rw[AV.pe,CN hf f h.1,CN hf c h.2]
 | .iface _ x,h=>by rw[AV.pe,ads hf x h]
 | .any,_| .bool _,_| .int _ _,_| .str _,_| .raw _,_=>by rw[AV.pe]
theorem CN{ρ:Nat->Nat}{n:Nat}(hf: ∀l,l<n->ρ l=l): ∀xs:List AV,vK n xs->qQ ρ xs=xs
 |[],_=>rfl
 |x::xs,h=>by rw[qQ,ads hf x h.1,CN hf xs h.2]
theorem adZ{ρ:Nat->Nat}{n:Nat}(hf: ∀l,l<n->ρ l=l): ∀xs:List (List AV),MU n xs->DI ρ xs=xs
 |[],_=>rfl
 |x::xs,h=>by rw[DI,CN hf x h.1,adZ hf xs h.2]
end
theorem ave(hf: ∀l,l<n->ρ l=l)(x:kq)(h:qk n x):x.pe ρ=x:=by
 cases x with
 |cells cs=>simp only[kq.pe,CN hf cs h]
 |acc rT sz rows=>simp only[kq.pe,adZ hf rows h]
 |map es=>
  simp only[kq.pe,kq.map.injEq];have h: ∀p∈es,p.1.nb n/\p.2.nb n:=h;induction es with
  |nil=>rfl
  |cons p es ih=>
   have hp:=h p (by simp);rw[List.map_cons,ih (fun q hq=>h q (by simp [hq])) (fun q hq=>h q (by simp [hq])),ads hf _ hp.1,ads hf _ hp.2]
 |loop k slots st rQ=>simp only[kq.pe,CN hf slots h]
 |iter s p=>rfl
 |dead=>rfl
def ad0(h:n<=m)(x:kq)(hx:qk n x):qk m x:=by
 cases x with
 |cells cs=>exact rn h _ hx
 |acc rT sz rows=>exact ahO h _ hx
 |map es=>exact fun p hp=>⟨AV.ab4 h _ (hx p hp).1,AV.ab4 h _ (hx p hp).2⟩
 |loop k slots st rQ=>exact rn h _ hx
 |iter s p=>trivial
 |dead=>trivial
def tau(n l:Nat):Nat:=if l=n then n+1 else if l=n+1 then n else l
theorem ahV(n l:Nat):tau n (tau n l)=l:=by grind [tau]
theorem ZY(h:l<n):tau n l=l:=by grind [tau]
theorem ayk(h:l<n+2):tau n l<n+2:=by grind [tau]
def aoP{H:List α}{x y z:α}(h:(H++[x]++[y])[l]? =some z):(H++[y]++[x])[tau H.length l]? =some z:=by
 have hl:l<H.length+2:=by grind
 rw[List.append_assoc] at h ⊢;by_cases h1:l<H.length
 ·grind [ZY]
 ·rw[cR (by omega)] at h;by_cases h2:l=H.length
  ·simp_all [tau]
  ·have h3:l=H.length+1:=by omega
   simp_all [tau]
def mo.swap{C:pX}{x y:kq}(Ug:amz H.length df)(Ez:low<=H.length)(hH: ∀z∈H,qk H.length z)(hx:qk 0 x)(hy:qk 0 y)
 (S:mo C φ ⟨s,H++[x]++[y],low,df⟩ a w):mo C (fun l=>φ (tau H.length l)) ⟨qQ (tau H.length) s,H++[y]++[x],low,df⟩ a w:=by
 have Kq: ∀z∈H++[x]++[y],qk H.length z:=by
  intro z hz;simp only[da,List.mem_singleton] at hz;rcases hz with(hz|rfl)|rfl
  ·exact hH z hz
  ·exact ad0 (dK _) _ hx
  ·exact ad0 (dK _) _ hy
 have back: ∀(l:Nat)(z:kq),(H++[y]++[x])[l]? =some z->(H++[x]++[y])[tau H.length l]? =some z:=fun l z h=>aoP h
 have fwd: ∀(l:Nat)(z:kq),(H++[x]++[y])[l]? =some z->(H++[y]++[x])[tau H.length l]? =some z:=fun l z h=>aoP h
 have Km: ∀b o,Eh (fun l=>φ (tau H.length l)) (H++[y]++[x]) b o↔Eh φ (H++[x]++[y]) b o:=by
  intro b o;constructor
  ·rintro⟨l,z,hz,hm⟩;exact⟨_,z,back l z hz,hm⟩
  ·rintro⟨l,z,hz,hm⟩;refine⟨_,z,fwd l z hz,?_⟩;simp only[ahV];exact hm
 have pe:ZX (H.length+2) (tau H.length) (C.env φ (H++[x]++[y]) w) (C.env (fun l=>φ (tau H.length l)) (H++[y]++[x]) w):=by
  refine⟨fun l hl=> ?_,fun l hl=> ?_,fun b o u hm hc=>⟨?_,hc⟩⟩
  all_goals grind [pX.env,ayk,ahV]
 have A2:qT C (fun l=>φ (tau H.length l)) (H++[y]++[x]) w df a.defers:=S.defers.ajm (fun xs vs ⟨f,hf⟩ r=>by
  have:=kC.pe pe xs vs (rn (by omega) _ (Ug _ hf)) r
  rwa [CN (fun l hl=>ZY hl) xs (Ug _ hf)] at this) (fun _ _ _=>rfl) (fun l z b hz hb=> .inl ⟨_,z,back l z hz,hb⟩)
 refine {slots:= ?_,defers:=A2,nN:= ?_,apart:= ?_,sE:= ?_,size:=S.size,old:=S.old,nj:=S.nj,B8:= ?_,u1:=S.u1,rest:=S.rest,low:=⟨S.low.1,by grind⟩,names:= ?_}
 ·refine kC.pe pe _ _ ?_ S.slots;have:=kC.nb _ _ S.slots;simpa [pX.env] using this
 ·intro l z hz;have h1:=back l z hz;have hm:=Kq z (cQ h1);have:=nG.pe pe (ad0 (by omega) _ hm) (fun _ _=>rfl) (S.nN _ z h1);rw[ave (fun l hl=>ZY hl) z hm] at this;exact this
 ·intro l l' z z' b hz hz' hb hb';have:=S.apart _ _ z z' b (back l z hz) (back l' z' hz') hb hb'
  grind [ahV]
 ·intro l z b o hz hb;exact S.sE _ z b o (back l z hz) hb
 ·intro l z b o hz hm;exact S.B8 _ z b o (back l z hz) hm
 ·intro l hl;have hN:C.N0=low:=S.low.1;have hlt:l<H.length:=by omega
  have:=S.names l hl
  grind [ZY]
def ahW{x:kq}(r:nG E x h)(hx: ∀rT sz rows,x= .acc rT sz rows->(∃base n cap,h= .slice base n cap/\cap≠0/\base≠none)\/rows=[]):qk E.n x:=by
 cases x with
 |cells cs=>obtain⟨_,_,_,_,_,rl,_⟩:=r;exact kC.nb _ _ rl
 |acc rT sz rows=>
  rcases hx rT sz rows rfl with⟨base,n,cap,rfl,hc,hb⟩|rfl
  ·obtain⟨base',cap',h1,h2,h3,h4,h5⟩:=r;simp only[Value.slice.injEq] at h1;obtain⟨rfl,rfl,rfl⟩:=h1;cases base with
   |none=>exact absurd rfl hb
   |some a0=>
    obtain⟨_,c,t,_,_,rl,_⟩:=h5 a0 rfl hc;have hn:=kC.nb _ _ rl
    have key: ∀rows:List (List AV),vK E.n rows.flatten->MU E.n rows:=by
     intro rows;induction rows with
     |nil=>intro _;trivial
     |cons q rs ih=>
      intro this;simp only[cP] at this
      have split: ∀(p q:List AV),vK E.n (p++q)->vK E.n p/\vK E.n q:=by
       intro p;induction p with
       |nil=>intro q h;exact⟨trivial,h⟩
       |cons z p ihp=>intro q h;exact⟨⟨h.1,(ihp q h.2).1⟩,(ihp q h.2).2⟩
      exact⟨(split _ _ this).1,ih (split _ _ this).2⟩
    exact key rows hn
  ·trivial
 |map es=>obtain⟨_,_,_,_,_,rp⟩:=r;exact qC.nb rp
 |loop k slots st rQ=>obtain⟨_,_,_,_,_,_,rl⟩:=r;exact kC.nb _ _ rl
 |iter s p=>trivial
 |dead=>trivial
def Pu{x:kq}(r:nG E x h):qk E.n x:=by
 refine ahW r ?_;rintro rT sz rows rfl;obtain⟨base,cap,rfl,h2,h3,_⟩:=r;cases base with
 |none=>
  simp_all
 |some a0=>
  by_cases hc:cap=0
  ·simp_all
  grind
def ajK(w:World)(h:ou P t=some z):vK 0 z:=by
 obtain⟨v,_,hr,_⟩:=W8 (w:=w) h;exact kC.nb _ _ (hr {w,mu:=fun _ _=>False,φ:=fun _=> .tuple #[],ln:=fun _=>none,n:=0})
section

theorem SH(h:Q3 o=true): ∃t,o.op= .alloc t/\o.guard=none:=by
 grind [Q3,Option.isNone_iff_eq_none]
def si(n:Nat)(z:List AV):ux:={val:= .ptr n 0,nw:=[.cells z]}
def acf(ho:o.op= .alloc t)(hg:o.guard=none)(hz:ou P t=some z):vL P ops o σ (fun e=>e=si σ.heap.length z):=by
 refine .inr (.inl ⟨?_,?_,si σ.heap.length z,?_,?_,fun _=>cg⟩)
 ·unfold pm;rw[hg]
 ·rw[ho];rfl
 ·rw[ho];simp only[k7,hz];rfl
 ·exact trivial
def Fc{S:ux->Prop}(ho:o.op= .alloc t)(hg:o.guard=none)(h:vL P ops o σ S): ∃z,ou P t=some z/\ ∀e,S e↔e=si σ.heap.length z:=by
 rcases h with⟨hw,_⟩|⟨_,_,e,he,_,h⟩|⟨_,f,args,V,hc,_⟩|⟨_,f,args,e,hc,_⟩
 ·grind [pm]
 ·rw[ho] at he;simp only[k7] at he;split at he
  ·rename_i z hz;cases he;exact⟨z,hz,h⟩
  ·cases he
 ·rw[ho] at hc;cases hc
 ·rw[ho] at hc;cases hc
theorem CP{p q:Nat}(h:U4 ops p q=true):p<q/\(∃op oq tp tq,ops[p]? =some op/\ops[q]? =some oq/\op.op= .alloc tp/\oq.op= .alloc tq/\op.guard=none/\oq.guard=none/\yg op=[]/\yg oq=[])/\
 ∀k o,ops[k]? =some o->k≠p->k≠q->quiet o.op=true/\ow ops p k=ow ops q k:=by
 unfold U4 at h;split at h
 ·rename_i op oq hp hq;simp only[cj,jR,List.isEmpty_iff] at h;obtain⟨⟨⟨⟨⟨h1,h2⟩,h3⟩,h4⟩,h5⟩,h6⟩:=h;obtain⟨tp,a1,a2⟩:=SH h1
  grind [SH]
 ·cases h
theorem Fs(h1:ow ops i j=false)(h2:U4 ops i j=false):acK ops i j=false:=by
 unfold acK;rw[h1,h2];rfl
theorem BM{op:Op}(h:quiet op=true):op≠ .alloc t:=by
 rintro rfl;cases h
theorem xp{op:Op}(h:quiet op=true):Af op=false:=by
 cases op<;>first|rfl|(simp [quiet] at h)
end
section region
variable {C:pX}
def agU(o:Oper)(listed:Array Bool):(o.after.all fun e=> !Region.binds .any e||listed.getD e.on false)=true↔ ∀d∈yg o,listed.getD d false=true:=by
 grind [Array.all_eq_true_iff_forall_mem,yg]
theorem GI(listed:Array Bool)(i:Nat)(hsz:listed.size=ops.size):i∈Region.ready .any ops listed↔i<ops.size/\listed.getD i false=false/\ ∃o,ops[i]? =some o/\ ∀d∈yg o,listed.getD d false=true:=by
 unfold Region.ready;simp only[List.mem_filter,List.mem_range];constructor
 ·rintro⟨h1,h2⟩;rw[cj] at h2;have ho:ops[i]? =some ops[i]:=cD h1;refine⟨h1,?_,ops[i],ho,?_⟩
  ·grind
  ·have h3:=h2.2;rw[ho] at h3;simp only[dw,dl] at h3;exact(agU _ _).1 h3
 ·rintro⟨h1,h2,o,ho,h3⟩;refine⟨h1,?_⟩;rw[cj];constructor
  ·grind
  ·rw[ho];simp only[dw,dl];exact(agU _ _).2 h3
def u3(hok:Fq ops=true){listed:Array Bool}(hcl: ∀j o,ops[j]? =some o->listed.getD j false=true-> ∀d∈yg o,listed.getD d false=true){r:Nat}(LK:ops[i]? =some oi)
 (BL: ∀d∈yg oi,listed.getD d false=true) (hq:ow ops r i=true):listed.getD r false=true:=by
 obtain⟨_,hspec⟩:=CL hok;exact ace (L:=fun d=>listed.getD d false=true) (all:=ops.toList) (fun j o hj hL=>hcl j o (by simpa using hj) hL) ops.toList [] (by simp) (by simp) (fun k o hk=>(hspec k o (by simpa using hk)).1) i oi (by simpa using LK) BL r hq
def Nr{listed:Array Bool}(LK:ops[i]? =some oi)(BL: ∀d∈yg oi,listed.getD d false=true)(hcl: ∀j o,ops[j]? =some o->listed.getD j false=true-> ∀d∈yg o,listed.getD d false=true):
 ∀j o,ops[j]? =some o->(listed.setIfInBounds i true).getD j false=true-> ∀d∈yg o,(listed.setIfInBounds i true).getD d false=true:=by
 intro j o' hj hL d hd;by_cases e:j=i
 ·grind [getD_set_true]
 ·rw[getD_set_ne false (fun e'=>e e'.symm)] at hL
  grind [getD_set_true]
theorem Xa{listed:Array Bool}(h:i<listed.size):(listed.setIfInBounds i true).getD i false=true:=by
 simp [Array.getD,h]
structure ZZ(ops:Array Oper)(R:List Nat)(listed:Array Bool):Prop where
 pw:R.Pairwise (· < ·)
 sz:listed.size=ops.size
 mem: ∀i,i∈R↔i<ops.size/\listed.getD i false=false
 cl: ∀j o,ops[j]? =some o->listed.getD j false=true-> ∀d∈yg o,listed.getD d false=true
def ZZ.next{R:List Nat}{listed:Array Bool}(F:ZZ ops R listed)(LK:ops[i]? =some oi)(BL: ∀d∈yg oi,listed.getD d false=true):ZZ ops (R.erase i) (listed.setIfInBounds i true):=by
 refine⟨F.pw.erase i,by simpa using F.sz,fun k=> ?_,Nr LK BL F.cl⟩;have hnd:R.Nodup:=F.pw.imp (fun h=>db h);have hi:i<listed.size:=by have:=(dj.1 LK).1;rw[F.sz];exact this
 rw[hnd.mem_erase_iff,F.mem k];constructor
 ·rintro⟨hne,h1,h2⟩;refine⟨h1,?_⟩;rw[getD_set_ne false (fun e=>hne e.symm)];exact h2
 ·rintro⟨h1,h2⟩
  have hne:k≠i:=by
   grind [Xa]
  refine⟨hne,h1,?_⟩;rw[getD_set_ne false (fun e=>hne e.symm)] at h2;exact h2
def ap1 (hok:Fq ops=true) {p q:Nat} (htw:U4 ops p q=true) (fuel:Nat)
 (back: ∀(f:Nat)(R:List Nat)(listed:Array Bool)(φ:Nat->Value)(σ:jZ)(a:Act)(w:World),f<=fuel->R.length=f->ZZ ops R listed->(p ∉ R)->mo C φ σ a w->Xq C.P ops (Q .normal) R [] σ->wpAnyIn (CK ro) 0 C.P .any ops (QC C Q) f listed a w)
 {oq:Oper} {tq:TypeId} {zq:List AV} (hoq:ops[q]? =some oq) (htq:oq.op= .alloc tq) (hgq:oq.guard=none) (hzq:ou C.P tq=some zq):
 ∀(f:Nat)(R:List Nat)(listed:Array Bool)(φ φ0:Nat->Value)(σ:jZ)(a a0:Act)(w w0:World),f<=fuel->R.length=f+1->R.Pairwise (· < ·)->listed.size=ops.size->p∈R->q∈R->listed.getD q false=true->
 (∀i,i∈R↔i<ops.size/\(listed.getD i false=false\/i=q))->(∀j o,ops[j]? =some o->listed.getD j false=true-> ∀d∈yg o,listed.getD d false=true)->
 mo C φ (σ.app oq.dst (si σ.heap.length zq)) a w->mo C φ0 σ a0 w0->Xq C.P ops (Q .normal) R [] σ->wpAnyIn (CK ro) 0 C.P .any ops (QC C Q) f listed a w:=by
 obtain⟨hpq,⟨op,oq',tp,tq',hop,aAh,htp,aDw,hgp,aDx,hdp,hdq⟩,amA⟩:=CP htw;rw[hoq] at aAh;cases aAh;obtain⟨_,hspec⟩:=CL hok;intro f;induction f with
 |zero=>
  intro R listed φ φ0 σ a a0 w w0 hf hlen ZW hsz hpR hqR hlq hR hcl S S0 h;exfalso
  match R,hlen with
  |[x],_=>
   grind
 |succ f ih=>
  intro R listed φ φ0 σ a a0 w w0 hf hlen ZW hsz hpR hqR hlq hR hcl S S0 h;have hnd:R.Nodup:=ZW.imp (fun h=>db h)
  have hpl:listed.getD p false=false:=by
   grind
  have hps:p<ops.size:=((hR p).1 hpR).1;refine⟨?_,?_⟩
  ·grind [GI]
  ·intro i hi;rw[GI listed i hsz] at hi;obtain⟨hi1,hi2,oi,LK,BL⟩:=hi;have hiq:i≠q:=by grind
   have hiR:i∈R:=(hR i).2 ⟨hi1,.inl hi2⟩
   have ad1: ∀r∈R,ow ops r i=false:=by
    intro r hr;cases hq':ow ops r i with
    |false=>rfl
    |true=>
     exfalso;have hl:=u3 hok hcl LK BL hq';rcases ((hR r).1 hr).2 with h|h
     ·rw[hl] at h;cases h
     ·subst h;by_cases e:i=p
      ·subst e;rw[hop] at LK;cases LK;have:=u3 hok (listed:=cn ops.size false) (by grind [nn]) hop (by rw[hdp];intro d hd;cases hd) hq'
       simp_all
      ·have:=(amA i oi LK e hiq).2;rw[hq'] at this;have hl:=u3 hok hcl LK BL this;rw[hpl] at hl;cases hl
   by_cases eip:i=p
   ·
    subst eip;rw[hop] at LK;cases LK
    have hno: ∀r∈R,r<i->acK ops r i=false:=by
     grind [Fs,CP,BM]
    obtain⟨o1,E1,ho1,ahX,hE1⟩:=ajF hok h hiR ZW hno;rw[hop] at ho1;cases ho1;obtain⟨zp,hzp,hd1⟩:=Fc htp hgp ahX;obtain⟨_,h1⟩:=hE1 _ ((hd1 _).2 rfl);have ayl:q∈R.erase i:=(hnd.mem_erase_iff).2 ⟨by omega,hqR⟩
    obtain⟨o2,E2,ho2,aym,hE2⟩:=ajF hok h1 ayl (ZW.erase i) (by
     intro r hr hlt;have hr':=c9 hr;have hri:r≠i:=fun e=>by grind
     refine Fs ?_ ?_
     ·cases ho':ow ops r q with
      |false=>rfl
      |true=>
       exfalso;have:=u3 hok (listed:=cn ops.size false) (by grind [nn]) hoq (by rw[hdq];intro d hd;cases hd) ho'
       simp_all
     grind [CP,BM])
    rw[hoq] at ho2;cases ho2;obtain⟨zq',aAi,hd2⟩:=Fc htq hgq aym;rw[hzq] at aAi;cases aAi;obtain⟨_,h2⟩:=hE2 _ ((hd2 _).2 rfl);refine IS S hop (acf htp hgp hzp) ?_;rintro e φ' v w' rfl S'
    have hoQ:ow ops i q=false:=by
     cases ho':ow ops i q with
     |false=>rfl
     |true=>
      exfalso;have:=u3 hok (listed:=cn ops.size false) (by grind [nn]) hoq (by rw[hdq];intro d hd;cases hd) ho'
      simp_all
    obtain⟨adW,_⟩:=(hspec q oq hoq).2 i op hpq hop hoQ;obtain⟨_,ap2,_⟩:=Oper.apart_spec adW;have ZH:vK σ.heap.length σ.slots:=kC.nb _ _ S0.slots
    have hob: ∀z∈σ.heap,qk σ.heap.length z:=by
     intro z hz;obtain⟨l,hl⟩:=dD hz;exact Pu (S0.nN l z hl)
    have S2:=mo.swap (s:=((σ.app oq.dst (si σ.heap.length zq)).app op.dst (si (σ.app oq.dst (si σ.heap.length zq)).heap.length zp)).slots) (H:=σ.heap) (x:= .cells zq) (y:= .cells zp) (low:=σ.low) (df:=σ.df) (Js.nb S0.defers.2.2) S0.low.2 hob (ajK w0 hzq) (ajK w0 hzp) (by
     have e:(σ.app oq.dst (si σ.heap.length zq)).app op.dst (si (σ.app oq.dst (si σ.heap.length zq)).heap.length zp)=⟨((σ.app oq.dst (si σ.heap.length zq)).app op.dst (si (σ.app oq.dst (si σ.heap.length zq)).heap.length zp)).slots,σ.heap++[.cells zq]++[.cells zp],σ.low,σ.df⟩:=by
      cases oq.dst<;>cases op.dst<;>simp [jZ.app,jZ.put,si,lU]
     rw[<-e];exact S')
    have e2:(⟨qQ (tau σ.heap.length) ((σ.app oq.dst (si σ.heap.length zq)).app op.dst (si (σ.app oq.dst (si σ.heap.length zq)).heap.length zp)).slots,σ.heap++[.cells zp]++[.cells zq],σ.low,σ.df⟩:jZ)
     =(σ.app op.dst (si σ.heap.length zp)).app oq.dst (si (σ.app op.dst (si σ.heap.length zp)).heap.length zq):=by
     have ayn:=CN (ρ:=tau σ.heap.length) (fun l hl=>ZY hl) σ.slots ZH
     have aAj: ∀(d:Nat)(c:AV)(cs:List AV),qQ (tau σ.heap.length) (cs.set d c)=(qQ (tau σ.heap.length) cs).set d (c.pe (tau σ.heap.length)):=by
      intro d c cs;induction cs generalizing d with
      |nil=>simp [qQ]
      |cons x cs ih=>cases d with
       |zero=>simp [qQ]
       |succ d=>simp [qQ,ih]
     have aAk:(σ.app oq.dst (si σ.heap.length zq)).heap.length=σ.heap.length+1:=by simp [jZ.app,si,lU]
     have aAl:(σ.app op.dst (si σ.heap.length zp)).heap.length=σ.heap.length+1:=by simp [jZ.app,si,lU]
     have t0:tau σ.heap.length σ.heap.length=σ.heap.length+1:=by simp [tau]
     have t1:tau σ.heap.length (σ.heap.length+1)=σ.heap.length:=by simp [tau]
     rw[aAk,aAl];cases h1:oq.dst with
     |none=>cases h2:op.dst with
      |none=>simp [jZ.app,jZ.put,si,lU,ayn]
      |some dp=>grind [jZ.app,jZ.put,si,lU,AV.pe]
     |some dq=>cases h2:op.dst with
      |none=>grind [jZ.app,jZ.put,si,lU,AV.pe]
      |some dp=>
       grind [jZ.app,jZ.put,si,lU,AV.pe,dH]
    rw[e2] at S2
    have hF:ZZ ops ((R.erase i).erase q) (listed.setIfInBounds i true):=by
     refine⟨(ZW.erase i).erase q,by simpa using hsz,fun k=> ?_,Nr hop BL hcl⟩;have aCx:(R.erase i).Nodup:=hnd.erase i;rw[aCx.mem_erase_iff,hnd.mem_erase_iff,hR k];constructor
     ·rintro⟨hne,aCy,h1,h2⟩;refine⟨h1,?_⟩;rw[getD_set_ne false (fun e=>aCy e.symm)]
      grind
     ·rintro⟨h1,h2⟩
      have hne:k≠i:=by
       grind [Xa]
      rw[getD_set_ne false (fun e=>hne e.symm)] at h2
      grind
    grind
   ·
    obtain⟨hqi,_⟩:=amA i oi LK eip hiq
    have hno: ∀r∈R,r<i->acK ops r i=false:=by
     intro r hr hlt;refine Fs (ad1 r hr) ?_;cases ht:U4 ops r i with
     |false=>rfl
     |true=>
      exfalso;obtain⟨_,⟨_,o1,_,t1,_,ho1,_,ht1,_⟩,_⟩:=CP ht;rw[LK] at ho1;cases ho1;exact BM hqi ht1
    obtain⟨o1,E1,ho1,ahX,hE1⟩:=ajF hok h hiR ZW hno;rw[LK] at ho1;cases ho1
    have hnw: ∀e,E1 e->e.nw=[]:=by
     intro e he;rcases ahX with⟨_,h⟩|⟨_,_,e',he',_,h⟩|⟨_,f',args,V,hc,_,_,_⟩|⟨_,f',args,_,hc,_,_⟩
     ·rw[(h e).1 he]
     ·rw[(h e).1 he];exact arZ hqi he'
     ·exfalso;have:=xp hqi;unfold mq at hc;split at hc
      ·rename_i ho';rw[ho'] at this;simp [Af] at this
      ·cases hc
     ·exfalso;have:=xp hqi;unfold mq at hc;split at hc
      ·rename_i ho';rw[ho'] at this;simp [Af] at this
      ·cases hc
    have hwh: ∀e,E1 e->e.whole=false:=by
     intro e he;rcases ahX with⟨_,h⟩|⟨_,_,e',he',_,h⟩|⟨_,f',args,V,hc,_,_,_⟩|⟨_,f',args,_,hc,_,_⟩
     ·rw[(h e).1 he]
     ·rw[(h e).1 he];exact ar0 hqi he'
     ·exfalso;have:=xp hqi;unfold mq at hc;split at hc
      ·rename_i ho';rw[ho'] at this;simp [Af] at this
      ·cases hc
     ·exfalso;have:=xp hqi;unfold mq at hc;split at hc
      ·rename_i ho';rw[ho'] at this;simp [Af] at this
      ·cases hc
    have hap:(∀d,oq.dst=some d->d ∉ oi.looksAt ops)/\(∀d,oi.dst=some d->oq.dst≠some d):=by
     rcases Nat.lt_or_gt_of_ne hiq with hlt|hgt
     ·have ho':ow ops i q=false:=by
       cases ho':ow ops i q with
       |false=>rfl
       |true=>
        exfalso;have:=u3 hok (listed:=cn ops.size false) (by intro j o _ hj;rw[nn] at hj;cases hj) hoq (by rw[hdq];intro d hd;cases hd) ho';rw[nn] at this;cases this
      obtain⟨hap,_⟩:=(hspec q oq hoq).2 i oi hlt LK ho';obtain⟨x1,x2,x3⟩:=Oper.apart_spec hap;exact⟨x3,x2⟩
     ·obtain⟨hap,_⟩:=(hspec i oi LK).2 q oq hgt hoq (ad1 q hqR);obtain⟨x1,x2,x3⟩:=Oper.apart_spec hap;exact⟨x1,fun d hd hd'=>x2 d hd' hd⟩
    have arV: ∀e,E1 e->Ag ⟨i,σ.heap.length,e⟩ (si σ.heap.length zq)=true:=by
     intro e he;simp [Ag,si,FL,hnw e he,hwh e he]
    have hfw:vL C.P ops oi (σ.app oq.dst (si σ.heap.length zq)) E1:=ahX.fwd (j:=i) hap.1 arV;refine IS S LK hfw ?_;intro e φ' v w' he S';obtain⟨_,rE⟩:=hE1 e he;have arW:=ajE (d:=oi.dst) (d':=oq.dst) (j:=i) hap.2 (arV e he) (ahX.lt he).2 (by simp [si]);have hle:(σ.app oi.dst e).heap.length=σ.heap.length:=by simp [jZ.app,hnw e he,sF]
    rw[<-arW] at S'
    have hg: ∃φ1 a1 w1,mo C φ1 (σ.app oi.dst e) a1 w1:=by
     rcases ahX with⟨_,h⟩|⟨_,_,e',he',hp,h⟩|⟨_,f',args,V,hc,_,_,_⟩|⟨_,f',args,_,hc,_,_⟩
     ·rw[(h e).1 he,GD];exact⟨φ0,_,w0,S0.put oi.dst (v:=undef) rfl⟩
     ·rw[(h e).1 he];obtain⟨_,v1,w1,φ1,_,_,S1⟩:=Np S0 he' hp;exact⟨φ1,_,w1,S1⟩
     ·exfalso;have:=xp hqi;unfold mq at hc;split at hc
      ·rename_i ho';rw[ho'] at this;simp [Af] at this
      ·cases hc
     ·exfalso;have:=xp hqi;unfold mq at hc;split at hc
      ·rename_i ho';rw[ho'] at this;simp [Af] at this
      ·cases hc
    obtain⟨φ1,a1,w1,S1⟩:=hg;rw[<-hle] at S';refine ih (R.erase i) _ φ' φ1 (σ.app oi.dst e) _ a1 w' w1 (by omega) ?_ (ZW.erase i) (by simpa using hsz) ((hnd.mem_erase_iff).2 ⟨fun e'=>eip e'.symm,hpR⟩) ((hnd.mem_erase_iff).2 ⟨fun e'=>hiq e'.symm,hqR⟩) ?_ ?_ (Nr LK BL hcl) S' S1 rE
    ·rw[dm hiR];omega
    ·exact getD_set_true hlq
    ·intro k;rw[hnd.mem_erase_iff,hR k];constructor
     ·rintro⟨hne,h1,h2⟩;refine⟨h1,?_⟩;rw[getD_set_ne false (fun e=>hne e.symm)];exact h2
     ·rintro⟨h1,h2⟩
      have hne:k≠i:=by
       intro e';subst e';rcases h2 with h2|h2
       ·rw[Xa (by rw[hsz];exact hi1)] at h2;cases h2
       ·exact hiq h2
      refine⟨hne,h1,?_⟩;rw[getD_set_ne false (fun e=>hne e.symm)] at h2;exact h2
def ar1 (hok:Fq ops=true): ∀ (fuel:Nat) (R:List Nat) (listed:Array Bool) (φ:Nat->Value) (σ:jZ) (a:Act) (w:World),R.length=fuel->ZZ ops R listed->
 mo C φ σ a w->Xq C.P ops (Q .normal) R [] σ->wpAnyIn (CK ro) 0 C.P .any ops (QC C Q) fuel listed a w:=by
 obtain⟨_,hspec⟩:=CL hok;intro fuel;induction fuel using Nat.strongRecOn with
 |ind fuel ih=>
  intro R listed φ σ a w hl F S h;have ZW:=F.pw;have hsz:=F.sz;have hR:=F.mem;have hnd:R.Nodup:=ZW.imp (fun h=>db h);cases fuel with
  |zero=>
   have hR0:R=[]:=cz hl;subst hR0;refine⟨?_,φ,σ,S,h⟩;rw[List.eq_nil_iff_forall_not_mem];intro i hi;rw[GI listed i hsz] at hi;have:=(hR i).2 ⟨hi.1,hi.2.1⟩;simp at this
  |succ fuel=>
   refine⟨?_,?_⟩
   ·intro amB;exfalso;cases R with
    |nil=>simp at hl
    |cons r R=>
     have hr:=(hR r).1 (by simp);have ho:ops[r]? =some ops[r]:=cD hr.1
     have:r∈Region.ready .any ops listed:=by
      rw[GI listed r hsz];refine⟨hr.1,hr.2,_,ho,fun d hd=> ?_⟩;have hdr:=(hspec r _ ho).1 d hd;cases hld:listed.getD d false with
      |true=>rfl
      |false=>
       have hdR:=(hR d).2 ⟨by omega,hld⟩;rw[cU] at ZW;simp only[cX] at hdR;rcases hdR with rfl|hdR
       ·omega
       ·have:=ZW.1 d hdR;omega
     rw[amB] at this;simp at this
   ·intro i hi;rw[GI listed i hsz] at hi;obtain⟨hi1,hi2,oi,LK,BL⟩:=hi;have hiR:=(hR i).2 ⟨hi1,hi2⟩
    have ad1: ∀r∈R,ow ops r i=false:=by
     intro r hr;cases hq:ow ops r i with
     |false=>rfl
     |true=>
      exfalso;have:=u3 hok F.cl LK BL hq;have hr':=((hR r).1 hr).2;rw[hr'] at this;cases this
    by_cases htw: ∃p∈R,U4 ops p i=true
    ·obtain⟨p,hpR,htw⟩:=htw;obtain⟨hpi,⟨op,oq,tp,tq,hop,hoq,htp,htq,hgp,hgq,hdp,hdq⟩,amA⟩:=CP htw;rw[LK] at hoq;cases hoq;have hpl:=((hR p).1 hpR).2
     obtain⟨o1,E1,ho1,ahX,hE1⟩:=ajF hok h hpR ZW (by
      intro r hr hlt;refine Fs ?_ ?_
      ·cases ho':ow ops r p with
       |false=>rfl
       |true=>
        exfalso;have:=u3 hok (listed:=cn ops.size false) (by intro j o _ hj;rw[nn] at hj;cases hj) hop (by rw[hdp];intro d hd;cases hd) ho';rw[nn] at this;cases this
      ·cases ht:U4 ops r p with
       |false=>rfl
       |true=>
        exfalso;obtain⟨_,⟨o1,_,t1,_,ho1,_,ht1,_⟩,_⟩:=CP ht;exact BM (amA r o1 ho1 (by omega) (by omega)).1 ht1)
     rw[hop] at ho1;cases ho1;obtain⟨zp,hzp,hd1⟩:=Fc htp hgp ahX;obtain⟨_,h1⟩:=hE1 _ ((hd1 _).2 rfl);have ayl:i∈R.erase p:=(hnd.mem_erase_iff).2 ⟨by omega,hiR⟩
     obtain⟨o2,E2,ho2,aym,hE2⟩:=ajF hok h1 ayl (ZW.erase p) (by
      intro r hr hlt;have hr':=c9 hr;have hrp:r≠p:=fun e=>by subst e;exact(hnd.not_mem_erase) hr
      refine Fs (ad1 r hr') ?_;cases ht:U4 ops r i with
      |false=>rfl
      |true=>
       exfalso;obtain⟨_,⟨o1,_,t1,_,ho1,_,ht1,_⟩,_⟩:=CP ht;exact BM (amA r o1 ho1 hrp (by omega)).1 ht1)
     rw[LK] at ho2;cases ho2;obtain⟨zq,hzq,_⟩:=Fc htq hgq aym;refine IS S LK (acf htq hgq hzq) ?_;rintro e φ' v w' rfl S';refine ap1 hok htw fuel (fun f R' avf φ' σ' a' w' hf QT F' _ S' h'=>ih f (by omega) R' avf φ' σ' a' w' QT F' S' h') LK htq hgq hzq fuel R _ φ' φ σ _ a w' w (cm _) hl ZW (by simpa using hsz) hpR hiR (Xa (by rw[hsz];exact hi1)) ?_ (Nr LK BL F.cl) S' S h;intro k;rw[hR k];by_cases hk:k=i
     ·subst hk;constructor
      ·rintro⟨h1,_⟩;exact⟨h1,.inr rfl⟩
      ·rintro⟨h1,_⟩;exact⟨h1,hi2⟩
     ·rw[getD_set_ne false (fun e=>hk e.symm)];constructor
      ·rintro⟨h1,h2⟩;exact⟨h1,.inl h2⟩
      ·rintro⟨h1,h2|h2⟩
       ·exact⟨h1,h2⟩
       ·exact absurd h2 hk
    ·have hno: ∀r∈R,r<i->acK ops r i=false:=by
      intro r hr _;refine Fs (ad1 r hr) ?_;cases ht:U4 ops r i with
      |false=>rfl
      |true=>exact absurd ⟨r,hr,ht⟩ htw
     obtain⟨o,E,ho,hst,hE⟩:=ajF hok h hiR ZW hno;refine IS S ho hst ?_;intro e φ' v w' he S';obtain⟨_,rE⟩:=hE e he;refine ih fuel (by omega) (R.erase i) _ φ' _ _ w' ?_ (F.next LK BL) S' rE;rw[dm hiR];omega
def amC{id:Nat}(hm:C.P.follows .mixedOrders=true)(hok:Fq ops=true)(h:Xq C.P ops (Q .normal) (cE ops.size) [] σ)(S:mo C φ σ a w):
 (Code.region id ops true).wpIn (CK ro) 0 C.P (QC C Q) a w:=by
 refine wpIn_region_any hm ?_;refine ar1 hok ops.size (cE ops.size) _ φ σ a _ (by simp) ⟨cV,by simp,?_,?_⟩ (S.drew _) h
 ·intro i;simp only[List.mem_range];constructor
  ·intro hi;exact⟨hi,nn _ _⟩
  ·exact fun h=>h.1
 ·intro j o hj hL;rw[nn] at hL;cases hL
end region
section
variable {c:Nat}
def ad2(P:Program)(f:FuncId)(args:List AV)(H:List kq)(x:AV)(H':List kq):Prop:= ∀σ':jZ,σ'.heap=H->zD P f args σ' (fun o H2=>o= .panic x/\H2=H')
def ajL(P:Program)(ops:Array Oper)(c:Nat)(H:List kq)(x:AV)(H':List kq)(j:Nat)(o:Oper)(σ:jZ)(v:AV):Prop:=
 σ.heap=H/\((j=c/\pm ops o σ=some true/\ ∃f args,mq σ o.op=some (f,args)/\ad2 P f args H x H')\/
   ow ops c j=true\/
   (j≠c/\ ∃e:ux,e.up=[]/\e.nw=[]/\e.val=v/\vL P ops o σ (fun e'=>e'=e)))
def amD(P:Program)(ops:Array Oper)(c:Nat)(H:List kq)(x:AV)(H':List kq):List Nat->jZ->Prop
 |[],_=>True
 |j::rest,σ=> ∃o v,ops[j]? =some o/\ajL P ops c H x H' j o σ v/\amD P ops c H x H' rest (σ.put o.dst v)
theorem LN(σ:jZ)(d:Option Tmp)(v:AV):(σ.put d v).heap=σ.heap:=by cases d<;>rfl
theorem ar2{y:Operand}(h: ∀t,d=some t->y≠ .tmp t):(σ.put d v).ev y=σ.ev y:=by
 have:=amy (σ:=σ) (dst:=d) (e:={val:=v}) h
 rwa [GD] at this
theorem agV{t:Nat}(h: ∀t',d=some t'->t≠t'):(σ.put d v).slots[t]? =σ.slots[t]? :=by
 have:=abb (σ:=σ) (dst:=d) (e:={val:=v}) h
 rwa [GD] at this
theorem put_comm {d':Option Tmp}{v':AV}(h: ∀t,d=some t->d'≠some t):(σ.put d v).put d' v'=(σ.put d' v').put d v:=by
 cases d with
 |none=>cases d'<;>rfl
 |some t=>cases d' with
  |none=>rfl
  |some t'=>
   grind [jZ.put,dH]
def ajL.move(h:ajL P ops c H x H' j o σ v)(hh:σ'.heap=σ.heap)(Q1: ∀y∈o.op.operands,σ'.ev y=σ.ev y)(hw:pm ops o σ'=pm ops o σ):ajL P ops c H x H' j o σ' v:=by
 obtain⟨h0,h⟩:=h;refine⟨hh.trans h0,?_⟩;rcases h with⟨h1,h2,f,args,h3,h4⟩|h1|⟨h1,e,h2,h3,h4,h5⟩
 ·grind [GH]
 ·exact .inr (.inl h1)
 ·exact .inr (.inr ⟨h1,e,h2,h3,h4,h5.local Q1 hw (fun _ _=>⟨⟨fun _ _=>by rw[hh],fun _=>by rw[hh]⟩,fun _=>hh⟩)⟩)
def axR(hok:Fq ops=true){i:Nat}: ∀{R:List Nat}{σ:jZ},amD P ops c H x H' R σ->i∈R->R.Pairwise (· < ·)->(∀r∈R,r<i->ow ops r i=false)->
 ∃o v,ops[i]? =some o/\ajL P ops c H x H' i o σ v/\amD P ops c H x H' (R.erase i) (σ.put o.dst v)
 |[],_,_,hi,_,_=>by simp at hi
 |r::R,σ,⟨or',vr,hor,hst,h⟩,hi,ZW,ajG=>by
  by_cases e:r=i
  ·grind
  ·have hiR:i∈R:=by
    grind
   rw[cU] at ZW;have hri:r<i:=ZW.1 i hiR;obtain⟨oi,v,LK,aCz,hr⟩:=axR hok h hiR ZW.2 (fun q hq hlt=>ajG q (by simp [hq]) hlt);obtain⟨_,hspec⟩:=CL hok;obtain⟨adW,_⟩:=(hspec i oi LK).2 r or' hri hor (ajG r (by simp) hri);obtain⟨a1,a2,a3⟩:=Oper.apart_spec adW;refine⟨oi,v,LK,aCz.move (LN _ _ _).symm (fun y hy=> ?_) (Jf fun k b d hg hd=> ?_),?_⟩
   ·grind [ar2,Jg]
   ·grind [agV,Nq]
   ·have hne:(r::R).erase i=r::R.erase i:=List.erase_cons_tail (by simpa using e);rw[hne];refine⟨or',vr,hor,hst.move (LN _ _ _) (fun y hy=> ?_) (Jf fun k b d hg hd=> ?_),?_⟩
    ·grind [ar2,Jg]
    ·grind [agV,Nq]
    grind [put_comm]
def ad3:List Oper->List AV->List AV
 |[],s=>s
 |o::os,s=>ad3 os (match o.dst with|some d=>s.set d .any|none=>s)
def ajM(ops:Array Oper)(c:Nat):Bool:=(match ops[c]? with|some o=>Af o.op|none=>false)&&
 (cE ops.size).all fun i=>if i<c then ow ops i c else if i=c then true else ow ops c i
def ap3{c:Nat}(h:ajM ops c=true):(∀i,i<c->i<ops.size->ow ops i c=true)/\(∀i,c<i->i<ops.size->ow ops c i=true)/\ ∃o,ops[c]? =some o/\Af o.op=true:=by
 grind [ajM]
def Q6(ops:Array Oper)(s:List AV):List AV:=ad3 ops.toList s
def abe: ∀(L:List Oper)(s:List AV)(d:Nat)(v:AV),(∃o∈L,o.dst=some d)->ad3 L (s.set d v)=ad3 L s
 |[],_,_,_,⟨_,h,_⟩=>by simp at h
 |o::L,s,d,v,h=>by
  simp only[ad3];cases hd:o.dst with
  |none=>
   simp only;refine abe L s d v ?_
   grind
  |some t=>
   simp only;by_cases e:t=d
   ·subst e;rw[List.set_set]
   ·rw[dH _ _ (fun h=>e h.symm)];refine abe L _ d v ?_
    grind
theorem ajN(ho:ops[i]? =some o)(v:AV):Q6 ops (σ.put o.dst v).slots=Q6 ops σ.slots:=by
 cases hd:o.dst with
 |none=>rfl
 |some d=>
  refine abe _ _ d v ⟨o,?_,hd⟩
  grind
def kC.ar3: ∀{cs:List AV}{vs:List Value}(d:Nat),kC E cs vs->kC E (cs.set d .any) vs
 |[],_,_,h=>h
 |_::_,_,0,⟨v,us,rfl,_,r⟩=>⟨v,us,rfl,trivial,r⟩
 |_::_,_,d+1,⟨v,us,rfl,h1,r⟩=>⟨v,us,rfl,h1,kC.ar3 d r⟩
def abf{E:Env}: ∀(L:List Oper){cs:List AV}{vs:List Value},kC E cs vs->kC E (ad3 L cs) vs
 |[],_,_,h=>h
 |o::L,cs,vs,h=>by
  simp only[ad3];cases o.dst with
  |none=>exact abf L h
  |some d=>exact abf L (kC.ar3 d h)
end
section region
variable {C:pX}
def mo.Q6{φ:Nat->Value}{σ:jZ}{a:Act}{w:World}(S:mo C φ σ a w)(ops:Array Oper):mo C φ {σ with slots:=Q6 ops σ.slots} a w:={S with slots:=abf _ S.slots,defers:=S.defers}
def ar4(hok:Fq ops=true){c:Nat}{s0:List AV}(hQ:Q (.panic x) {slots:=Q6 ops s0,heap:=H',low,df}):
 ∀(fuel:Nat)(R:List Nat)(listed:Array Bool)(φ:Nat->Value)(σ:jZ)(a:Act)(w:World),R.length=fuel->ZZ ops R listed->c∈R->
 mo C φ σ a w->Q6 ops σ.slots=Q6 ops s0->σ.low=low->σ.df=df->amD C.P ops c H x H' R σ->wpAnyIn (CK ro) 0 C.P .any ops (QC C Q) fuel listed a w:=by
 obtain⟨_,hspec⟩:=CL hok;intro fuel;induction fuel with
 |zero=>
  grind
 |succ fuel ih=>
  intro R listed φ σ a w hl F hc S hs Ez Ug h;have ZW:=F.pw;have hsz:=F.sz;have hR:=F.mem;have hnd:R.Nodup:=ZW.imp (fun h=>db h);refine⟨?_,?_⟩
  ·intro amB;exfalso;cases R with
   |nil=>simp at hl
   |cons r R=>
    have hr:=(hR r).1 (by simp);have ho:ops[r]? =some ops[r]:=cD hr.1
    have:r∈Region.ready .any ops listed:=by
     rw[GI listed r hsz]
     grind [cU]
    grind
  ·intro i hi;rw[GI listed i hsz] at hi;obtain⟨hi1,hi2,oi,LK,BL⟩:=hi;have hiR:=(hR i).2 ⟨hi1,hi2⟩
   have ad1: ∀r∈R,ow ops r i=false:=by
    intro r hr;cases hq:ow ops r i with
    |false=>rfl
    |true=>
     exfalso;have:=u3 hok F.cl LK BL hq
     grind
   obtain⟨o,v,ho,⟨hH,hst⟩,rE⟩:=axR hok h hiR ZW (fun r hr _=>ad1 r hr);rw[LK] at ho;cases ho;rcases hst with⟨rfl,hw,f,args,ar5,ayo⟩|ajG|⟨hne,e,hup,hnw,hval,hS⟩
   ·unfold wpOpIn;simp only[LK];rw[xg S hw];simp only[jU];have uZ:=ayo σ hH;obtain⟨vs,hrun,hr⟩:=GG S ar5 uZ.1;refine⟨fun _ _=>trivial,?_⟩;rw[Oper.semAt_eq _ _ _ (Jv ar5),hrun,Oper.uponIn_enter];refine⟨fun h=>by simp [CK,ct] at h,FK.2 ?_⟩;refine(uZ.2 C φ a w rfl S vs hr).mono fun en w' ⟨o',φ',H2,⟨ho',hH2⟩,S',rF⟩=> ?_
    subst ho' hH2;cases en with
    |returned v=>exact rF.elim
    |panicked chain=>
     obtain⟨u,hu,hr⟩:=rF;refine⟨φ',{slots:=Q6 ops s0,heap:=H2,low,df},x,u,?_,hQ,hu,hr⟩;have:=S'.Q6 ops
     grind
    |outgrown=>exact rF.elim
   ·rw[ad1 c hc] at ajG;cases ajG
   ·refine IS S LK hS ?_;rintro e' φ' v' w' rfl S'
    have aCA:σ.app oi.dst e'=σ.put oi.dst v:=by
     rw[show σ.app oi.dst e'=σ.app oi.dst {val:=v} by simp [jZ.app,hup,hnw,hval],GD]
    rw[aCA] at S';refine ih (R.erase i) _ φ' _ _ w' ?_ (F.next LK BL) ((hnd.mem_erase_iff).2 ⟨fun e=>hne e.symm,hc⟩) S' ?_ ?_ ?_ rE
    ·grind
    ·rw[ajN LK];exact hs
    ·rw[<-Ez];cases oi.dst<;>rfl
    ·rw[<-Ug];cases oi.dst<;>rfl
def amE{id c:Nat}(hm:C.P.follows .mixedOrders=true)(hok:Fq ops=true)(hc:c<ops.size)(h:amD C.P ops c σ.heap x H' (cE ops.size) σ)
 (hQ:Q (.panic x) {σ with slots:=Q6 ops σ.slots,heap:=H'}) (S:mo C φ σ a w):(Code.region id ops true).wpIn (CK ro) 0 C.P (QC C Q) a w:=by
 refine wpIn_region_any hm ?_;refine ar4 hok hQ ops.size (cE ops.size) _ φ σ a _ (by simp) ⟨cV,by simp,?_,?_⟩ (by simpa using hc) (S.drew _) rfl rfl rfl h
 all_goals grind [nn]
def agW(P:Program)(ops:Array Oper)(c:Nat)(Q:mM->jZ->Prop)(σ:jZ):Prop:=
 ∃o f args x H',ops[c]? =some o/\pm ops o σ=some true/\mq σ o.op=some (f,args)/\ad2 P f args σ.heap x H'/\Q (.panic x) {σ with slots:=Q6 ops σ.slots,heap:=H'}
def ap4(hok:Fq ops=true){c k:Nat}(hsep:ajM ops c=true)(hk:ops.size=c+(k+1)):
 ∀(f:Nat)(R:List Nat)(listed:Array Bool)(φ:Nat->Value)(σ:jZ)(a:Act)(w:World),R.length+k=f->(∀r∈R,r<c)->ZZ ops (R++cH c (k+1)) listed->mo C φ σ a w->Xq C.P ops (agW C.P ops c Q) R [] σ->wpAnyIn (CK ro) 0 C.P .any ops (QC C Q) (f+1) listed a w:=by
 obtain⟨_,hspec⟩:=CL hok;obtain⟨hb,ha,uZ⟩:=ap3 hsep;intro f;induction f using Nat.strongRecOn with
 |ind f ih=>
  intro R listed φ σ a w hl hRc F S h;have ZW:=F.pw;have hsz:=F.sz;have hR:=F.mem;have aAm:R.Pairwise (· < ·):=(List.pairwise_append.1 ZW).1;have hnd:R.Nodup:=aAm.imp (fun h=>db h);have axS:c∈R++cH c (k+1):=da.2 (.inr (by rw[List.mem_range'_1];omega));refine⟨?_,?_⟩
  ·intro amB;exfalso;generalize R++cH c (k+1)=L at ZW hR axS;cases L with
   |nil=>simp at axS
   |cons r L=>
    have hr:=(hR r).1 (by simp);have ho:ops[r]? =some ops[r]:=cD hr.1
    have:r∈Region.ready .any ops listed:=by
     rw[GI listed r hsz];refine⟨hr.1,hr.2,_,ho,fun d hd=> ?_⟩
     grind [cU]
    grind
  ·intro i hi;rw[GI listed i hsz] at hi;obtain⟨hi1,hi2,oi,LK,BL⟩:=hi;have hiR:=(hR i).2 ⟨hi1,hi2⟩
   have ad1: ∀r∈R++cH c (k+1),ow ops r i=false:=by
    intro r hr;cases hq:ow ops r i with
    |false=>rfl
    |true=>
     exfalso;have:=u3 hok F.cl LK BL hq
     grind
   rcases da.1 hiR with ayp|hiC
   ·have hno: ∀r∈R,r<i->acK ops r i=false:=fun r hr _=>Fs (ad1 r (da.2 (.inl hr))) (by
     cases ht:U4 ops r i with
     |false=>rfl
     |true=>
      exfalso;obtain⟨_,_,amA⟩:=CP ht;obtain⟨oc,hoc,hcc⟩:=uZ;have h1:=hRc r hr;have h2:=hRc i ayp;rw[xp (amA c oc hoc (by omega) (by omega)).1] at hcc;cases hcc)
    obtain⟨o,E,ho,hst,hE⟩:=ajF hok h ayp aAm hno;have hpos:=List.length_pos_of_mem ayp;obtain⟨f',rfl⟩: ∃f',f=f'+1:=⟨f-1,by omega⟩;refine IS S ho hst ?_;intro e φ' v w' he S';obtain⟨_,rE⟩:=hE e he;refine ih f' (by omega) (R.erase i) _ φ' _ _ w' ?_ (fun r hr=>hRc r (c9 hr)) ?_ S' rE
    ·grind
    ·have:=F.next LK BL
     grind
   ·rw[List.mem_range'_1] at hiC;rcases Nat.eq_or_lt_of_le hiC.1 with e|hlt
    ·subst e
     have hR0:R=[]:=by
      cases R with
      |nil=>rfl
      |cons r R=>
       exfalso;have h1:=ad1 r (by simp)
       grind
     subst hR0;obtain⟨o,fn,args,x,H',ho,hw,ar5,ayo,hQ⟩:agW C.P ops c Q σ:=h;rw[LK] at ho;cases ho;unfold wpOpIn;simp only[LK];rw[xg S hw];simp only[jU];have uZ:=ayo σ rfl;obtain⟨vs,hrun,hr⟩:=GG S ar5 uZ.1;refine⟨fun _ _=>trivial,?_⟩;rw[Oper.semAt_eq _ _ _ (Jv ar5),hrun,Oper.uponIn_enter];refine⟨fun h=>by simp [CK,ct] at h,FK.2 ?_⟩;refine(uZ.2 C φ a w rfl S vs hr).mono fun en w' ⟨o',φ',H2,⟨ho',hH2⟩,S',rF⟩=> ?_
     subst ho' hH2;cases en with
     |returned v=>exact rF.elim
     |panicked chain=>
      obtain⟨u,hu,hr⟩:=rF;exact⟨φ',{σ with slots:=Q6 ops σ.slots,heap:=H2},x,u,S'.Q6 ops,hQ,hu,hr⟩
     |outgrown=>exact rF.elim
    grind
def amF{id c:Nat}(hm:C.P.follows .mixedOrders=true)(hok:Fq ops=true)(hc:c<ops.size)(hsep:ajM ops c=true)(h:Xq C.P ops (agW C.P ops c Q) (cE c) [] σ)
 (S:mo C φ σ a w):(Code.region id ops true).wpIn (CK ro) 0 C.P (QC C Q) a w:=by
 refine wpIn_region_any hm ?_;obtain⟨k,hk⟩: ∃k,ops.size=c+(k+1):=⟨ops.size-c-1,by omega⟩
 have hall:cE c++cH c (k+1)=cE ops.size:=by
  rw[cx,cx,hk]
  grind
 have hF:ZZ ops (cE c++cH c (k+1)) (cn ops.size false):=by
  rw[hall];refine⟨cV,by simp,?_,?_⟩
  all_goals grind [nn]
 have key: ∀w',mo C φ σ a w'->wpAnyIn (CK ro) 0 C.P .any ops (QC C Q) ops.size (cn ops.size false) a w':=by
  intro w' S';have:=ap4 (ro:=ro) (Q:=Q) hok hsep hk (c+k) (cE c) (cn ops.size false) φ σ a w' (by simp) (by simp) hF S' h
  grind
 exact key _ (S.drew _)
def LO(tr:List Tr):Bool:=tr.all fun t=>t.e.up.isEmpty&&t.e.nw.isEmpty
def Pv (P:Program) (ops:Array Oper) (c:Nat):List Oper->Nat->jZ->Prop
 |[],_,_=>True
 |o::rest,j,σ=>match ow ops c j with
  |true=>Pv P ops c rest (j+1) (σ.put o.dst (.raw undef))
  |false=>match pm ops o σ with
   |none=>False
   |some false=>Pv P ops c rest (j+1) (σ.put o.dst (.raw undef))
   |some true=>mq σ o.op=none/\match k7 P σ o.op with
    |some e=>(e.pre/\e.up=[]/\e.nw=[])/\Pv P ops c rest (j+1) (σ.put o.dst e.val)
    |none=>False
theorem Jh{P:Program}{c:Nat}{H H':List kq}{x:AV}: ∀(rest:List Oper)(j:Nat)(σ:jZ),ops.toList.drop j=rest->c<j->σ.heap=H->Pv P ops c rest j σ->amD P ops c H x H' (cH j rest.length) σ
 |[],_,_,_,_,_,_=>trivial
 |o::rest,j,σ,hd,hcj,hH,h=>by
  have ho:ops[j]? =some o:=by
   have:=congrArg (fun l:List Oper=>l[0]?) hd;simpa using this
  have rE:ops.toList.drop (j+1)=rest:=by
   grind [dz]
  simp only[dn,cY];simp only[Pv] at h;split at h
  ·rename_i hor;exact⟨o,.raw undef,ho,⟨hH,.inr (.inl hor)⟩,Jh rest (j+1) _ rE (by omega) (by rw[LN];exact hH) h⟩
  ·split at h
   ·exact h.elim
   ·rename_i hw;exact⟨o,.raw undef,ho,⟨hH,.inr (.inr ⟨by omega,{val:= .raw undef},rfl,rfl,rfl,.inl ⟨hw,fun _=>cg⟩⟩)⟩,Jh rest (j+1) _ rE (by omega) (by rw[LN];exact hH) h⟩
   ·rename_i hw;obtain⟨hc,h⟩:=h;split at h
    ·rename_i e he;obtain⟨⟨hp,hu,hn⟩,h⟩:=h;exact⟨o,e.val,ho,⟨hH,.inr (.inr ⟨by omega,e,hu,hn,rfl,.inr (.inl ⟨hw,hc,e,he,hp,fun _=>cg⟩)⟩)⟩,Jh rest (j+1) _ rE (by omega) (by rw[LN];exact hH) h⟩
    ·exact h.elim
end region
def mM.then(next:jZ->Prop)(Q:mM->jZ->Prop):mM->jZ->Prop
 | .normal,σ=>next σ
 |e,σ=>Q e σ
def mM.inBlock(id:Nat)(Q:mM->jZ->Prop):mM->jZ->Prop
 | .exit id',σ=>if id'=id then Q .normal σ else Q (.exit id') σ
 |e,σ=>Q e σ
def mM.noGoto(Q:mM->jZ->Prop):mM->jZ->Prop
 | .goto _,_=>False
 |e,σ=>Q e σ
def ux.idle(e:ux):Bool:=e.rd.isEmpty&&e.up.isEmpty&&e.nw.isEmpty&& !e.whole
def IV(tr:List Tr)(j n:Nat)(e:ux):List Tr:=bif e.idle then tr else tr++[⟨j,n,e⟩]
def Q7(ops:Array Oper)(tr:List Tr)(j:Nat)(e:ux):Prop:=e.idle=true\/A4 ops tr j e=true
def Z0 (P:Program) (ops:Array Oper) (Q:mM->jZ->Prop):List Oper->Nat->List Tr->jZ->Prop
 |[],_,_,σ=>Q .normal σ
 |o::rest,j,tr,σ=>match pm ops o σ with
  |none=>False
  |some b=>(b=true->match mq σ o.op with
    |some (f,args)=>(∃r,IR P f args (fun v=>v=r)/\Z0 P ops Q rest (j+1) tr (σ.put o.dst r))\/
      (∃e,Jw P f args σ e/\Q7 ops tr j e/\Z0 P ops Q rest (j+1) (IV tr j σ.heap.length e) (σ.app o.dst e))\/
      ∃x H',ad2 P f args σ.heap x H'/\(ajM ops j=true\/(LO tr=true/\Pv P ops j rest (j+1) (σ.put o.dst (.raw undef))))/\Q (.panic x) {σ with slots:=Q6 ops σ.slots,heap:=H'}
    |none=>match k7 P σ o.op with
     |some e=>e.pre/\Q7 ops tr j e/\Z0 P ops Q rest (j+1) (IV tr j σ.heap.length e) (σ.app o.dst e)
     |none=>False)/\
   (b=false->Z0 P ops Q rest (j+1) tr (σ.put o.dst (.raw undef)))
def ar6(P:Program)(g:Operand)(ps:Array Tmp)(as body:Code)(Q:mM->jZ->Prop)(σ:jZ):Prop:=
 ∀(C:pX)(φ:Nat->Value)(a:Act)(w:World),C.P=P->mo C φ σ a w->(Code.rangeFunc g ps as body).wpIn (CK none) 0 P (QC C Q) a w
def vM:Code->Bool
 | .region _ ops _=>ops.toList.all fun o=> !aoN o.op
 | .seq x y=>vM x&&vM y
 | .cond _ x y=>vM x&&vM y
 | .block _ x=>vM x
 | .loop x=>vM x
 | .scope x=>vM x
 | .rangeFunc _ _ _ _=>false
 |_=>true
def awp(P:Program):Code->(mM->jZ->Prop)->jZ->Prop
 | .skip,Q,σ=>Q .normal σ
 | .region _ ops false,Q,σ=>Og P ops ops.toList Q σ
 | .region _ ops true,Q,σ=>(P.follows .mixedOrders=true/\Fq ops=true)/\Z0 P ops Q ops.toList 0 [] σ
 | .seq x y,Q,σ=>awp P x (mM.then (fun σ1=> ∃σ2,GF σ1 σ2/\awp P y Q σ2) Q) σ
 | .cond c x y,Q,σ=>match σ.ev c with
   | .bool b=>(b=true->awp P x Q σ)/\(b=false->awp P y Q σ)
   |_=>False
 | .block id x,Q,σ=>awp P x (mM.inBlock id Q) σ
 | .loop x,Q,σ=> ∃(I:Nat->jZ->Prop)(n:Nat)(σ':jZ),GF σ σ'/\I n σ'/\
     ∀n σ,I n σ->awp P x (mM.then (fun σ1=> ∃n' σ',n'<n/\GF σ1 σ'/\I n' σ') Q) σ
 | .exit id,Q,σ=>Q (.exit id) σ
 | .scope x,Q,σ=>awp P x (mM.noGoto Q) σ
 | .label _,Q,σ=>Q .normal σ
 | .ret,Q,σ=>Q .ret σ
 | .goto _,_,_=>False
 | .rangeFunc g ps as body,Q,σ=>ar6 P g ps as body Q σ
 | .refuse _,_,_=>False
theorem Z1{t:Tr}{e:ux}(h:e.idle=true):Ag t e=true:=by
 grind [ux.idle,Ag,FL]
theorem abg{t:Tr}{e:ux}(h:t.e.idle=true):Ag t e=true:=by
 grind [ux.idle,Ag,FL]
def acg{e:ux}(h:LO (IV tr j n e)=true):LO tr=true/\e.up=[]/\e.nw=[]:=by
 grind [IV,ux.idle,LO]
def avg(P:Program)(ops:Array Oper)(Q:mM->jZ->Prop)(j m:Nat)(tr:List Tr)(σ:jZ):Prop:=
 LO tr=true/\ ∃c x H',j<=c/\c<j+m/\amD P ops c σ.heap x H' (cH j m) σ/\Q (.panic x) {σ with slots:=Q6 ops σ.slots,heap:=H'}
theorem avg.step {tr':List Tr}(ho:ops[j]? =some o)(ht:LO tr'=true->LO tr=true/\ ∃e:ux,e.up=[]/\e.nw=[]/\e.val=v/\vL P ops o σ (fun e'=>e'=e))
 (h:avg P ops Q (j+1) m tr' (σ.put o.dst v)):avg P ops Q j (m+1) tr σ:=by
 obtain⟨h1,c,x,H',h2,h3,h4,h5⟩:=h;obtain⟨k1,k2⟩:=ht h1;refine⟨k1,c,x,H',by omega,by omega,?_,?_⟩
 ·rw[cY];rw[LN] at h4;exact⟨o,v,ho,⟨rfl,.inr (.inr ⟨by omega,k2⟩)⟩,h4⟩
 ·rw[ajN ho] at h5;cases hd:o.dst<;>rw[hd] at h5<;>exact h5
theorem ajO{e:ux}(hu:e.up=[])(hn:e.nw=[]):σ.app d e=σ.put d e.val:=by
 rw[show σ.app d e=σ.app d {val:=e.val,rd:=e.rd,pre:=e.pre} by simp [jZ.app,hu,hn]];exact GD _ _ _ _ _
def U8(P:Program)(ops:Array Oper)(Q:mM->jZ->Prop)(j n:Nat)(tr:List Tr)(σ:jZ):Prop:=
 ∃m K,Xq P ops K (cH j m) tr σ/\((m=n/\K=Q .normal)\/(m<n/\ajM ops (j+m)=true/\K=agW P ops (j+m) Q))
theorem U8.step{e:ux}(ho:ops[j]? =some o)(hst:vL P ops o σ (fun e'=>e'=e))(hc:A4 ops tr j e=true)
 (h:U8 P ops Q (j+1) n (tr++[⟨j,σ.heap.length,e⟩]) (σ.app o.dst e)):U8 P ops Q j (n+1) tr σ:=by
 obtain⟨m,K,h,hK⟩:=h;refine⟨m+1,K,?_,?_⟩
 ·rw[cY];exact⟨o,_,ho,hst,fun e' he=>by subst he;exact⟨hc,h⟩⟩
 grind
def EA{P:Program}{ops:Array Oper}{Q:mM->jZ->Prop}: ∀(rest:List Oper)(j:Nat)(tr tr':List Tr)(σ:jZ),ops.toList.drop j=rest->(∀t∈tr',t∈tr\/t.e.idle=true)->
 Z0 P ops Q rest j tr σ->U8 P ops Q j rest.length tr' σ\/avg P ops Q j rest.length tr σ
 |[],_,_,_,_,_,_,h=> .inl ⟨0,Q .normal,h,.inl ⟨rfl,rfl⟩⟩
 |o::rest,j,tr,tr',σ,hd,htr,h=>by
  have ho:ops[j]? =some o:=by
   have:=congrArg (fun l:List Oper=>l[0]?) hd;simpa using this
  have rE:ops.toList.drop (j+1)=rest:=by
   grind [dz]
  have aoQ: ∀e,Q7 ops tr j e->A4 ops tr' j e=true:=by
   intro e he;unfold A4;rw[List.all_eq_true];intro t ht;rcases he with he|he
   all_goals grind [Z1,A4,abg]
  have axT: ∀n e,∀t∈tr'++[⟨j,n,e⟩],t∈IV tr j n e\/t.e.idle=true:=by
   grind [IV]
  have aDp: ∀x:AV,({val:=x}:ux).idle=true:=fun _=>rfl
  have ar7: ∀n x,∀t∈tr'++[⟨j,n,{val:=x}⟩],t∈tr\/t.e.idle=true:=by
   grind
  simp only[Z0] at h;simp only[dn];split at h
  ·exact h.elim
  ·rename_i b hb;cases b with
   |false=>
    have hst:vL P ops o σ (fun e=>e={val:= .raw undef}):= .inl ⟨hb,fun _=>cg⟩;rcases EA rest (j+1) tr (tr'++[⟨j,σ.heap.length,{val:= .raw undef}⟩]) _ rE (ar7 _ _) (h.2 rfl) with hl|hr
    ·exact .inl (U8.step ho hst (aoQ _ (.inl rfl)) (by rw[GD];exact hl))
    ·exact .inr (hr.step ho fun ht=>⟨ht,_,rfl,rfl,rfl,hst⟩)
   |true=>
    have h:=h.1 rfl;split at h
    ·rename_i f args hc;rcases h with⟨r,hf,hK⟩|⟨e,hf,hcp,hK⟩|⟨x,H',hp,hsp|⟨ht,hri⟩,hQ⟩
     ·have hst:vL P ops o σ (fun e=>e={val:=r}):= .inr (.inr (.inl ⟨hb,f,args,_,hc,hf,⟨r,rfl⟩,fun e=>⟨fun he=>⟨r,rfl,he⟩,fun ⟨r',h1,h2⟩=>by rw[h2,h1]⟩⟩));rcases EA rest (j+1) tr (tr'++[⟨j,σ.heap.length,{val:=r}⟩]) _ rE (ar7 _ _) hK with hl|hr
      ·exact .inl (U8.step ho hst (aoQ _ (.inl rfl)) (by rw[GD];exact hl))
      ·exact .inr (hr.step ho fun ht=>⟨ht,_,rfl,rfl,rfl,hst⟩)
     ·have hst:vL P ops o σ (fun e'=>e'=e):= .inr (.inr (.inr ⟨hb,f,args,e,hc,hf,fun _=>cg⟩));rcases EA rest (j+1) _ (tr'++[⟨j,σ.heap.length,e⟩]) _ rE (axT _ _) hK with hl|hr
      ·grind [U8.step]
      ·right;have ht:=hr.1;obtain⟨t1,t2,t3⟩:=acg ht;rw[ajO t2 t3] at hr;exact hr.step ho fun _=>⟨t1,e,t2,t3,rfl,hst⟩
     ·exact .inl ⟨0,agW P ops j Q,(⟨o,f,args,x,H',ho,hb,hc,hp,hQ⟩:agW P ops j Q σ),.inr ⟨by omega,hsp,rfl⟩⟩
     ·right;refine⟨ht,j,x,H',cm _,by omega,?_,hQ⟩;rw[cY];refine⟨o,.raw undef,ho,⟨rfl,.inl ⟨rfl,hb,f,args,hc,hp⟩⟩,?_⟩
      grind [Jh,LN]
    ·rename_i hc;split at h
     ·rename_i e he;have hst:vL P ops o σ (fun e'=>e'=e):= .inr (.inl ⟨hb,hc,e,he,h.1,fun _=>cg⟩);rcases EA rest (j+1) _ (tr'++[⟨j,σ.heap.length,e⟩]) _ rE (axT _ _) h.2.2 with hl|hr
      ·grind [U8.step]
      ·right;have ht:=hr.1;obtain⟨t1,t2,t3⟩:=acg ht;rw[ajO t2 t3] at hr;exact hr.step ho fun _=>⟨t1,e,t2,t3,rfl,hst⟩
     ·exact h.elim
section sound
variable {C:pX}
def aoR{next:jZ->Prop}{axU:Act->World->Prop}(h: ∀φ σ a w,mo C φ σ a w->next σ->axU a w){e:Exit}
 (hq:QC C (mM.then next Q) e a w):Exit.then axU (QC C Q) e a w:=by
 cases e with
 |normal=>obtain⟨φ,σ,S,hn⟩:=hq;exact h φ σ a w S hn
 |exit id=>exact hq
 |goto l=>exact hq
 |ret=>exact hq
 |panic chain=>exact hq
 |outgrown=>exact hq
def amG{id:Nat}{e:Exit}(hq:QC C (mM.inBlock id Q) e a w):Exit.inBlock id (QC C Q) e a w:=by
 cases e with
 |exit id'=>
  obtain⟨φ,σ,S,h⟩:=hq;simp only[mM.inBlock] at h;simp only[Exit.inBlock];split at h
  ·rename_i e;rw[if_pos e];exact⟨φ,σ,S,h⟩
  ·rename_i e;rw[if_neg e];exact⟨φ,σ,S,h⟩
 |normal=>exact hq
 |goto l=>exact hq
 |ret=>exact hq
 |panic chain=>exact hq
 |outgrown=>exact hq
def ap5{e:Exit}(hq:QC C (mM.noGoto Q) e a w):Exit.noGoto (QC C Q) e a w:=by
 cases e with
 |goto l=>obtain⟨φ,σ,S,h⟩:=hq;exact h.elim
 |normal=>exact hq
 |exit id=>exact hq
 |ret=>exact hq
 |panic chain=>exact hq
 |outgrown=>exact hq
def ahY{Q:Exit->Act->World->Prop}(I:Nat->Act->World->Prop)(n₀:Nat)(h₀:I n₀ a w)
 (round: ∀m a w,I m a w->c.wpIn F n P (Exit.then (fun a' w'=> ∃m',m'<m/\I m' a' w') Q) a w):(Code.loop c).wpIn F n P Q a w:=by
 refine wpIn_loop (fun a w=> ∃m,I m a w) (fun a w=>leastOf (fun m=>I m a w)) ⟨n₀,h₀⟩ ?_;intro a w hI;refine wpIn_mono (round _ a w (leastOf_spec hI).1) ?_;intro e a' w' hq;cases e with
 |normal=>
  obtain⟨m',hlt,hI'⟩:=hq;exact⟨⟨m',hI'⟩,Nat.lt_of_le_of_lt ((leastOf_spec ⟨m',hI'⟩).2 m' hI') hlt⟩
 |exit id=>exact hq
 |goto l=>exact hq
 |ret=>exact hq
 |panic chain=>exact hq
 |outgrown=>exact hq
def FN{b:Frame}:step P (lone (b.atR a (.code (.scope c)::k)) cs w)= .next (lone (b.atR a (.code c:: .inScope c::k)) cs w):=
 step_lone_go (by simp [stepG,stepG.exec,Frame.atR])
def afM{b:Frame}:step P (lone (b.atR a (.inScope c::k)) cs w)= .next (lone (b.atR a k) cs w):=
 step_lone_go (by simp [stepG,stepG.exec,Frame.atR])
def abh{Q:Exit->Act->World->Prop}(h:c.wpIn F n P (Exit.noGoto Q) a w):(Code.scope c).wpIn F n P Q a w:=by
 intro b k cs hro hb hr;have h0:(lone (b.atR a (.code (.scope c)::k)) cs w).fenced P F:=fenced_calm (fr:=b.atR a (.code (.scope c)::k)) hb hr rfl;obtain⟨e,a₁,w₁,hq,afN⟩:=h b (.inScope c::k) cs hro hb hr;cases e with
 |normal=>exact⟨.normal,a₁,w₁,hq,.head h0 FN (StepsIn.trans afN (.one (fenced_calm (fr:=b.atR a₁ (.inScope c::k)) hb hr rfl) afM))⟩
 |exit id=>
  have hx:exitTo id (.inScope c::k)=exitTo id k:=by simp [exitTo]
  exact⟨.exit id,a₁,w₁,hq,fun k' hk=> .head h0 FN (afN.1 k' (by rw[hx];exact hk)),
   fun hr' hk=>let ⟨k₁,h1,h2⟩:=afN.2 hr' (by rw[hx];exact hk);⟨k₁,h1,.head h0 FN h2⟩⟩
 |goto l=>exact hq.elim
 |ret=>exact⟨.ret,a₁,w₁,hq,.of_steps (.one h0 FN) afN⟩
 |panic ch=>exact⟨_,a₁,w₁,hq,.of_steps (.one h0 FN) afN⟩
 |outgrown=>exact⟨_,a₁,w₁,hq,.of_steps (.one h0 FN) afN⟩
def vN{ro:Option Nat}: ∀(c:Code)(Q:mM->jZ->Prop)(φ:Nat->Value)(σ:jZ)(a:Act)(w:World),(ro=none\/vM c=true)->awp C.P c Q σ->mo C φ σ a w->c.wpIn (CK ro) 0 C.P (QC C Q) a w
 | .skip,Q,φ,σ,a,w,_,h,S=>wpIn_skip ⟨φ,σ,S,h⟩
 | .region id ops false,Q,φ,σ,a,w,hn,h,S=>by
   have:=ZQ (ro:=ro) rfl ops.toList 0 hn (by simp) φ σ a w h S
   grind [wpIn_region,cx]
 | .region id ops true,Q,φ,σ,a,w,_,h,S=>by
   obtain⟨⟨hm,hok⟩,h⟩:=h;rcases EA ops.toList 0 [] [] σ (by simp) (by simp) h with⟨m,K,this,⟨hm',rfl⟩|⟨hm',hsp,rfl⟩⟩|⟨_,c,x,H',_,hc,hI,hQ⟩
   ·refine amC hm hok ?_ S
    grind [cx]
   ·rw[Nat.zero_add] at this hsp;exact amF hm hok (by simpa using hm') hsp (by rw[cx];exact this) S
   ·refine amE (c:=c) (x:=x) (H':=H') hm hok (by simpa using hc) ?_ hQ S
    grind [cx]
 | .seq x y,Q,φ,σ,a,w,hn,h,S=>
   wpIn_seq (wpIn_mono (vN x _ φ σ a w (hn.imp id fun h=>(cj _ _ ▸ h:vM x=true/\vM y=true).1) h S) fun _ _ _ hq=>aoR (fun φ' σ' a' w' S' h'=>by
    obtain⟨σ2,Ei,h2⟩:=h';obtain⟨φ2,S2⟩:=Ei C φ' a' w' S';exact vN y Q φ2 σ2 a' w' (hn.imp id fun h=>(cj _ _ ▸ h:vM x=true/\vM y=true).2) h2 S2) hq)
 | .cond c x y,Q,φ,σ,a,w,hn,h,S=>by
   simp only[awp] at h;have hc:=S.ev c;split at h
   ·rename_i b hb;rw[hb] at hc;simp only[n8] at hc;refine wpIn_cond hc ?_;cases b with
    |true=>exact vN x Q φ σ a w (hn.imp id fun h=>(cj _ _ ▸ h:vM x=true/\vM y=true).1) (h.1 rfl) S
    |false=>exact vN y Q φ σ a w (hn.imp id fun h=>(cj _ _ ▸ h:vM x=true/\vM y=true).2) (h.2 rfl) S
   ·exact h.elim
 | .block id x,Q,φ,σ,a,w,hn,h,S=>wpIn_block (wpIn_mono (vN x _ φ σ a w hn h S) fun _ _ _ hq=>amG hq)
 | .loop x,Q,φ,σ,a,w,hn,h,S=>by
   obtain⟨I,n,σ',Ei,hI,ayq⟩:=h;obtain⟨φ',S'⟩:=Ei C φ a w S;refine ahY (fun n a w=> ∃φ σ,I n σ/\mo C φ σ a w) n ⟨φ',σ',hI,S'⟩ ?_;rintro n a w ⟨φ,σ,hI,S⟩;refine wpIn_mono (vN x _ φ σ a w hn (ayq n σ hI) S) fun _ _ _ hq=>aoR ?_ hq
   rintro φ1 σ1 a1 w1 S1 ⟨n',σ2,hlt,Ei,hI'⟩;obtain⟨φ2,S2⟩:=Ei C φ1 a1 w1 S1
   grind
 | .exit id,Q,φ,σ,a,w,_,h,S=>wpIn_exit ⟨φ,σ,S,h⟩
 | .scope x,Q,φ,σ,a,w,hn,h,S=>abh (wpIn_mono (vN x _ φ σ a w hn h S) fun _ _ _ hq=>ap5 hq)
 | .label l,Q,φ,σ,a,w,_,h,S=>wpIn_label ⟨φ,σ,S,h⟩
 | .ret,Q,φ,σ,a,w,_,h,S=>wpIn_ret ⟨φ,σ,S,h⟩
 | .goto l,Q,φ,σ,a,w,_,h,S=>h.elim
 | .rangeFunc f p x y,Q,φ,σ,a,w,hn,h,S=>by
   rcases hn with rfl|hn
   ·exact h C φ a w rfl S
   ·cases hn
 | .refuse s,Q,φ,σ,a,w,_,h,S=>h.elim
def mo.Z2{ds:List Deferred}(S:mo C φ σ {tmps,defers:=⟨.collected D,#[]⟩::ds} w):
 w.heap[D]? =some (.deferred (some []))/\mo C φ σ {tmps,defers:=ds} (w.putObj D (.deferred none)):=by
 obtain⟨hnd,hall,hrd⟩:=S.defers;have hmk:ZI (⟨.collected D,#[]⟩:Deferred)=true:=rfl;simp only[dr,hmk,jU,Bool.not_true,di,if_false] at hnd hrd;obtain⟨D',hD,h1,h2,h3⟩:=hall _ (cO) rfl;simp only[Deferred.mk.injEq,Target.collected.injEq,and_true] at hD;subst hD;refine⟨h1,?_⟩;have Fp: ∀b,b≠D->(w.putObj D (.deferred none)).heap[b]? =w.heap[b]? :=fun b hb=>World.putObj_heap_other hb
 have hcell: ∀b o,(w.putObj D (.deferred none)).cell? ⟨b,o,none⟩=w.cell? ⟨b,o,none⟩:=by
  grind [World.cell?,World.putObj_heap_same]
 have le:(C.env φ σ.heap w).Le σ.heap.length (C.env φ σ.heap (w.putObj D (.deferred none))):=
  pX.A1 (cm _) (fun _ _=>⟨rfl,rfl⟩) (fun b o u hm hc=>⟨hm,by rw[hcell];exact hc⟩)
 have A2:qT C φ σ.heap (w.putObj D (.deferred none)) σ.df ds:=by
  rw[dx] at hnd;refine⟨hnd.2,fun d hd hm=> ?_,hrd.mono le⟩
  grind
 refine {slots:=kC.mono le _ _ (kC.nb _ _ S.slots) S.slots,defers:=A2,nN:= ?_,apart:=S.apart,sE:=S.sE,size:=by grind [World.putObj_size],old:=fun b o hb hm=>by rw[hcell];exact S.old b o hb hm,nj:= ?_,B8:=S.B8,u1:= ?_,rest:=S.rest,low:=S.low,names:=S.names}
 ·intro l x hx;exact nG.mono (S.nN l x hx) le (fun b hb=>Fp b (fun e=>by subst e;exact h3 l x hx hb))
 ·intro b hb hm;rw[Fp b (by omega)];exact S.nj b hb hm
 ·intro x hx;rw[<-S.u1 x hx]
  grind [World.frozen?]
def mo.marks{fn:Func}{R:Ending->World->Prop}{tm:Array Value}(hu:u≠ .run)(Ug:σ.df=[]): ∀(ds:List Deferred)(w:World),mo C φ σ {tmps,defers:=ds} w->
 (∀w',mo C φ σ {tmps,defers:=[]} w'->LeavesIn ct 0 C.P fn tm R [] u w')->LeavesInM ct 0 C.P fn tm R ds u w
 |[],w,S,h=>h w S
 |d::ds,w,S,h=>by
  have hm:ZI d=true:=by
   have:=S.defers.2.2;rw[Ug] at this;have amH:(d::ds).filter (fun d=> !ZI d)=[]:=this;rw[List.filter_eq_nil_iff] at amH;simpa using amH d (cO)
  obtain⟨D,hD,_⟩:=S.defers.2.1 d (cO) hm;subst hD;obtain⟨h1,S'⟩:=S.Z2;exact⟨hu,.inl ⟨D,_,rfl,run_takeDeferred h1,mo.marks hu Ug ds _ S' h⟩⟩
end sound
def ad4 (P:Program) (σ:jZ):ResultVar->Option AV
 | .tmp t=>some (σ.slots.getD t .any)
 | .cell d t=>match pd P t,σ.slots.getD d .any with
   |some (g,n),.ptr l off=>match σ.heap[l]? with
    |some (.cells cs)=>l9 g n (cs.drop off)
    |_=>none
   |_,_=>none
def yz(P:Program)(σ:jZ):List ResultVar->Option (List AV)
 |[]=>some []
 |r::rs=>match ad4 P σ r,yz P σ rs with
  |some x,some xs=>some (x::xs)
  |_,_=>none
def KJ(P:Program)(σ:jZ)(rs:List ResultVar):Option AV:=
 match yz P σ rs with
 |some [x]=>some x
 |some xs=>some (.FI xs)
 |none=>none
section results
variable {C:pX}
def ahZ(S:mo C φ σ a w){r:ResultVar}(h:ad4 C.P σ r=some x):
 ∃v,(match r with| .tmp t=>pure (a.tmps.getD t undef)| .cell d t=>(do loadVar t (<-asAddr (a.tmps.getD d undef))):Sem Value).run C.P w= .ok v w/\n8 (C.env φ σ.heap w) x v:=by
 cases r with
 |tmp t=>
  simp only[ad4,cc] at h;subst h;exact⟨_,rfl,S.ev (.tmp t)⟩
 |cell d t=>
  simp only[ad4] at h;have hd:=S.ev (.tmp d);simp only[jZ.ev] at hd;split at h
  ·rename_i g n l off ht hp;rw[hp] at hd;split at h
   ·rename_i cs hl;obtain⟨u,hu,ru⟩:=ajw S ht hl h hd;obtain⟨_,b,_,hv⟩:=hd;refine⟨u,?_,ru⟩;have hv':a.tmps.getD d undef= .pointer (some ⟨b,off,none⟩):=hv
    grind [asAddr,Instr.loadAt,Instr.sureAddr]
   ·cases h
  ·cases h
def Yb(S:mo C φ σ a w): ∀{rs:List ResultVar}{xs:List AV},yz C.P σ rs=some xs->
 ∃vs:List Value,(rs.mapM fun| .tmp t=>pure (a.tmps.getD t undef)| .cell d t=>(do loadVar t (<-asAddr (a.tmps.getD d undef))):Sem (List Value)).run C.P w= .ok vs w/\kC (C.env φ σ.heap w) xs vs
 |[],_,h=>by simp only[yz,cc] at h;subst h;exact⟨[],rfl,rfl⟩
 |r::rs,xs,h=>by
  simp only[yz] at h;split at h
  ·rename_i x ys h1 h2;cases h;obtain⟨v,hv,rv⟩:=ahZ S h1;obtain⟨vs,hvs,rvs⟩:=Yb S h2;refine⟨v::vs,?_,v,vs,rfl,rv,rvs⟩
   simp_all
  ·cases h
def Jy(S:mo C φ σ a w){fn:Func}(h:KJ C.P σ fn.results.toList=some x): ∃v,(results fn a.tmps).run C.P w= .ok v w/\n8 (C.env φ σ.heap w) x v:=by
 unfold KJ at h
 have key: ∀xs,yz C.P σ fn.results.toList=some xs-> ∃vs:List Value,(results fn a.tmps).run C.P w= .ok (if hh:vs.toArray.size=1 then vs.toArray[0] else .tuple vs.toArray) w/\kC (C.env φ σ.heap w) xs vs:=by
  intro xs hx;obtain⟨vs,hvs,rvs⟩:=Yb S hx;refine⟨vs,?_,rvs⟩;unfold results;rw[Array.mapM_eq_mapM_toList];simp only[Sem.run_bind,Sem.run_map,Sem.run_pure];generalize hq:Sem.run C.P (List.mapM _ fn.results.toList) w=q;have hq':q= .ok vs w:=by rw[<-hq];exact hvs
  subst hq';simp
 split at h
 ·grind [kC]
 ·rename_i xs hne hx;cases h;obtain⟨vs,hv,rl⟩:=key _ hx;refine⟨_,hv,?_⟩;have hlen:=rl.length
  have hn1: ¬ vs.toArray.size=1:=by
   intro h1;have h2:xs.length=1:=by simp at h1;omega
   match xs,h2 with
   |[y],_=>exact hne y rfl
  rw[dif_neg hn1];exact⟨vs.toArray,rfl,rl⟩
 ·cases h
end results
def adt{V:AV->Prop}(h:IR P f args' V)(hs:qv args args')(hn:vK 0 args):IR P f args V:=by
 obtain⟨he,_,hc⟩:=h;exact⟨he,hn,fun C φ w hP h0 hN hM vs hr=>hc C φ w hP h0 hN hM vs (hs _ _ hr)⟩
def ap6(V:AV->Prop)(H:List kq):Option AV->Prop
 |some x=>(frz 0 H x).nb 0/\ ∃r,Sub (frz 0 H x) r/\V r
 |none=>False
def avh(P:Program)(rs:List ResultVar)(V:AV->Prop):mM->jZ->Prop
 | .normal,σ=>σ.df=[]/\ap6 V σ.heap (KJ P σ rs)
 | .ret,σ=>σ.df=[]/\ap6 V σ.heap (KJ P σ rs)
 |_,_=>False
def ajP{fn:Func}{V:AV->Prop}(hf:P.funcs[f]? =some fn)(hb:fn.body=some c)(hne:(fn.name != "runtime.NumGoroutine")=true)(hnb:vK 0 args)
 (h:awp P c (avh P fn.results.toList V) {slots:=args++cq (fn.ntmps-args.length) .any,heap:=[]}):IR P f args V:=by
 refine⟨?_,hnb,fun C φ w hP h0 hN hM vs hr=> ?_⟩
 ·grind [enters]
 ·subst hP;refine(callsIn_wide (n:=0)).1 (callsIn_of_wp_marks hf hb trivial ?_);have hsz:vs.size=args.length:=by have:=hr.length;simpa using this
  have S:mo C φ {slots:=args++cq (fn.ntmps-args.length) .any,heap:=[]} {tmps:=vs++cn (fn.ntmps-vs.size) undef,defers:=[]} w:=by
   refine {slots:= ?_,defers:=qT.nil,nN:=by simp,apart:=by simp,sE:=by simp,size:=by rw[h0];exact cm _,old:=fun b o _ _=>by rw[h0],nj:=fun b _ _=>by rw[h0],B8:=by simp,u1:=fun x _=>by rw[h0],rest:=by rw[h0];exact⟨rfl,rfl⟩,low:=⟨hN,cm _⟩,names:=fun l hl=>by grind};simp only[cT,cW];refine hr.append ?_;rw[hsz];have:=kC.B4 (E:=C.env φ [] w) (cq (fn.ntmps-args.length) undef);simpa using this
  refine wpIn_mono (vN (ro:=none) c _ φ _ _ w (.inl rfl) h S) ?_;intro e a' w' hq
  have fin: ∀φ' σ',mo C φ' σ' a' w'->σ'.df=[]/\ap6 V σ'.heap (KJ C.P σ' fn.results.toList)->
   LeavesInM ct 0 C.P fn a'.tmps (fun e w'=> ∃r v φ',V r/\e= .returned v/\n8 (C.env φ' [] w') r v/\w.heap.size<=w'.heap.size/\(∀b,b<w.heap.size->w'.heap[b]? =w.heap[b]?)/\
    (∀x,x.block<w.heap.size->w'.frozen? x=w.frozen? x)/\w'.output=w.output/\w'.os=w.os) a'.defers .returning w':=by
   intro φ' σ' S' ⟨Ug,hend⟩;refine mo.marks (by simp) Ug _ _ S' (fun w' S'=> ?_);cases hx:KJ C.P σ' fn.results.toList with
   |none=>rw[hx] at hend;exact hend.elim
   |some x=>
   rw[hx] at hend;obtain⟨hn,r0,hsub,hV⟩:=hend;obtain⟨v,hv,rv⟩:=Jy S' hx;refine⟨v,hv,_,v,φ',hV,rfl,hsub _ _ (by have:=abd S' (S'.axQ (by rw[<-S'.low.1];exact hN)) x v;rw[<-S'.low.1,hN] at this;exact this hn rv),?_,?_,?_,?_⟩
   ·rw[<-h0];exact S'.size
   ·intro b hb;rw[<-h0];exact S'.nj b (by rw[h0];exact hb) (fun o=>hM b o)
   ·intro y hy;rw[<-h0];exact S'.u1 y (by rw[h0];exact hy)
   ·rw[<-h0];exact S'.rest
  cases e with
  |normal=>obtain⟨φ',σ',S',hq⟩:=hq;exact fin φ' σ' S' hq
  |ret=>obtain⟨φ',σ',S',hq⟩:=hq;exact fin φ' σ' S' hq
  |exit id=>obtain⟨_,_,_,hq⟩:=hq;exact hq.elim
  |goto l=>obtain⟨_,_,_,hq⟩:=hq;exact hq.elim
  |panic chain=>obtain⟨_,_,_,_,_,hq,_⟩:=hq;exact hq.elim
  |outgrown=>exact hq.elim
section co

def Co1.sub {y:AV}(h:Sub x y)(hn:y.nb n):Co1 H n x y:= .inl ⟨h,hn⟩
def Co.any:Co H n x .any:= .inl (.inl ⟨Sub.any _,trivial⟩)
def Co.same(h:x.nb n):Co H n x x:= .inl (.inl ⟨Sub.refl _,h⟩)
def Co.sub {y:AV}(h:Sub x y)(hn:y.nb n):Co H n x y:= .inl (.inl ⟨h,hn⟩)
theorem B9.nil:B9 H n [] []:=rfl
theorem B9.cons{x y:AV}{xs ys:List AV}(h:Co H n x y)(hs:B9 H n xs ys):B9 H n (x::xs) (y::ys):=⟨y,ys,rfl,h,hs⟩
theorem CoH.nil{xs:List kq}:CoH H n xs []:=by cases xs<;>trivial
def B9.same(h:vK n xs):B9 H n xs xs:=by
 induction xs with
 |nil=>rfl
 |cons x xs ih=>exact B9.cons (Co.same h.1) (ih h.2)
end co
def Z3{X:AV}(h:IR P f args' (fun r=>r=X))(hs:B9 σ.heap n args args'):zD P f args σ (fun o H=>o= .ret X/\H=σ.heap):=by
 obtain⟨he,hc⟩:=ZR (σ:=σ) (K:=fun o H=>o= .ret X/\H=σ.heap) h (fun r hr=>⟨by rw[hr],rfl⟩);exact⟨he,fun C φ a w hP S vs hr=>hc C φ a w hP S vs (B9.aCw S hs hr)⟩
def stP:Option Code->LoopState
 |none=> .ready
 |some _=> .done
theorem ah0(c:Option Code):stP c≠ .busy:=by cases c<;>simp [stP]
section
variable {C:pX}
def mo.ar8(S:mo C φ σ a w)(k:wy)(rec:Loop)(hs:kC (C.env φ σ.heap w) slots rec.tmps.toList)
 (Uf:rec.params=k.ps/\rec.assign=k.assign/\rec.body=k.body/\rec.state= .ready/\rec.pending=none/\rec.defers=w.heap.size):
 mo C (fun l=>if l=σ.heap.length then .func (.yield (w.heap.size+1)) #[] #[] else φ l) {σ with heap:=σ.heap++[.loop k slots .ready 0]} a ((w.alloc (.deferred (some []))).alloc (.loop rec)):=by
 let φ':Nat->Value:=fun l=>if l=σ.heap.length then .func (.yield (w.heap.size+1)) #[] #[] else φ l
 let w':=(w.alloc (.deferred (some []))).alloc (.loop rec)
 have hφ: ∀l,l<σ.heap.length->φ' l=φ l:=fun l hl=>by grind
 have hφn:φ' σ.heap.length= .func (.yield (w.heap.size+1)) #[] #[]:=by simp [φ']
 have hsz:w'.heap.size=w.heap.size+2:=by
  show(World.more (World.more w _) _).heap.size=_;rw[Lz,Lz]
 have hold: ∀b,b<w.heap.size->w'.heap[b]? =w.heap[b]? :=by
  intro b hb;show(World.more (World.more w _) _).heap[b]? =_
  grind [xo]
 have hD:w'.heap[w.heap.size]? =some (.deferred (some [])):=by
  show(World.more (World.more w _) _).heap[_]? =_
  grind [World.more]
 have hL:w'.heap[w.heap.size+1]? =some (.loop rec):=by
  have:=GC (World.more w (.deferred (some []))) (.loop rec);rw[Lz] at this;exact this
 have nr: ∀(l:Nat)(x:kq),(σ.heap++[.loop k slots .ready 0])[l]? =some x->(l<σ.heap.length/\σ.heap[l]? =some x)\/(l=σ.heap.length/\x= .loop k slots .ready 0):=by
  grind
 have hcell: ∀b o,b<w.heap.size->w'.cell? ⟨b,o,none⟩=w.cell? ⟨b,o,none⟩:=by
  grind [World.cell?]
 have hnb: ∀b,(kq.loop k slots .ready 0).block (φ' σ.heap.length) b->w.heap.size<=b:=by
  intro b hb;rw[hφn] at hb;rcases hb with rfl|hb<;>omega
 have Km: ∀b o,Eh φ' (σ.heap++[.loop k slots .ready 0]) b o->w.heap.size<=b\/Eh φ σ.heap b o:=by
  rintro b o ⟨l,x,hx,hm⟩;rcases nr l x hx with⟨hl,hx⟩|⟨rfl,rfl⟩
  ·rw[hφ l hl] at hm;exact .inr ⟨l,x,hx,hm⟩
  grind [kq.nC]
 have le:(C.env φ σ.heap w).Le σ.heap.length (C.env φ' (σ.heap++[.loop k slots .ready 0]) w'):=by
  refine pX.A1 (by simp) (fun l hl=>⟨hφ l hl,by rw[cG hl]⟩) (fun b i u hm hc=> ?_)
  grind [E9]
 have A2:qT C φ' (σ.heap++[.loop k slots .ready 0]) w' σ.df a.defers:=by
  refine S.defers.step le (fun b hb _=>hold b hb) (fun l x b hx hb=> ?_)
  grind
 refine {slots:=kC.mono le _ _ (kC.nb _ _ S.slots) S.slots,defers:=A2,nN:= ?_,apart:= ?_,sE:= ?_,size:=by show _<=w'.heap.size;have:=S.size;omega,old:= ?_,nj:= ?_,B8:= ?_,u1:= ?_,rest:=S.rest,low:=⟨S.low.1,by have:=S.low.2;simp;omega⟩,names:= ?_}
 ·intro l x hx;show nG _ x (φ' l);rcases nr l x hx with⟨hl,hx⟩|⟨rfl,rfl⟩
  ·have r0:=S.nN l x hx;rw[hφ l hl];exact nG.mono r0 le (fun b hb=>hold b (r0.p4 hb))
  ·rw[hφn];exact⟨w.heap.size,rec,rfl,hL,hD,Uf,kC.mono le _ _ (kC.nb _ _ hs) hs⟩
 ·intro l l' x x' b hx hx' hb hb';have hb:x.block (φ' l) b:=hb;have hb':x'.block (φ' l') b:=hb';rcases nr l x hx with⟨hl,hx⟩|⟨rfl,rfl⟩<;>rcases nr l' x' hx' with⟨QT,hx'⟩|⟨rfl,rfl⟩
  ·rw[hφ l hl] at hb;rw[hφ l' QT] at hb';exact S.apart l l' x x' b hx hx' hb hb'
  ·rw[hφ l hl] at hb;have h1:=(S.nN l x hx).p4 hb
   grind [pX.env]
  ·rw[hφ l' QT] at hb';have h1:=(S.nN l' x' hx').p4 hb'
   grind [pX.env]
  ·rfl
 ·intro l x b o hx hb;have hb:x.block (φ' l) b:=hb;rcases nr l x hx with⟨hl,hx⟩|⟨rfl,rfl⟩
  ·rw[hφ l hl] at hb;exact S.sE l x b o hx hb
  ·intro hA;have h1:=C.hA _ _ hA;have h2:=hnb b hb;have:=S.size;omega
 ·intro b i hb hm;rw[hcell b i (cf hb S.size)];exact S.old b i hb hm
 ·intro b hb hm;rw[hold b (cf hb S.size)];exact S.nj b hb hm
 ·intro l x b o hx hm hb;have hm:x.yy (φ' l) b o:=hm;rcases nr l x hx with⟨hl,hx⟩|⟨rfl,rfl⟩
  ·rw[hφ l hl] at hm;exact S.B8 l x b o hx hm hb
  ·have h2:=hnb b (kq.nC hm);have:=S.size;omega
 ·intro x hx;have h1:=uu (World.more w (.deferred (some []))) (.loop rec) (by intro c t lo hi h;cases h) x;have h2:=uu w (.deferred (some [])) (by intro c t lo hi h;cases h) x;exact(h1.trans h2).trans (S.u1 x hx)
 ·intro l hl;have hlt:l<σ.heap.length:=by have:=S.low;omega
  have:=S.names l hl
  grind
def mo.ah1(S:mo C φ σ a w){k:wy}{st st':LoopState}{Jz:Int}{rec:Loop}(hl:σ.heap[l]? =some (.loop k slots st rQ))(hφ:φ l= .func (.yield (D+1)) #[] #[])
 (hw:w.heap[D+1]? =some (.loop rec)):mo C φ {σ with heap:=σ.heap.set l (.loop k slots st' Jz)} a (w.putObj (D+1) (.loop {rec with state:=st',pending:=pG k.js Jz})):=by
 have hlt:l<σ.heap.length:=(b9.1 hl).1;have arR:=(dj.1 hw).1
 have nr: ∀(j:Nat)(x:kq),(σ.heap.set l (.loop k slots st' Jz))[j]? =some x->(j=l/\x= .loop k slots st' Jz)\/(j≠l/\σ.heap[j]? =some x):=by
  grind
 have hbb:(kq.loop k slots st rQ).block (φ l) (D+1):=by rw[hφ];exact .inl rfl
 have hmb: ∀o,(kq.loop k slots st rQ).yy (φ l) (D+1) o:=by intro o;rw[hφ];exact .inl rfl
 have Fp: ∀b,b≠D+1->(w.putObj (D+1) (.loop {rec with state:=st',pending:=pG k.js Jz})).heap[b]? =w.heap[b]? :=fun b hb=>World.putObj_heap_other hb
 have hcell: ∀b o,(w.putObj (D+1) (.loop {rec with state:=st',pending:=pG k.js Jz})).cell? ⟨b,o,none⟩=w.cell? ⟨b,o,none⟩:=by
  grind [World.cell?,World.putObj_heap_same]
 have IM: ∀b,(kq.loop k slots st' Jz).block (φ l) b->(kq.loop k slots st rQ).block (φ l) b:=by intro b hb;rw[hφ] at hb ⊢;exact hb
 have ajv: ∀b o,(kq.loop k slots st' Jz).yy (φ l) b o->(kq.loop k slots st rQ).yy (φ l) b o:=by intro b o hb;rw[hφ] at hb ⊢;exact hb
 have Km: ∀b o,Eh φ (σ.heap.set l (.loop k slots st' Jz)) b o->Eh φ σ.heap b o:=by
  rintro b o ⟨j,x,hx,hm⟩;rcases nr j x hx with⟨rfl,rfl⟩|⟨_,hx⟩
  ·exact⟨j,_,hl,ajv b o hm⟩
  ·exact⟨j,x,hx,hm⟩
 have hlen: ∀j:Nat,lT (σ.heap.set l (.loop k slots st' Jz))[j]? =lT σ.heap[j]? :=by
  intro j;by_cases e:j=l
  ·subst e;rw[dy hlt,hl];rfl
  grind
 have le:(C.env φ σ.heap w).Le σ.heap.length (C.env φ (σ.heap.set l (.loop k slots st' Jz)) (w.putObj (D+1) (.loop {rec with state:=st',pending:=pG k.js Jz}))):=
  pX.A1 (by simp) (fun j _=>⟨rfl,hlen j⟩) (fun b o u hm hc=>⟨fun h=>hm (h.imp (Km b o) id),by rw[hcell];exact hc⟩)
 have A2:qT C φ (σ.heap.set l (.loop k slots st' Jz)) (w.putObj (D+1) (.loop {rec with state:=st',pending:=pG k.js Jz})) σ.df a.defers:=by
  refine S.defers.step le (fun b _ hno=>Fp b (fun e=>by subst e;exact hno l _ hl hbb)) (fun j x b hx hb=> ?_)
  grind
 refine {slots:=kC.mono le _ _ (kC.nb _ _ S.slots) S.slots,defers:=A2,nN:= ?_,apart:= ?_,sE:= ?_,size:=by rw[World.putObj_size];exact S.size,old:=fun b o hb hm=>by rw[hcell];exact S.old b o hb hm,nj:= ?_,B8:= ?_,u1:= ?_,rest:=S.rest,low:=⟨S.low.1,by simpa using S.low.2⟩,names:= ?_}
 ·intro j x hx;rcases nr j x hx with⟨rfl,rfl⟩|⟨hne,hx⟩
  ·obtain⟨D',U9,e1,g1,g2,g3,rl⟩:=S.nN j _ hl;rw[hφ] at e1;simp only[cZ,Fn.yield.injEq,cJ,and_true] at e1;subst e1
   have hwr:U9=rec:=by
    have g1:w.heap[D+1]? =some (.loop U9):=g1;rw[hw] at g1;cases g1;rfl
   subst hwr;refine⟨D,_,hφ,World.putObj_heap_same arR,?_,⟨g3.1,g3.2.1,g3.2.2.1,rfl,rfl,g3.2.2.2.2.2⟩,kC.mono le _ _ (kC.nb _ _ rl) rl⟩;show(w.putObj (D+1) _).heap[D]? =_;rw[Fp D (by omega)];exact g2
  ·exact nG.mono (S.nN j x hx) le (fun b hb=>Fp b (fun e=>by subst e;exact hne (S.apart j l x _ (D+1) hx hl hb hbb)))
 ·intro j j' x x' b hx hx' hb hb';rcases nr j x hx with⟨rfl,rfl⟩|⟨hne,hx1⟩<;>rcases nr j' x' hx' with⟨e2,rfl⟩|⟨amr,Pm⟩
  ·exact e2.symm
  ·exact S.apart j j' _ x' b hl Pm (IM b hb) hb'
  ·rw[e2] at hb' ⊢;exact S.apart j l x _ b hx1 hl hb (IM b hb')
  ·exact S.apart j j' x x' b hx1 Pm hb hb'
 ·intro j x b o hx hb;rcases nr j x hx with⟨rfl,rfl⟩|⟨_,hx⟩
  ·exact S.sE j _ b o hl (IM b hb)
  ·exact S.sE j x b o hx hb
 ·intro b hb hm;rw[Fp b (fun e=>by subst e;exact hm 0 (S.B8 l _ (D+1) 0 hl (hmb 0) hb))];exact S.nj b hb hm
 ·intro j x b o hx hm hb;rcases nr j x hx with⟨rfl,rfl⟩|⟨_,hx⟩
  ·exact S.B8 j _ b o hl (ajv b o hm) hb
  ·exact S.B8 j x b o hx hm hb
 ·intro x hx;rw[<-S.u1 x hx]
  grind [World.frozen?,World.putObj_heap_same]
 ·intro j hj;have:=S.names j hj;rw[hlen j];exact this
def mo.endLoop(S:mo C φ σ a w){k:wy}{st:LoopState}(hl:σ.heap[l]? =some (.loop k slots st rQ))(hφ:φ l= .func (.yield (D+1)) #[] #[])(hD:C.w0.heap.size<=D):
 mo C φ {σ with heap:=σ.heap.set l .dead} {a with defers:=⟨.collected D,#[]⟩::a.defers} w:=by
 have hlt:l<σ.heap.length:=(b9.1 hl).1;have Ez:C.N0<=l\/l<C.N0:=by omega
 have aAn: ∀b o,Eh φ (σ.heap.set l .dead) b o->Eh φ σ.heap b o:=by
  rintro b o ⟨j,x,hx,hm⟩;by_cases e:j=l
  ·grind [kq.yy]
  ·rw[dG (fun h=>e h.symm)] at hx;exact⟨j,x,hx,hm⟩
 have nr: ∀(j:Nat)(x:kq),(σ.heap.set l .dead)[j]? =some x->(j=l/\x= .dead)\/(j≠l/\σ.heap[j]? =some x):=by
  grind
 have hlen: ∀j:Nat,lT (σ.heap.set l .dead)[j]? =lT σ.heap[j]? :=by
  intro j;by_cases e:j=l
  ·subst e;rw[dy hlt,hl];rfl
  grind
 have le:(C.env φ σ.heap w).Le σ.heap.length (C.env φ (σ.heap.set l .dead) w):=
  pX.A1 (by simp) (fun j _=>⟨rfl,hlen j⟩) (fun b o u hm hc=>⟨fun h=>hm (h.imp (aAn b o) id),hc⟩)
 have hbD:(kq.loop k slots st rQ).block (φ l) D:=by rw[hφ];exact .inr rfl
 have A2:qT C φ (σ.heap.set l .dead) w σ.df (⟨.collected D,#[]⟩::a.defers):=by
  obtain⟨hnd,hall,hrd⟩:=S.defers;have hmk:ZI (⟨.collected D,#[]⟩:Deferred)=true:=rfl;refine⟨?_,fun d hd hm=> ?_,?_⟩
  ·grind
  ·rcases cX.1 hd with rfl|hd
   ·refine⟨D,rfl,?_,hD,fun j x hx hb=> ?_⟩
    ·obtain⟨D',U9,e1,g1,g2,_⟩:=S.nN l _ hl;rw[hφ] at e1;simp only[cZ,Fn.yield.injEq,cJ,and_true] at e1;subst e1;exact g2
    ·rcases nr j x hx with⟨rfl,rfl⟩|⟨hne,hx⟩
     ·simp [kq.block] at hb
     ·exact hne (S.apart j l x _ D hx hl hb hbD)
   grind [kq.block]
  ·simp only[dr,hmk,Bool.not_true,di,if_false];exact hrd.mono le
 refine {slots:=kC.mono le _ _ (kC.nb _ _ S.slots) S.slots,defers:=A2,nN:= ?_,apart:= ?_,sE:= ?_,size:=S.size,old:=S.old,nj:=S.nj,B8:= ?_,u1:=S.u1,rest:=S.rest,low:=⟨S.low.1,by simpa using S.low.2⟩,names:= ?_}
 ·intro j x hx;rcases nr j x hx with⟨rfl,rfl⟩|⟨_,hx⟩
  ·trivial
  ·exact nG.mono (S.nN j x hx) le (fun _ _=>rfl)
 ·intro j j' x x' b hx hx' hb hb';rcases nr j x hx with⟨rfl,rfl⟩|⟨_,hx⟩
  ·simp [kq.block] at hb
  ·rcases nr j' x' hx' with⟨rfl,rfl⟩|⟨_,hx'⟩
   ·simp [kq.block] at hb'
   ·exact S.apart j j' x x' b hx hx' hb hb'
 ·intro j x b o hx hb;rcases nr j x hx with⟨rfl,rfl⟩|⟨_,hx⟩
  ·simp [kq.block] at hb
  ·exact S.sE j x b o hx hb
 ·intro j x b o hx hm hb;rcases nr j x hx with⟨rfl,rfl⟩|⟨_,hx⟩
  ·simp [kq.yy] at hm
  ·exact S.B8 j x b o hx hm hb
 ·intro j hj;have:=S.names j hj;rw[hlen j];exact this
def aAo(Q:mM->jZ->Prop)(σ:jZ):Option Code->Prop
 |none=>Q .normal σ
 |some .ret=>Q .ret σ
 |some (.exit id)=>Q (.exit id) σ
 |_=>False
def ajQ {as:Code}{js:List (Int×Code)}{cap:List AV}(hg:σ.ev g= .func (.func f) first cap)
 (uZ:zD P f (first++[.map σ.heap.length]++cap) {σ with slots:=σ.slots++[.map σ.heap.length],heap:=σ.heap++[.loop ⟨ps,as,body,js⟩ σ.slots .ready 0]}
   (fun o H'=> ∃r k s rQ,o= .ret r/\H'[σ.heap.length]? =some (.loop k s (stP (pG k.js rQ)) rQ)/\aAo Q {σ with heap:=H'.set σ.heap.length .dead} (pG k.js rQ))):ar6 P g ps as body Q σ:=by
 intro C φ a w hP S;subst hP;refine wpIn_rangeFunc ?_;intro fn _;have hx:=S.ev g;rw[hg] at hx;obtain⟨f',c',hx,rf,rc⟩:=hx
 let lp:Loop:={state:= .ready,pending:=none,fn,tmps:=a.tmps,params:=ps,assign:=as,body,defers:=w.heap.size}
 let w1:=(w.alloc (.deferred (some []))).alloc (.loop lp)
 let Y:Value:= .func (.yield (w.heap.size+1)) #[] #[]
 have S1:=S.ar8 ⟨ps,as,body,js⟩ lp S.slots ⟨rfl,rfl,rfl,rfl,rfl,rfl⟩
 have rY:n8 (C.env (fun l=>if l=σ.heap.length then Y else φ l) (σ.heap++[.loop ⟨ps,as,body,js⟩ σ.slots .ready 0]) w1) (.map σ.heap.length) Y:=by
  refine⟨by simp [pX.env],by simp [pX.env,Y],w.heap.size+1,?_⟩;simp [pX.env,Y,hdl]
 have S2:mo C (fun l=>if l=σ.heap.length then Y else φ l) {σ with slots:=σ.slots++[.map σ.heap.length],heap:=σ.heap++[.loop ⟨ps,as,body,js⟩ σ.slots .ready 0]} {a with tmps:=a.tmps.push Y} w1:=by
  refine {S1 with slots:= ?_,defers:=S1.defers};simp only[cC];exact S1.slots.append ⟨Y,[],rfl,rY,rfl⟩
 have hle:(C.env φ σ.heap w).Le σ.heap.length (C.env (fun l=>if l=σ.heap.length then Y else φ l) (σ.heap++[.loop ⟨ps,as,body,js⟩ σ.slots .ready 0]) w1):=by
  refine pX.A1 (by simp) (fun l hl=>⟨by rw[if_neg (by omega)],by rw[cG hl]⟩) (fun b i u hm hc=> ?_);have hb:=E9 hc
  have hold:w1.heap[b]? =w.heap[b]? :=by
   show(World.more (World.more w _) _).heap[b]? =_
   grind [World.more]
  refine⟨fun h=> ?_,by grind [World.cell?]⟩;rcases h with⟨l,x,hx,hm'⟩|h
  ·by_cases hl:l<σ.heap.length
   ·rw[cG hl] at hx;have hm':x.yy (if l=σ.heap.length then Y else φ l) b i:=hm';rw[if_neg (by omega)] at hm';exact hm (.inl ⟨l,x,hx,hm'⟩)
   ·have QT:l=σ.heap.length:=by
     grind
    subst QT;simp at hx;subst hx;have hm':(kq.loop ⟨ps,as,body,js⟩ σ.slots .ready 0).yy (if σ.heap.length=σ.heap.length then Y else φ σ.heap.length) b i:=hm';rw[if_pos rfl] at hm';rcases hm' with rfl|h<;>omega
  ·exact hm (.inr h)
 have hargs:kC (C.env (fun l=>if l=σ.heap.length then Y else φ l) (σ.heap++[.loop ⟨ps,as,body,js⟩ σ.slots .ready 0]) w1) (first++[.map σ.heap.length]++cap) (f'++ #[Y]++c').toList:=by
  have hY:kC (C.env (fun l=>if l=σ.heap.length then Y else φ l) (σ.heap++[.loop ⟨ps,as,body,js⟩ σ.slots .ready 0]) w1) [.map σ.heap.length] [Y]:=⟨Y,[],rfl,rY,rfl⟩;simp only[cT];exact((kC.mono hle _ _ (kC.nb _ _ rf) rf).append hY).append (kC.mono hle _ _ (kC.nb _ _ rc) rc)
 obtain⟨he,hc⟩:=uZ
 have hbody: ∃fnc,C.P.funcs[f]? =some fnc/\fnc.name≠ "runtime.NumGoroutine" /\fnc.body≠none:=by
  grind [enters]
 obtain⟨fnc,hf,hname,hnone⟩:=hbody;refine⟨w.heap.size+1,[⟨.collected w.heap.size,#[]⟩],w1,{target:= .fn (.func f) c',args:=f'++ #[Y]},w1,f,f'++ #[Y]++c',w1,?_,?_,fun _ _=>trivial,?_,fun h=>by simp [CK,ct] at h,?_⟩
 ·exact run_enterLoop_outer _ _ _ _ _
 ·have Q1:a.eval g= .func (.func f) f' c':=hx;have hY2:a.eval (.const Y)=Y:=rfl;simp [resolve,Q1,Deferred.ofValue];rfl
 ·simp [invoke,callFunc,hf,hname,hnone]
 ·refine FK.2 ((hc C _ _ w1 rfl S2 _ hargs).mono ?_);rintro e w' ⟨o,φ2,H',⟨r,k,s,rQ,rfl,hH,hj⟩,S3,rF⟩;cases e with
  |panicked chain=>exact rF.elim
  |outgrown=>exact rF.elim
  |returned v=>
   have ar9:φ2 σ.heap.length=Y:=by
    have ZH:=S3.slots;have hlen:a.tmps.toList.length=σ.slots.length:=S.slots.length;have:=ZH.drop σ.slots.length;simp only[cC] at this;rw[cN rfl,cN hlen] at this;obtain⟨u,us,he2,r1,_⟩:=this;simp only[dh] at he2;obtain⟨rfl,_⟩:=he2;exact r1.2.1.symm
   have S4:mo C φ2 {σ with heap:=H'} a w':=by
    have ZH:=S3.slots;have hlen:a.tmps.toList.length=σ.slots.length:=S.slots.length;have:=ZH.take σ.slots.length;simp only[cC] at this;rw[cM rfl,cM hlen] at this;exact {S3 with slots:=this,defers:=S3.defers}
   obtain⟨D,U9,e1,g1,g2,g3,_⟩:=S4.nN _ _ hH;rw[ar9] at e1;simp only[Y,cZ,Fn.yield.injEq,cJ,and_true] at e1;subst e1;have g1:w'.heap[w.heap.size+1]? =some (.loop U9):=g1;have hend:=run_endLoop (P:=C.P) g1 (by grind [ah0]);rw[g3.2.2.2.2.1] at hend;refine⟨pG k.js rQ,_,hend,?_⟩
   have S5:mo C φ2 {σ with heap:=H'.set σ.heap.length .dead} {a with defers:=⟨.collected w.heap.size,#[]⟩::a.defers} (w'.putObj (w.heap.size+1) (.loop {U9 with state:= .exhausted,pending:=pG k.js rQ})):=by
    have h5:=S4.ah1 (st':= .exhausted) (Jz:=rQ) hH ar9 g1
    have h6:=h5.endLoop (l:=σ.heap.length) (D:=w.heap.size) (k:=k) (slots:=s) (st:= .exhausted) (rQ:=rQ) (by
     grind) ar9 S.size
    simp_all
   generalize pG k.js rQ=pc at*;cases pc with
   |none=>exact⟨φ2,_,S5,hj⟩
   |some c=>
    cases c with
    |ret=>exact wpIn_ret ⟨φ2,_,S5,hj⟩
    |exit id=>exact wpIn_exit ⟨φ2,_,S5,hj⟩
    |_=>exact hj.elim
end
inductive CO where
 |ret (e:ux)
 |pan (x:AV) (H:List kq)
structure kU(R:Type) where
 P:Program
 body:Code
 cl:FuncId->List AV->List kq->Option (AV×List kq)
 cd:FuncId->List AV->Option AV
 rG:List Nat->jZ->Option jZ
 cut:List Nat->jZ->Option jZ
 n:Nat
 out:jZ->Option R
 cy:Nat->List AV->List kq->Option (AV×List kq):=fun _ _ _=>none
 nH:mM->jZ->Option R:=fun _ _=>none
 js:List Nat->List (Int×Code):=fun _=>[]
 vJ:FuncId->Bool:=fun _=>false
 ce:FuncId->List AV->List kq->Option ux:=fun _ _ _=>none
 uR:FuncId->Bool:=fun _=>false
 cp:FuncId->List AV->List kq->Option (sO×List kq):=fun _ _ _=>none
 vf:FuncId->Bool:=fun _=>false
 co:FuncId->List AV->List kq->Option CO:=fun _ _ _=>none
 oz:AV->jZ->Option R:=fun _ _=>none
def mA(p:Prop)(x:Option R):Option R:= @ite _ p (Classical.propDecidable p) x none
theorem lV{p:Prop}{x:Option R}{r:R}:mA p x=some r↔p/\x=some r:=by
 grind [mA]
def amI{x:Option R}:mA True x=x:=by simp [mA]
theorem Xb{p q:Prop}{x:Option R}:mA (p/\q) x=mA p (mA q x):=by
 grind [mA]
def agX{p:Prop}[Decidable p]{x:Option R}:mA p x=bif decide p then x else none:=by
 grind [mA]
def ad5(x:Operand)(b:Bool)(σ:jZ):jZ:=
 match x with
 | .tmp t=>{σ with slots:=σ.slots.set t (.bool b)}
 |_=>σ
def aoS{x:Operand}(h:σ.ev x= .bool b):ad5 x b σ=σ:=by
 cases x with
 |tmp t=>
  simp only[jZ.ev,List.getD] at h;cases hg:σ.slots[t]? with
  |none=>rw[hg] at h;simp at h
  |some v=>
   rw[hg] at h;simp only[dl] at h;subst h;obtain⟨hlt,he⟩:=b9.1 hg;simp only[ad5];rw[<-he,dA]
 |_=>rfl
def tG(ops:Array Oper)(o:Oper)(b:Bool)(σ:jZ):jZ:=
 match o.guard with
 |none=>σ
 |some (j,want)=>match (ops[j]?).bind (·.dst) with
  |some d=>match σ.slots[d]? with
   |some (.bool _)=>{σ with slots:=σ.slots.set d (.bool (b==want))}
   |_=>σ
  |none=>σ
def ah2(h:pm ops o σ=some b):tG ops o b σ=σ:=by
 unfold pm at h;unfold tG;split
 ·rfl
 ·rename_i j want hg;simp only[hg] at h;split
  ·rename_i d hd;simp only[hd] at h;split
   ·rename_i c hc;simp only[hc,cc] at h;have:(b==want)=c:=by subst h;cases c<;>cases want<;>rfl
    rw[this];obtain⟨hlt,he⟩:=b9.1 hc;rw[<-he,dA]
   ·rfl
  ·rfl
section

def tA (M:kU R) (ops:Array Oper):List Oper->jZ->Option (mM×jZ)
 |[],σ=>some (.normal,σ)
 |o::rest,σ=>match pm ops o σ with
  |none=>none
  |some b=>bif b then (match mq (tG ops o true σ) o.op with
    |some (f,args)=>bif M.uR f then(match M.cp f args (tG ops o true σ).heap with
      |some (.ret r,H')=>tA M ops rest (jZ.put {tG ops o true σ with heap:=H'} o.dst r)
      |some (.panic x,H')=>some (.panic x,{tG ops o true σ with heap:=H'})
      |none=>none)
     else match M.cl f args (tG ops o true σ).heap with
     |some (r,H')=>tA M ops rest (jZ.put {tG ops o true σ with heap:=H'} o.dst r)
     |none=>none
    |none=>match yieldOf (tG ops o true σ) o.op with
     |some (l,args)=>match M.cy l args (tG ops o true σ).heap with
      |some (r,H')=>tA M ops rest (jZ.put {tG ops o true σ with heap:=H'} o.dst r)
      |none=>none
     |none=>match k7 M.P (tG ops o true σ) o.op with
      |some e=>mA e.pre (tA M ops rest ((tG ops o true σ).app o.dst e))
      |none=>match DH (tG ops o true σ) o.op with
       |some p=>tA M ops rest ((tG ops o true σ).dfr p o.dst)
       |none=>match Pq (tG ops o true σ) o.op with
        |some x=>some (.panic x,tG ops o true σ)
        |none=>none)
   else tA M ops rest ((tG ops o false σ).put o.dst (.raw undef))
def GJ (M:kU R) (ops:Array Oper):List Oper->Nat->List Tr->jZ->Option (mM×jZ)
 |[],_,_,σ=>some (.normal,σ)
 |o::rest,j,tr,σ=>match pm ops o σ with
  |none=>none
  |some b=>bif b then(match mq (tG ops o true σ) o.op with
    |some (f,args)=>bif M.vf f then(match M.co f args (tG ops o true σ).heap with
      |some (.ret e)=>mA (e.pre/\Q7 ops tr j e) (GJ M ops rest (j+1) (IV tr j (tG ops o true σ).heap.length e) ((tG ops o true σ).app o.dst e))
      |some (.pan x H')=>mA (ajM ops j=true\/(LO tr=true/\Pv M.P ops j rest (j+1) ((tG ops o true σ).put o.dst (.raw undef)))) (some (.panic x,{tG ops o true σ with slots:=Q6 ops (tG ops o true σ).slots,heap:=H'}))
      |none=>none)
     else bif M.vJ f then(match M.ce f args (tG ops o true σ).heap with
      |some e=>mA (e.pre/\Q7 ops tr j e) (GJ M ops rest (j+1) (IV tr j (tG ops o true σ).heap.length e) ((tG ops o true σ).app o.dst e))
      |none=>none)
     else match M.cd f args with
     |some r=>GJ M ops rest (j+1) tr ((tG ops o true σ).put o.dst r)
     |none=>none
    |none=>match k7 M.P (tG ops o true σ) o.op with
     |some e=>mA (e.pre/\Q7 ops tr j e) (GJ M ops rest (j+1) (IV tr j (tG ops o true σ).heap.length e) ((tG ops o true σ).app o.dst e))
     |none=>none)
   else GJ M ops rest (j+1) tr ((tG ops o false σ).put o.dst (.raw undef))
def lqN(rG:jZ->Option jZ)(body:jZ->Option (mM×jZ)):Nat->jZ->Option (mM×jZ)
 |0,_=>none
 |m+1,σ=>match body σ with
  |some (.normal,σ')=>(rG σ').bind (lqN rG body m)
  |r=>r
def ajR(σ:jZ):Option Code->Option (mM×jZ)
 |none=>some (.normal,σ)
 |some .ret=>some (.ret,σ)
 |some (.exit id)=>some (.exit id,σ)
 |_=>none
def avi(σ:jZ)(H':List kq):Option kq->Option (mM×jZ)
 |some (.loop lk _ st rQ)=>mA (st=stP (pG lk.js rQ)) (ajR {σ with heap:=H'.set σ.heap.length .dead} (pG lk.js rQ))
 |_=>none
def asa(M:kU R)(lk:wy)(σ:jZ):AV->Option (mM×jZ)
 | .func (.func f) first cap=>match M.cl f (first++[.map σ.heap.length]++cap) (σ.heap++[.loop lk σ.slots .ready 0]) with
   |some (_,H')=>avi σ H' H'[σ.heap.length]?
   |none=>none
 |_=>none
def exec(M:kU R):Code->List Nat->jZ->Option (mM×jZ)
 | .skip,_,σ=>some (.normal,σ)
 | .region _ ops false,_,σ=>tA M ops ops.toList σ
 | .region _ ops true,_,σ=>mA (M.P.follows .mixedOrders=true/\Fq ops=true) (GJ M ops ops.toList 0 [] σ)
 | .seq x y,p,σ=>match exec M x (0::p) σ with
   |some (.normal,σ')=>(M.cut (1::p) σ').bind (exec M y (1::p))
   |r=>r
 | .cond c x y,p,σ=>match σ.ev c with
   | .bool b=>bif b then exec M x (0::p) (ad5 c true σ) else exec M y (1::p) (ad5 c false σ)
   |_=>none
 | .block id x,p,σ=>match exec M x (0::p) σ with
   |some (.exit id',σ')=>if id'=id then some (.normal,σ') else some (.exit id',σ')
   |r=>r
 | .loop x,p,σ=>(M.rG p σ).bind (lqN (M.rG p) (exec M x (0::p)) M.n)
 | .exit id,_,σ=>some (.exit id,σ)
 | .scope x,p,σ=>exec M x (0::p) σ
 | .label _,_,σ=>some (.normal,σ)
 | .ret,_,σ=>some (.ret,σ)
 | .goto _,_,_=>none
 | .rangeFunc g ps as body,p,σ=>asa M ⟨ps,as,body,M.js p⟩ σ (σ.ev g)
 | .refuse _,_,_=>none
structure Good(M:kU R):Prop where
 cl: ∀f args σ r H',M.cl f args σ.heap=some (r,H')->zD M.P f args σ (fun o Cs=>o= .ret r/\Cs=H')
 cd: ∀f args r,M.cd f args=some r->IR M.P f args (fun v=>v=r)
 rG: ∀p σ σ',M.rG p σ=some σ'->GF σ σ'
 cut: ∀p σ σ',M.cut p σ=some σ'->GF σ σ'
 cy: ∀l args σ r H',M.cy l args σ.heap=some (r,H')->IQ M.P l args σ (fun o Cs=>o= .ret r/\Cs=H')
 ce: ∀f args σ e,M.ce f args σ.heap=some e->Jw M.P f args σ e
 cp: ∀f args σ o H',M.cp f args σ.heap=some (o,H')->zD M.P f args σ (fun o' Cs=>o'=o/\Cs=H')
 co: ∀f args σ,(∀e,M.co f args σ.heap=some (.ret e)->Jw M.P f args σ e)/\ ∀x H',M.co f args σ.heap=some (.pan x H')->ad2 M.P f args σ.heap x H'
def wM: ∀(f:FuncId)(args:List AV)(σ:jZ)(o:sO)(H':List kq),(fun _ _ _=>none:FuncId->List AV->List kq->Option (sO×List kq)) f args σ.heap=some (o,H')->zD P f args σ (fun o' Cs=>o'=o/\Cs=H'):=by
 intro f args σ o H' h;cases h
def wm: ∀(f:FuncId)(args:List AV)(σ:jZ),(∀e,(fun _ _ _=>none:FuncId->List AV->List kq->Option CO) f args σ.heap=some (.ret e)->Jw P f args σ e)/\ ∀x H',(fun _ _ _=>none:FuncId->List AV->List kq->Option CO) f args σ.heap=some (.pan x H')->ad2 P f args σ.heap x H':=by
 grind
def zD.mono {K':sO->List kq->Prop}(h:zD P f args σ K)(hk: ∀o H,K o H->K' o H):zD P f args σ K':=by
 obtain⟨he,hc⟩:=h;refine⟨he,fun C φ a w hP S vs hr=>(hc C φ a w hP S vs hr).mono ?_⟩
 grind
def IQ.mono {K':sO->List kq->Prop}(h:IQ P l args σ K)(hk: ∀o H,K o H->K' o H):IQ P l args σ K':=by
 obtain⟨he,hc⟩:=h;refine⟨he,fun C φ a w hP S vs hr D rec h1 h2=>(hc C φ a w hP S vs hr D rec h1 h2).mono ?_⟩
 grind
def vg: ∀(l:Nat)(args:List AV)(σ:jZ)(r:AV)(H':List kq),(fun _ _ _=>none:Nat->List AV->List kq->Option (AV×List kq)) l args σ.heap=some (r,H')->IQ P l args σ (fun o Cs=>o= .ret r/\Cs=H'):=by
 intro l args σ r H' h;cases h
def zc {M:kU R} (G:Good M) {ops:Array Oper} {Q:mM->jZ->Prop}: ∀ (rest:List Oper) (σ σ':jZ) (e:mM),tA M ops rest σ=some (e,σ')->Q e σ'->Og M.P ops rest Q σ
 |[],σ,σ',e,h,hq=>by simp only[tA,cc,ck] at h;obtain⟨rfl,rfl⟩:=h;exact hq
 |o::rest,σ,σ',en,h,hq=>by
  simp only[tA] at h;simp only[Og];cases hw:pm ops o σ with
  |none=>simp only[hw] at h;cases h
  |some b=>
   simp only[hw] at h;have hg:=ah2 hw;cases b with
   |false=>
    refine⟨fun h=>(by cases h),fun _=> ?_⟩;simp only[jN,hg] at h;exact zc G rest _ σ' _ h hq
   |true=>
    refine⟨fun _=> ?_,fun h=>by cases h⟩;simp only[jM,hg] at h;cases hc:mq σ o.op with
    |some p=>
     obtain⟨f,args⟩:=p;simp only[hc] at h ⊢;cases hi:M.uR f with
     |true=>
      simp only[hi,jM] at h;cases ha:M.cp f args σ.heap with
      |none=>simp only[ha] at h;cases h
      |some q=>
       obtain⟨r,H'⟩:=q;refine(G.cp f args σ r H' ha).mono ?_;cases r with
       |ret r=>
        simp only[ha] at h;rintro o' Cs ⟨rfl,rfl⟩;exact zc G rest _ σ' _ h hq
       |panic x=>
        grind
     |false=>
      simp only[hi,jN] at h;cases ha:M.cl f args σ.heap with
      |none=>simp only[ha] at h;cases h
      |some q=>
       obtain⟨r,H'⟩:=q;simp only[ha] at h;refine(G.cl f args σ r H' ha).mono ?_;rintro o' Cs ⟨rfl,rfl⟩;exact zc G rest _ σ' _ h hq
    |none=>
     simp only[hc] at h ⊢;cases hy:yieldOf σ o.op with
     |some p=>
      obtain⟨l,args⟩:=p;simp only[hy] at h ⊢;cases ha:M.cy l args σ.heap with
      |none=>simp only[ha] at h;cases h
      |some q=>
       obtain⟨r,H'⟩:=q;simp only[ha] at h;refine(G.cy l args σ r H' ha).mono ?_;rintro o' Cs ⟨rfl,rfl⟩;exact zc G rest _ σ' _ h hq
     |none=>
      simp only[hy] at h ⊢;cases he:k7 M.P σ o.op with
      |none=>
       simp only[he] at h ⊢;cases hd:DH σ o.op with
       |some p=>
        simp only[hd] at h ⊢;exact zc G rest _ σ' _ h hq
       |none=>
        grind
      |some e=>
       simp only[he] at h;rw[lV] at h;exact⟨h.1,zc G rest _ σ' _ h.2 hq⟩
def FO {M:kU R} (G:Good M) {ops:Array Oper} {Q:mM->jZ->Prop}: ∀ (rest:List Oper) (j:Nat) (tr:List Tr) (σ σ':jZ) (e:mM),GJ M ops rest j tr σ=some (e,σ')->Q e σ'->Z0 M.P ops Q rest j tr σ
 |[],_,_,σ,σ',e,h,hq=>by simp only[GJ,cc,ck] at h;obtain⟨rfl,rfl⟩:=h;exact hq
 |o::rest,j,tr,σ,σ',en,h,hq=>by
  simp only[GJ] at h;simp only[Z0];cases hw:pm ops o σ with
  |none=>simp only[hw] at h;cases h
  |some b=>
   simp only[hw] at h;have hg:=ah2 hw;cases b with
   |false=>
    refine⟨fun h=>(by cases h),fun _=> ?_⟩;simp only[jN,hg] at h;exact FO G rest _ _ _ σ' _ h hq
   |true=>
    refine⟨fun _=> ?_,fun h=>(by cases h)⟩;simp only[jM,hg] at h;cases hc:mq σ o.op with
    |some p=>
     obtain⟨f,args⟩:=p;simp only[hc] at h ⊢;cases hic:M.vf f with
     |true=>
      simp only[hic,jM] at h;cases ha:M.co f args σ.heap with
      |none=>simp only[ha] at h;cases h
      |some q=>
       cases q with
       |ret e=>
        simp only[ha] at h;rw[lV] at h;exact .inr (.inl ⟨e,(G.co f args σ).1 e ha,h.1.2,FO G rest _ _ _ σ' _ h.2 hq⟩)
       |pan x H'=>
        simp only[ha] at h;rw[lV] at h;obtain⟨h1,h⟩:=h;simp only[cc,ck] at h;obtain⟨rfl,rfl⟩:=h;exact .inr (.inr ⟨x,H',(G.co f args σ).2 x H' ha,h1,hq⟩)
     |false=>
     simp only[hic,jN] at h;cases hi:M.vJ f with
     |true=>
      simp only[hi,jM] at h;cases ha:M.ce f args σ.heap with
      |none=>simp only[ha] at h;cases h
      |some e=>
       simp only[ha] at h;rw[lV] at h;exact .inr (.inl ⟨e,G.ce f args σ e ha,h.1.2,FO G rest _ _ _ σ' _ h.2 hq⟩)
     |false=>
     simp only[hi,jN] at h;cases ha:M.cd f args with
     |none=>simp only[ha] at h;cases h
     |some r=>
      simp only[ha] at h;exact .inl ⟨r,G.cd f args r ha,FO G rest _ _ _ σ' _ h hq⟩
    |none=>
     simp only[hc] at h ⊢;cases he:k7 M.P σ o.op with
     |none=>simp only[he] at h;cases h
     |some e=>
      simp only[he] at h;rw[lV] at h;exact⟨h.1.1,h.1.2,FO G rest _ _ _ σ' _ h.2 hq⟩
def ad6{rG:jZ->Option jZ}{body:jZ->Option (mM×jZ)}(hb: ∀σ l σ',body σ≠some (.goto l,σ')): ∀(m:Nat)(σ:jZ)(l:Nat)(σ':jZ),lqN rG body m σ≠some (.goto l,σ')
 |0,_,_,_=>by simp [lqN]
 |m+1,σ,l,σ'=>by
  intro h;simp only[lqN] at h;cases hx:body σ with
  |none=>simp only[hx] at h;cases h
  |some r=>
   obtain⟨e1,σ1⟩:=r;cases e1 with
   |normal=>
    simp only[hx] at h;cases hn:rG σ1 with
    |none=>grind
    |some σ2=>simp only[hn,cv] at h;exact ad6 hb m σ2 l σ' h
   |goto l'=>exact hb _ _ _ hx
   |_=>grind
theorem amJ{M:kU R}: ∀(rest:List Oper)(σ:jZ)(l:Nat)(σ':jZ),tA M ops rest σ≠some (.goto l,σ'):=by
 intro rest;induction rest with
 |nil=>grind [tA]
 |cons o rest ih=>
  intro σ l σ' h;simp only[tA] at h
  grind [lV]
theorem asb{M:kU R}: ∀(rest:List Oper)(j:Nat)(tr:List Tr)(σ:jZ)(l:Nat)(σ':jZ),GJ M ops rest j tr σ≠some (.goto l,σ'):=by
 intro rest;induction rest with
 |nil=>grind [GJ]
 |cons o rest ih=>
  grind [GJ,lV]
theorem asc{c:Option Code}:ajR σ c≠some (.goto l,σ'):=by
 intro h;unfold ajR at h;split at h<;>simp at h
def avj{M:kU R}:asa M lk σ v≠some (.goto l,σ'):=by
 intro h;unfold asa at h;split at h
 ·split at h
  ·unfold avi at h
   grind [lV,asc]
  ·cases h
 ·cases h
theorem Ns(M:kU R): ∀(c:Code)(p:List Nat)(σ:jZ)(l:Nat)(σ':jZ),exec M c p σ≠some (.goto l,σ')
 | .skip,_,_,_,_=>by simp [exec]
 | .label _,_,_,_,_=>by simp [exec]
 | .ret,_,_,_,_=>by simp [exec]
 | .exit id,_,_,_,_=>by simp [exec]
 | .region _ ops false,_,_,_,_=>by grind [exec,amJ]
 | .region _ ops true,_,_,_,_=>by
   grind [exec,lV,asb]
 | .seq x y,p,σ,l,σ'=>by
   intro h;simp only[exec] at h;cases hx:exec M x (0::p) σ with
   |none=>simp only[hx] at h;cases h
   |some r=>
    obtain⟨e1,σ1⟩:=r;cases e1 with
    |normal=>
     simp only[hx] at h;cases hc:M.cut (1::p) σ1 with
     |none=>grind
     |some σ2=>simp only[hc,cv] at h;exact Ns M y _ _ _ _ h
    |goto l'=>exact Ns M x _ _ _ _ hx
    |_=>grind
 | .cond c x y,p,σ,l,σ'=>by
   intro h;simp only[exec] at h;cases hv:σ.ev c with
   |bool b=>
    simp only[hv] at h;cases b with
    |true=>exact Ns M x _ _ _ _ h
    |false=>exact Ns M y _ _ _ _ h
   |_=>simp only[hv] at h;cases h
 | .block id x,p,σ,l,σ'=>by
   intro h;simp only[exec] at h;cases hx:exec M x (0::p) σ with
   |none=>simp only[hx] at h;cases h
   |some r=>
    obtain⟨e1,σ1⟩:=r;cases e1 with
    |exit id'=>
     grind
    |goto l'=>exact Ns M x _ _ _ _ hx
    |_=>grind
 | .loop x,p,σ,l,σ'=>by
   intro h;simp only[exec] at h;cases hn:M.rG p σ with
   |none=>grind
   |some σ1=>
    simp only[hn,cv] at h;exact ad6 (fun _ _ _=>Ns M x _ _ _ _) _ _ _ _ h
 | .scope x,p,σ,l,σ'=>by
   intro h;simp only[exec] at h;exact Ns M x _ _ _ _ h
 | .goto _,_,_,_,_=>by simp [exec]
 | .rangeFunc g ps as body,_,_,_,_=>by simp only[exec];exact avj
 | .refuse _,_,_,_,_=>by simp [exec]
def xq {M:kU R} (G:Good M): ∀ (c:Code) (p:List Nat) (Q:mM->jZ->Prop) (σ:jZ) (e:mM) (σ':jZ),exec M c p σ=some (e,σ')->Q e σ'->awp M.P c Q σ
 | .skip,_,Q,σ,e,σ',h,hq=>by simp only[exec,cc,ck] at h;obtain⟨rfl,rfl⟩:=h;exact hq
 | .label _,_,Q,σ,e,σ',h,hq=>by simp only[exec,cc,ck] at h;obtain⟨rfl,rfl⟩:=h;exact hq
 | .ret,_,Q,σ,e,σ',h,hq=>by simp only[exec,cc,ck] at h;obtain⟨rfl,rfl⟩:=h;exact hq
 | .exit id,_,Q,σ,e,σ',h,hq=>by simp only[exec,cc,ck] at h;obtain⟨rfl,rfl⟩:=h;exact hq
 | .region _ ops false,_,Q,σ,e,σ',h,hq=>by
   simp only[exec] at h;exact zc G _ _ _ _ h hq
 | .region _ ops true,_,Q,σ,e,σ',h,hq=>by
   simp only[exec] at h;rw[lV] at h;obtain⟨hp,h⟩:=h;exact⟨hp,FO G _ _ _ _ _ _ h hq⟩
 | .seq x y,p,Q,σ,e,σ',h,hq=>by
   simp only[exec] at h;cases hx:exec M x (0::p) σ with
   |none=>simp only[hx] at h;cases h
   |some r=>
    obtain⟨e1,σ1⟩:=r;refine xq G x (0::p) _ σ e1 σ1 hx ?_;cases e1 with
    |normal=>
     simp only[hx] at h;cases hc:M.cut (1::p) σ1 with
     |none=>grind
     |some σ2=>
      simp only[hc,cv] at h;exact⟨σ2,G.cut _ _ _ hc,xq G y (1::p) Q σ2 e σ' h hq⟩
    |_=>
     simp only[hx,cc,ck] at h;obtain⟨rfl,rfl⟩:=h;exact hq
 | .cond c x y,p,Q,σ,e,σ',h,hq=>by
   simp only[exec] at h;simp only[awp];cases hv:σ.ev c with
   |bool b=>
    simp only[hv] at h ⊢;cases b with
    |true=>simp only[jM,aoS hv] at h;exact⟨fun _=>xq G x (0::p) Q σ e σ' h hq,fun h=>(by cases h)⟩
    |false=>simp only[jN,aoS hv] at h;exact⟨fun h=>(by cases h),fun _=>xq G y (1::p) Q σ e σ' h hq⟩
   |_=>simp only[hv] at h;cases h
 | .block id x,p,Q,σ,e,σ',h,hq=>by
   simp only[exec] at h;cases hx:exec M x (0::p) σ with
   |none=>simp only[hx] at h;cases h
   |some r=>
    obtain⟨e1,σ1⟩:=r;refine xq G x (0::p) _ σ e1 σ1 hx ?_;cases e1 with
    |exit id'=>
     grind [mM.inBlock]
    |_=>
     simp only[hx,cc,ck] at h;obtain⟨rfl,rfl⟩:=h;exact hq
 | .loop x,p,Q,σ,e,σ',h,hq=>by
   simp only[exec] at h;cases hn:M.rG p σ with
   |none=>grind
   |some σ1=>
    simp only[hn,cv] at h;refine⟨fun m σ2=>lqN (M.rG p) (exec M x (0::p)) m σ2=some (e,σ'),M.n,σ1,G.rG _ _ _ hn,h,?_⟩;intro m σ2 h2;cases m with
    |zero=>simp only[lqN] at h2;cases h2
    |succ m=>
     simp only[lqN] at h2;cases hx:exec M x (0::p) σ2 with
     |none=>simp only[hx] at h2;cases h2
     |some r=>
      obtain⟨e1,σ3⟩:=r;refine xq G x (0::p) _ σ2 e1 σ3 hx ?_;cases e1 with
      |normal=>
       simp only[hx] at h2;cases hn2:M.rG p σ3 with
       |none=>grind
       |some σ4=>
        simp only[hn2,cv] at h2;exact⟨m,σ4,Nat.lt_succ_self _,G.rG _ _ _ hn2,h2⟩
      |_=>
       simp only[hx,cc,ck] at h2;obtain⟨rfl,rfl⟩:=h2;exact hq
 | .scope x,p,Q,σ,e,σ',h,hq=>by
   simp only[exec] at h;refine xq G x (0::p) _ σ e σ' h ?_;cases e with
   |goto l=>grind [Ns]
   |_=>exact hq
 | .goto _,_,_,_,_,_,h,_=>by simp only[exec] at h;cases h
 | .rangeFunc g ps as body,p,Q,σ,e,σ',h,hq=>by
   simp only[exec] at h;simp only[awp];unfold asa at h;split at h
   ·rename_i f first cap hv
    split at h
    ·rename_i r H' hc;refine ajQ hv ((G.cl f _ {σ with slots:=σ.slots++[.map σ.heap.length],heap:=σ.heap++[.loop ⟨ps,as,body,M.js p⟩ σ.slots .ready 0]} r H' hc).mono ?_);rintro o' Cs ⟨rfl,rfl⟩;unfold avi at h;split at h
     ·rename_i k s st rQ hH;rw[lV] at h;obtain⟨hst,h⟩:=h;subst hst;refine⟨r,k,s,rQ,rfl,hH,?_⟩;generalize pG k.js rQ=pc at*;unfold ajR at h;split at h
      ·simp only[cc,ck] at h;obtain⟨rfl,rfl⟩:=h;exact hq
      ·simp only[cc,ck] at h;obtain⟨rfl,rfl⟩:=h;exact hq
      ·simp only[cc,ck] at h;obtain⟨rfl,rfl⟩:=h;exact hq
      ·cases h
     ·cases h
    ·cases h
   ·cases h
 | .refuse _,_,_,_,_,_,h,_=>by simp only[exec] at h;cases h
end
def avk(C:pX)(φ:Nat->Value)(H:List kq)(w:World):Prop:=mo C φ {slots:=[],heap:=H,low:=H.length} {tmps:= #[],defers:=[]} w
def FnG(P:Program)(f:FuncId)(args:List AV)(H:List kq)(V:sO->List kq->Prop):Prop:=
 enters P f=true/\vK H.length args/\(∀x∈H,qk H.length x)/\ ∀(C:pX)(φ:Nat->Value)(w:World),C.P=P->C.w0=w->C.N0=H.length->(∀l,l<H.length->C.φ0 l=φ l/\C.ln0 l=lT H[l]?)->(∀b o,C.M0 b o↔Eh φ H b o)->
  avk C φ H w-> ∀vs:Array Value,kC (C.env φ H w) args vs.toList->
  Calls P f vs w fun e w'=> ∃o φ' H',V o H'/\mo C φ' {slots:=[],heap:=H',low:=H.length} {tmps:= #[],defers:=[]} w'/\o.No (C.env φ' H' w') e
def qw:List kq->List Nat->List kq->List kq
 |H,l::ls,x::xs=>qw (H.set l x) ls xs
 |H,_,_=>H
def nv(ρ:List Nat)(n:Nat)(l:Nat):Nat:=if l<ρ.length then ρ.getD l 0 else n+(l-ρ.length)
def uB(ρ:List Nat)(H H':List kq):List kq:=
 qw H ρ (H'.map (kq.pe (nv ρ H.length)))++(H'.drop ρ.length).map (kq.pe (nv ρ H.length))
theorem u4: ∀(H:List kq)(ls:List Nat)(xs:List kq),(qw H ls xs).length=H.length
 |_,[],_=>by simp [qw]
 |_,_::_,[]=>by simp [qw]
 |H,l::ls,x::xs=>by rw[qw,u4,List.length_set]
theorem DJ: ∀(ls:List Nat)(H:List kq)(xs:List kq)(k:Nat),k ∉ ls->(qw H ls xs)[k]? =H[k]?
 |[],_,_,_,_=>by simp [qw]
 |_::_,_,[],_,_=>by simp [qw]
 |l::ls,H,x::xs,k,h=>by
  simp only[cX,not_or] at h;rw[qw,DJ ls _ xs k h.2,dG (fun e=>h.1 e.symm)]
theorem Pw: ∀(ls:List Nat)(H:List kq)(xs:List kq)(i k:Nat)(x:kq),ls.Nodup->ls[i]? =some k->xs[i]? =some x->k<H.length->(qw H ls xs)[k]? =some x
 |[],_,_,_,_,_,_,h,_,_=>by simp at h
 |_::_,_,[],_,_,_,_,_,h,_=>by simp at h
 |l::ls,H,y::ys,0,k,x,hnd,h,hx,hk=>by
  grind [qw,DJ]
 |l::ls,H,y::ys,i+1,k,x,hnd,h,hx,hk=>by
  simp at h hx;rw[dx] at hnd;rw[qw];exact Pw ls _ ys i k x hnd.2 h hx (by rw[List.length_set];exact hk)
def ad7:List Nat->Nat->Option Nat
 |[],_=>none
 |x::xs,k=>if x=k then some 0 else(ad7 xs k).map (· +1)
theorem Z4: ∀(ρ:List Nat)(l k:Nat),ρ.Nodup->ρ[l]? =some k->ad7 ρ k=some l
 |[],_,_,_,h=>by simp at h
 |x::xs,0,k,_,h=>by simp at h;subst h;simp [ad7]
 |x::xs,l+1,k,hnd,h=>by
  simp at h;rw[dx] at hnd;have hne:x≠k:=fun e=>hnd.1 (e ▸ cQ h)
  simp [ad7,hne,Z4 xs l k hnd.2 h]
theorem ad8: ∀(ρ:List Nat)(k:Nat),k ∉ ρ->ad7 ρ k=none
 |[],_,_=>rfl
 |x::xs,k,h=>by
  simp only[cX,not_or] at h;have hne:x≠k:=fun e=>h.1 e.symm
  simp [ad7,hne,ad8 xs k h.2]
section call
variable {C:pX}
structure Va(T:Value->World->Array Value->(Ending->World->Prop)->Prop):Prop where
 mono: ∀h w vs R R',(∀e w',R e w'->R' e w')->T h w vs R->T h w vs R'
def FnT(P:Program)(T:Value->World->Array Value->(Ending->World->Prop)->Prop)(args:List AV)(H:List kq)(V:sO->List kq->Prop):Prop:=
 vK H.length args/\(∀x∈H,qk H.length x)/\ ∀(C:pX)(φ:Nat->Value)(w:World),C.P=P->C.w0=w->C.N0=H.length->(∀l,l<H.length->C.φ0 l=φ l/\C.ln0 l=lT H[l]?)->(∀b o,C.M0 b o↔Eh φ H b o)->
  avk C φ H w-> ∀vs:Array Value,kC (C.env φ H w) args vs.toList->
  T (φ 0) w vs fun e w'=> ∃o φ' H',V o H'/\mo C φ' {slots:=[],heap:=H',low:=H.length} {tmps:= #[],defers:=[]} w'/\o.No (C.env φ' H' w') e
def Nt(P:Program)(T:Value->World->Array Value->(Ending->World->Prop)->Prop)(l:Nat)(args:List AV)(σ:jZ)(K:sO->List kq->Prop):Prop:=
 ∀ (C:pX) (φ:Nat->Value) (a:Act) (w:World),C.P=P->mo C φ σ a w-> ∀vs:Array Value,kC (C.env φ σ.heap w) args vs.toList->
   T (φ l) w vs fun e w'=> ∃o φ' H',K o H'/\mo C φ' {σ with heap:=H'} a w'/\o.No (C.env φ' H' w') e
def Z5{T:Value->World->Array Value->(Ending->World->Prop)->Prop}(hT:Va T){l0:Nat}{LP:List AV}(h:FnT P T args H V)(ρ:List Nat)(hlen:ρ.length=H.length)(hnd:ρ.Nodup)
 (hz: ∀φ:Nat->Value,T (φ (nv ρ σ.heap.length 0))=T (φ l0))
 (hargs:qv LP (qQ (nv ρ σ.heap.length) args)) (Kq: ∀(i:Nat)(k:Nat)(x:kq),ρ[i]? =some k->H[i]? =some x->σ.heap[k]? =some (x.pe (nv ρ σ.heap.length)))
 (hK: ∀o H',V o H'->K (o.pe (nv ρ σ.heap.length)) (uB ρ σ.heap H')):Nt P T l0 LP σ K:=by
 obtain⟨aCB,Ft,hc⟩:=h;intro C φ a w hP S vs hr
 let ρf:Nat->Nat:=nv ρ σ.heap.length
 have hρ: ∀l,l<H.length->ρ[l]? =some (ρf l):=by
  grind [nv]
 let φc:Nat->Value:=fun l=>φ (ρf l)
 have ad9: ∀(l:Nat)(x:kq),H[l]? =some x->σ.heap[ρf l]? =some (x.pe ρf):=fun l x hx=>Kq l _ x (hρ l (b9.1 hx).1) hx
 have aDy: ∀l,l<H.length->ρf l<σ.heap.length:=by
  intro l hl;have:=ad9 l H[l] (b8 hl)
  grind
 have hinj: ∀l l',l<H.length->l'<H.length->ρf l=ρf l'->l=l':=by
  grind [List.getElem_inj]
 have ajS: ∀b o,Eh φc H b o->Eh φ σ.heap b o:=by
  rintro b o ⟨l,x,hx,hm⟩;exact⟨ρf l,_,ad9 l x hx,Pt.2 hm⟩
 have hA0: ∀b o,((Eh φ σ.heap b o\/C.A b o)/\ ¬ Eh φc H b o)->b<w.heap.size:=by
  rintro b o ⟨⟨l,x,hx,hm⟩|hA,_⟩
  ·exact(S.nN l x hx).p4 (kq.nC hm)
  ·exact cf (C.hA b o hA) S.size
 let C':pX:=pX.mk C.P w (Eh φc H) (fun b o=>(Eh φ σ.heap b o\/C.A b o)/\ ¬ Eh φc H b o) hA0 (fun b o h=>let ⟨v,h1,h2,h3⟩:=S.know b o h;⟨v,h1,h2,fun hm=>h3 (ajS b o hm)⟩) H.length φc (fun l=>lT H[l]?)
 have aAp: ∀b o,(Eh φc H b o\/C'.A b o)↔(Eh φ σ.heap b o\/C.A b o):=by
  grind
 have un:ajI H.length ρf (C.env φ σ.heap w) (C'.env φc H w):=by
  refine⟨cm _,fun l hl=>⟨rfl,?_⟩,fun b o u hm hcell=>⟨fun hh=>hm ((aAp b o).1 hh),hcell⟩⟩
  grind [pX.env,CM]
 have IM: ∀(l:Nat)(x:kq)(b:Nat),H[l]? =some x->x.block (φc l) b-> ∃y:kq,σ.heap[ρf l]? =some y/\y.block (φ (ρf l)) b:=fun l x b hx hb=>⟨_,ad9 l x hx,Ah.2 hb⟩
 have hown: ∀(l:Nat)(x:kq)(b:Nat),H[l]? =some x->x.block (φc l) b-> ∀o,Eh φ σ.heap b o->Eh φc H b o:=by
  rintro l x b hx hb o ⟨k,y,hy,hm⟩;obtain⟨z,hz,hzb⟩:=IM l x b hx hb;have hk:=S.apart k (ρf l) y z b hy hz (kq.nC hm) hzb;subst hk;have hf:=ad9 l x hx;rw[hy] at hf;cases hf;exact⟨l,x,hx,Pt.1 hm⟩
 have hS':avk C' φc H w:=by
  refine {slots:=rfl,defers:=qT.nil,nN:= ?_,apart:= ?_,sE:= ?_,size:=cm _,old:=fun _ _ _ _=>rfl,nj:=fun _ _ _=>rfl,B8:= ?_,u1:=fun _ _=>rfl,rest:=⟨rfl,rfl⟩,low:=⟨rfl,cm _⟩,names:=fun l hl=> .inl ⟨rfl,.inl rfl⟩}
  ·intro l x hx;exact nG.AT un (Ft x (cQ hx)) (fun _ _=>rfl) (S.nN (ρf l) _ (ad9 l x hx))
  ·intro l l' x x' b hx hx' hb hb';obtain⟨z,hz,hzb⟩:=IM l x b hx hb;obtain⟨z',hz',ayr⟩:=IM l' x' b hx' hb';exact hinj l l' (b9.1 hx).1 (b9.1 hx').1 (S.apart _ _ z z' b hz hz' hzb ayr)
  ·rintro l x b o hx hb ⟨hA|hA,hn⟩
   ·exact hn (hown l x b hx hb o hA)
   ·obtain⟨z,hz,hzb⟩:=IM l x b hx hb;exact S.sE _ z b o hz hzb hA
  ·intro l x b o hx hm _;exact⟨l,x,hx,hm⟩
 have hr':kC (C'.env φc H w) args vs.toList:=kC.AT un _ _ aCB (hargs _ _ hr);have uZ:=hc C' φc w hP rfl rfl (fun l _=>⟨rfl,rfl⟩) (fun _ _=>cg) hS' vs hr';rw[show φc 0=φ (nv ρ σ.heap.length 0) from rfl,hz φ] at uZ;refine hT.mono _ _ _ _ _ ?_ uZ;rintro e w' ⟨o,φ',H',hV,S',rF⟩;have aDz:H.length<=H'.length:=S'.low.2
 let n:=σ.heap.length
 have aoO: ∀k,k<n->(∃l,l<H.length/\ρf l=k)\/k ∉ ρ:=by
  grind [dD]
 let ix:Nat->Option Nat:=ad7 ρ
 have hix: ∀l,l<H.length->ix (ρf l)=some l:=by
  grind [Z4]
 have aDA: ∀k,k ∉ ρ->ix k=none:=by
  grind [ad8]
 let φ2:Nat->Value:=fun k=>if k<n then(match ix k with|some l=>φ' l|none=>φ k) else φ' (H.length+(k-n))
 have aea: ∀l,l<H'.length->φ2 (ρf l)=φ' l:=by
  intro l hl;by_cases h1:l<H.length
  ·grind
  ·have h2:ρf l=n+(l-H.length):=by
    grind [nv]
   simp only[φ2];rw[if_neg (by omega),h2];congr 1;omega
 have ajT: ∀k,k<n->k ∉ ρ->φ2 k=φ k:=by
  grind
 let H2:List kq:=uB ρ σ.heap H'
 have ays: ∀(l:Nat)(hl:l<H'.length),H2[ρf l]? =some ((H'[l]).pe ρf):=by
  intro l hl;simp only[H2,uB];by_cases h1:l<H.length
  ·grind [u4,Pw]
  ·have h2:ρf l=n+(l-H.length):=by
    grind [nv]
   rw[h2,cR (by rw[u4];omega),u4];rw[List.getElem?_map,List.getElem?_drop,hlen];have e:H.length+(n+(l-H.length)-σ.heap.length)=l:=by simp only[n];omega
   grind
 have aCC: ∀k,k<n->k ∉ ρ->H2[k]? =σ.heap[k]? :=by
  grind [uB,u4,DJ]
 have aCD:H2.length=n+(H'.length-H.length):=by
  grind [uB,u4]
 have hH2: ∀(k:Nat)(y:kq),H2[k]? =some y->(∃l,∃hl:l<H'.length,k=ρf l/\y=(H'[l]).pe ρf)\/(k<n/\k ∉ ρ/\σ.heap[k]? =some y):=by
  intro k y hy;have hk:k<H2.length:=(b9.1 hy).1;by_cases h1:k<n
  ·rcases aoO k h1 with⟨l,hl,rfl⟩|hm
   all_goals grind
  ·left;have hl:H.length+(k-n)<H'.length:=by omega
   grind [nv]
 have axV: ∀b o,Eh φ2 H2 b o->Eh φ' H' b o\/ ∃(k:Nat)(y:kq),k<n/\k ∉ ρ/\σ.heap[k]? =some y/\y.yy (φ k) b o:=by
  rintro b o ⟨k,y,hy,hm⟩;rcases hH2 k y hy with⟨l,hl,rfl,rfl⟩|⟨h1,h2,h3⟩
  ·left;rw[aea l hl] at hm;exact⟨l,_,b8 hl,Pt.1 hm⟩
  grind
 have hsep: ∀(k:Nat)(y:kq)(b:Nat),k<n->k ∉ ρ->σ.heap[k]? =some y->y.block (φ k) b-> ∀o,¬ Eh φc H b o:=by
  rintro k y b hk hm hy hb o ⟨l,x,hx,YT⟩;obtain⟨z,hz,hzb⟩:=IM l x b hx (kq.nC YT);have e:=S.apart k (ρf l) y z b hy hz hb hzb
  grind
 have adu: ∀(l:Nat)(hl:l<H'.length)(b:Nat),(H'[l]).block (φ' l) b->b<w.heap.size-> ∃(k:Nat)(x:kq),H[k]? =some x/\x.block (φc k) b:=by
  intro l hl b hb hlt;obtain⟨o,YT⟩:=Oh hb;obtain⟨k,x,hx,hmx⟩:=S'.B8 l _ b o (b8 hl) YT hlt
  grind [kq.nC]
 have le:(C.env φ σ.heap w).Le n (C.env φ2 H2 w'):=by
  refine⟨by simp only[pX.env];omega,fun k hk=> ?_,fun b o' u hm hcell=> ?_⟩
  ·rcases aoO k hk with⟨l,hl,rfl⟩|hm
   ·have hn:=S'.names l hl;simp only[pX.env];rw[aea l (by omega),ays l (by omega),CM,ad9 l H[l] (b8 hl),CM];have h1:lT H'[l]? =lT (some H'[l]):=by grind
    have h2:C'.ln0 l=lT (some H[l]):=by grind
    rw[h1,h2] at hn;exact hn
   grind [pX.env]
  ·have hb:=E9 hcell;simp only[pX.env] at hb hm ⊢;have hnc: ¬ Eh φc H b o':=fun hh=>hm (.inl (ajS b o' hh))
   refine⟨?_,by rw[S'.old b o' hb hnc];exact hcell⟩;rintro(hh|hh)
   ·rcases axV b o' hh with⟨l,x,hx,YT⟩|⟨k,y,_,_,hy,YT⟩
    ·exact hnc (S'.B8 l x b o' hx YT hb)
    ·exact hm (.inl ⟨k,y,hy,YT⟩)
   ·exact hm (.inr hh)
 have pe:ZX H'.length ρf (C'.env φ' H' w') (C.env φ2 H2 w'):=by
  refine⟨fun l hl=> ?_,fun l hl=> ?_,fun b o' u hm hcell=>⟨?_,hcell⟩⟩
  ·have:=ays l hl;exact(b9.1 this).1
  ·grind [pX.env,CM]
  ·simp only[pX.env] at hm ⊢;rintro(hh|hh)
   ·rcases axV b o' hh with h1|⟨k,y,hk,hkm,hy,YT⟩
    ·exact hm (.inl h1)
    ·exact hm (.inr ⟨.inl ⟨k,y,hy,YT⟩,hsep k y b hk hkm hy (kq.nC YT) o'⟩)
   ·refine hm (.inr ⟨.inr hh,?_⟩);rintro⟨l,x,hx,YT⟩;obtain⟨z,hz,hzb⟩:=IM l x b hx (kq.nC YT);exact S.sE _ z b o' hz hzb hh
 have S2:mo C φ2 {σ with heap:=H2} a w':=by
  have A2:qT C φ2 H2 w' σ.df a.defers:=by
   refine S.defers.step le (fun b hb hno=>S'.nj b hb (fun o' hh=> ?_)) (fun k x b hx hb=> ?_)
   ·obtain⟨l,x,hx,YT⟩:=hh
    grind [kq.nC]
   ·by_cases hbs:b<w.heap.size
    ·rcases hH2 k x hx with⟨l,hl,rfl,rfl⟩|⟨h1,h2,h3⟩
     ·rw[aea l hl] at hb;obtain⟨q,z,hz',hzb⟩:=adu l hl b (Ah.1 hb) hbs
      grind
     grind
    ·exact .inr (by omega)
  refine {slots:=kC.mono le _ _ (kC.nb _ _ S.slots) S.slots,defers:=A2,nN:= ?_,apart:= ?_,sE:= ?_,size:=Nat.le_trans S.size S'.size,old:= ?_,nj:= ?_,B8:= ?_,u1:=fun x hx=>(S'.u1 x (cf hx S.size)).trans (S.u1 x hx),rest:=⟨S'.rest.1.trans S.rest.1,S'.rest.2.trans S.rest.2⟩,low:=⟨S.low.1,by have:=S.low.2;show σ.low<=H2.length;omega⟩,names:= ?_}
  ·intro k y hy;rcases hH2 k y hy with⟨l,hl,rfl,rfl⟩|⟨h1,h2,h3⟩
   ·rw[aea l hl];have r0:=S'.nN l _ (b8 hl);exact nG.pe pe (Pu r0) (fun _ _=>rfl) r0
   ·rw[ajT k h1 h2];have r0:=S.nN k y h3;exact nG.mono r0 le (fun b hb=>S'.nj b (r0.p4 hb) (hsep k y b h1 h2 h3 hb))
  ·intro k k' x x' b hx hx' hb hb';rcases hH2 k x hx with⟨l,hl,rfl,rfl⟩|⟨h1,h2,h3⟩<;>rcases hH2 k' x' hx' with⟨l',QT,rfl,rfl⟩|⟨h1',h2',h3'⟩
   ·rw[aea l hl] at hb;rw[aea l' QT] at hb';have:=S'.apart l l' _ _ b (b8 hl) (b8 QT) (Ah.1 hb) (Ah.1 hb');rw[this]
   ·rw[aea l hl] at hb;rw[ajT k' h1' h2'] at hb';exfalso;obtain⟨q,z,hz,hzb⟩:=adu l hl b (Ah.1 hb) ((S.nN k' x' h3').p4 hb');obtain⟨o'',YT⟩:=Oh hzb;exact hsep k' x' b h1' h2' h3' hb' o'' ⟨q,z,hz,YT⟩
   ·rw[aea l' QT] at hb';rw[ajT k h1 h2] at hb;exfalso;obtain⟨q,z,hz,hzb⟩:=adu l' QT b (Ah.1 hb') ((S.nN k x h3).p4 hb);obtain⟨o'',YT⟩:=Oh hzb;exact hsep k x b h1 h2 h3 hb o'' ⟨q,z,hz,YT⟩
   ·rw[ajT k h1 h2] at hb;rw[ajT k' h1' h2'] at hb';exact S.apart k k' x x' b h3 h3' hb hb'
  ·intro k x b o' hx hb;rcases hH2 k x hx with⟨l,hl,rfl,rfl⟩|⟨h1,h2,h3⟩
   ·rw[aea l hl] at hb;intro hA;have hbs:b<w.heap.size:=cf (C.hA b o' hA) S.size;obtain⟨q,z,hz,hzb⟩:=adu l hl b (Ah.1 hb) hbs;obtain⟨z',hz',ayr⟩:=IM q z b hz hzb;exact S.sE _ z' b o' hz' ayr hA
   ·rw[ajT k h1 h2] at hb;exact S.sE k x b o' h3 hb
  ·intro b o' hb hm;have hb':b<w.heap.size:=cf hb S.size
   have hnc: ¬ Eh φc H b o':=by
    intro hh;obtain⟨k,y,hy,YT⟩:=ajS b o' hh;exact hm (S.B8 k y b o' hy YT hb)
   exact(S'.old b o' hb' hnc).trans (S.old b o' hb hm)
  ·intro b hb hm;have hb':b<w.heap.size:=cf hb S.size
   have hnc: ∀o',¬ Eh φc H b o':=by
    intro o' hh;obtain⟨k,y,hy,YT⟩:=ajS b o' hh;exact hm o' (S.B8 k y b o' hy YT hb)
   exact(S'.nj b hb' hnc).trans (S.nj b hb hm)
  ·intro k x b o' hx YT hb;rcases hH2 k x hx with⟨l,hl,rfl,rfl⟩|⟨h1,h2,h3⟩
   ·rw[aea l hl] at YT;obtain⟨q,z,hz,hmz⟩:=S'.B8 l _ b o' (b8 hl) (Pt.1 YT) (cf hb S.size);obtain⟨k2,y2,hy2,aCE⟩:=ajS b o' ⟨q,z,hz,hmz⟩;exact S.B8 k2 y2 b o' hy2 aCE hb
   ·rw[ajT k h1 h2] at YT;exact S.B8 k x b o' h3 YT hb
  ·intro k hk;have hkn:k<n:=by have:=S.low;simp only[n];omega
   have hn:=S.names k hk;show(φ2 k=_/\_)\/_;rcases aoO k hkn with⟨l,hl,rfl⟩|hm
   ·have hn':=S'.names l hl;rw[aea l (by omega),ays l (by omega),CM];rw[ad9 l H[l] (b8 hl),CM] at hn;have h1:lT H'[l]? =lT (some H'[l]):=by rw[b8 (by omega)]
    have h2:C'.ln0 l=lT (some H[l]):=by show lT H[l]? =_;rw[b8 hl]
    have h3:C'.φ0 l=φ (ρf l):=rfl;rw[h1,h2,h3] at hn';rcases hn' with⟨ha,hb|hb⟩|⟨⟨q,hq,hlt⟩,hp,hmp⟩
    ·rw[ha,hb];exact hn
    ·rw[hb];rcases hn with⟨hc1,_⟩|⟨⟨q,hq,_⟩,hp,hmp⟩
     ·exact .inl ⟨by rw[ha];exact hc1,.inr rfl⟩
     ·exact .inr ⟨⟨q,hq,fun k' hk'=>by cases hk'⟩,hp,hmp⟩
    ·right;rcases hn with⟨hc1,hc2|hc2⟩|⟨⟨q2,hq2,aCF⟩,hp2,aCG⟩
     ·rw[hq] at hc2;exact⟨⟨q,hc2.symm,hlt⟩,by rw[<-hc1];exact⟨hp,hmp⟩⟩
     ·rw[hq] at hc2;cases hc2
     ·exact⟨⟨q2,hq2,fun k' hk'=>by have:=hlt k' hk';have:=aCF q hq;omega⟩,hp2,aCG⟩
   ·rw[ajT k hkn hm,aCC k hkn hm];exact hn
 refine⟨o.pe ρf,φ2,H2,hK o H' hV,S2,?_⟩;cases o with
 |ret r=>
  cases e with
  |returned v=>exact n8.pe pe r v (n8.nb _ _ rF) rF
  |panicked chain=>exact rF.elim
  |outgrown=>exact rF.elim
 |panic x=>
  cases e with
  |returned v=>exact rF.elim
  |panicked chain=>
   obtain⟨v,hv,hr⟩:=rF;exact⟨v,hv,n8.pe pe x v (n8.nb _ _ hr) hr⟩
  |outgrown=>exact rF.elim
def YX:Va (fun _ w vs R=>Calls P f vs w R):=⟨fun _ _ _ _ _ hr h=>Calls.mono h hr⟩
def ajU:Va (U2 P):=⟨fun _ _ _ _ _ hr h D rec h1 h2=>(h D rec h1 h2).mono hr⟩
def ah3 {LP:List AV}(h:FnG P f args H V)(ρ:List Nat)(hlen:ρ.length=H.length)(hnd:ρ.Nodup)
 (hargs:qv LP (qQ (nv ρ σ.heap.length) args)) (Kq: ∀(i:Nat)(k:Nat)(x:kq),ρ[i]? =some k->H[i]? =some x->σ.heap[k]? =some (x.pe (nv ρ σ.heap.length)))
 (hK: ∀o H',V o H'->K (o.pe (nv ρ σ.heap.length)) (uB ρ σ.heap H')):zD P f LP σ K:=
 ⟨h.1,Z5 (T:=fun _ w vs R=>Calls P f vs w R) (l0:=0) YX h.2 ρ hlen hnd (fun _=>rfl) hargs Kq hK⟩
end call
def nG.aAq{x:kq}{hd:Value}(r:nG E x hd)(h:E.Le N E')(hn:qk N x)(hs:E'.w=E.w:=by rfl):nG E' x hd:=by
 cases x with
 |cells cs=>obtain⟨b,c,t,h1,h2,rl,h3⟩:=r;exact⟨b,c,t,h1,by rw[hs];exact h2,kC.mono h _ _ hn rl,h3⟩
 |acc rT sz rows=>
  obtain⟨base,cap,h1,h2,h3,h4,h5⟩:=r;refine⟨base,cap,h1,h2,h3,h4,fun a0 ha hc=> ?_⟩;obtain⟨h6,c,t,h7,h8,rl,h9⟩:=h5 a0 ha hc;exact⟨h6,c,t,by rw[hs];exact h7,h8,kC.mono h _ _ (FM hn) rl,h9⟩
 |map es=>obtain⟨r',en,cl,h1,h2,rp⟩:=r;exact⟨r',en,cl,h1,by rw[hs];exact h2,qC.mono h hn rp⟩
 |loop k slots st rQ=>obtain⟨D,rec,h1,h2,h3,h4,rl⟩:=r;exact⟨D,rec,h1,by rw[hs];exact h2,by rw[hs];exact h3,h4,kC.mono h _ _ hn rl⟩
 |iter s p=>obtain⟨b,h1,h2⟩:=r;exact⟨b,h1,by rw[hs];exact h2⟩
 |dead=>trivial
def YY(σ:jZ)(x r:AV)(H':List kq):Prop:=
 ∀ (C:pX) (φ:Nat->Value) (a:Act) (w:World),mo C φ σ a w-> ∀v,n8 (C.env φ σ.heap w) x v->
   ∃φ',mo C φ' {slots:=[],heap:=H',low:=σ.low} {tmps:= #[],defers:=[]} w/\n8 (C.env φ' H' w) r v
def Q8(low l k:Nat):Nat:=if k<low then k else if k=l then low else low+1+k
section avl

theorem ajV(hl:l<low):(H.take low)[l]? =H[l]? :=by rw[List.getElem?_take,if_pos hl]
def amK{y:kq}(hl:σ.heap[l]? =some y)(Ez:σ.low<=l)(hnb: ∀z∈σ.heap.take σ.low,qk σ.low z)(hy:qk σ.low y)(hr:(x.pe (Q8 σ.low l)).nb (σ.low+1)):
 YY σ x (x.pe (Q8 σ.low l)) (σ.heap.take σ.low++[y]):=by
 intro C φ a w S v hv;have aCH:=S.low.2;have hHl:(σ.heap.take σ.low).length=σ.low:=by rw[List.length_take];omega
 let H':=σ.heap.take σ.low++[y]
 let φ':Nat->Value:=fun k=>if k=σ.low then φ l else φ k
 have hφ': ∀k,k<σ.low->φ' k=φ k:=fun k hk=>by simp only[φ'];rw[if_neg (by omega)]
 have hφl:φ' σ.low=φ l:=by simp [φ']
 have aoT: ∀k,k<σ.low->H'[k]? =σ.heap[k]? :=by
  intro k hk;simp only[H'];rw[cG (by omega),ajV hk]
 have axW:H'[σ.low]? =some y:=by
  simp only[H'];rw[cR (by omega),hHl,Nat.sub_self];rfl
 have asd:H'.length=σ.low+1:=by simp only[H',List.length_append,hHl,dn,List.length_nil]
 have nr: ∀(k:Nat)(z:kq),H'[k]? =some z->(k<σ.low/\σ.heap[k]? =some z)\/(k=σ.low/\z=y):=by
  intro k z hz;have hk:k<σ.low+1:=by rw[<-asd];exact(b9.1 hz).1
  by_cases e:k=σ.low
  ·subst e;rw[axW] at hz;cases hz;exact .inr ⟨rfl,rfl⟩
  ·left;rw[aoT k (by omega)] at hz;exact⟨by omega,hz⟩
 let old:Nat->Nat:=fun k=>if k=σ.low then l else k
 have hold: ∀(k:Nat)(z:kq),H'[k]? =some z->σ.heap[old k]? =some z/\φ' k=φ (old k):=by
  intro k z hz;rcases nr k z hz with⟨h1,h2⟩|⟨rfl,rfl⟩
  ·simp only[old];rw[if_neg (by omega)];exact⟨h2,hφ' k h1⟩
  ·simp only[old,jU];exact⟨hl,hφl⟩
 have avm: ∀k k',k<σ.low+1->k'<σ.low+1->old k=old k'->k=k':=by
  intro k k' hk hk' he;simp only[old] at he;split at he<;>split at he<;>omega
 have Km: ∀b o,Eh φ' H' b o->Eh φ σ.heap b o:=by
  rintro b o ⟨k,z,hz,hm⟩;obtain⟨h1,h2⟩:=hold k z hz;rw[h2] at hm;exact⟨old k,z,h1,hm⟩
 have le:(C.env φ σ.heap w).Le σ.low (C.env φ' H' w):=by
  refine⟨by simp only[pX.env];omega,fun k hk=> .inl ⟨hφ' k hk,.inl (by simp only[pX.env];rw[aoT k hk])⟩,fun b o u hm hc=>⟨fun h=>hm (h.imp (Km b o) id),hc⟩⟩
 refine⟨φ',{slots:=rfl,defers:=qT.nil,nN:= ?_,apart:= ?_,sE:= ?_,size:=S.size,old:=S.old,nj:=S.nj,B8:= ?_,u1:=S.u1,rest:=S.rest,low:=⟨S.low.1,by show σ.low<=H'.length;omega⟩,names:= ?_},?_⟩
 ·intro k z hz;show nG (C.env φ' H' w) z (φ' k);obtain⟨h1,h2⟩:=hold k z hz;rw[h2];refine(S.nN (old k) z h1).aAq le ?_;rcases nr k z hz with⟨h3,h4⟩|⟨rfl,rfl⟩
  ·exact hnb z (cQ ((ajV h3).trans h4))
  ·exact hy
 ·intro k k' z z' b hz hz' hb hb';obtain⟨h1,h2⟩:=hold k z hz;obtain⟨h1',h2'⟩:=hold k' z' hz';rw[h2] at hb;rw[h2'] at hb';have hk:k<σ.low+1:=by rw[<-asd];exact(b9.1 hz).1
  have hk':k'<σ.low+1:=by rw[<-asd];exact(b9.1 hz').1
  exact avm k k' hk hk' (S.apart _ _ z z' b h1 h1' hb hb')
 ·intro k z b o hz hb;obtain⟨h1,h2⟩:=hold k z hz;rw[h2] at hb;exact S.sE _ z b o h1 hb
 ·intro k z b o hz hm hb;obtain⟨h1,h2⟩:=hold k z hz;rw[h2] at hm;exact S.B8 _ z b o h1 hm hb
 ·intro k hk;have hk':k<σ.low:=by have:=S.low.1;omega
  show(φ' k=_/\(lT H'[k]? =_\/_))\/_;rw[hφ' k hk',aoT k hk'];exact S.names k hk
 ·
  let E2:Env:={w,mu:=(C.env φ' H' w).mu,φ:=fun k=>if k<σ.low+1 then φ' k else φ (k-(σ.low+1)),ln:=fun k=>if k<σ.low+1 then lT H'[k]? else none,n:=σ.low+1+σ.heap.length}
  have pe:ZX σ.heap.length (Q8 σ.low l) (C.env φ σ.heap w) E2:=by
   refine⟨fun k hk=> ?_,fun k hk=> ?_,fun b o u hm hc=>⟨fun h=>hm (h.imp (Km b o) id),hc⟩⟩
   ·simp only[Q8,E2];split
    ·omega
    ·split<;>omega
   ·simp only[Q8,E2,pX.env];split
    ·rename_i h1;rw[if_pos (by omega),if_pos (by omega),hφ' k h1,aoT k h1];exact⟨rfl,.inl rfl⟩
    ·split
     ·rename_i h1 h2;subst h2;rw[if_pos (by omega),if_pos (by omega),hφl,axW,hl];exact⟨rfl,.inl rfl⟩
     ·rw[if_neg (by omega),if_neg (by omega)];refine⟨?_,.inr rfl⟩;congr 1;omega
  have h1:=n8.pe pe x v (n8.nb _ _ hv) hv
  have le2:E2.Le (σ.low+1) (C.env φ' H' w):=by
   refine⟨by simp only[pX.env];show σ.low+1<=H'.length;omega,fun k hk=> .inl ⟨?_,.inl ?_⟩,fun b o u hm hc=>⟨hm,hc⟩⟩
   ·show φ' k=if k<σ.low+1 then φ' k else _
    rw[if_pos hk]
   ·show lT H'[k]? =if k<σ.low+1 then lT H'[k]? else none
    rw[if_pos hk]
  exact n8.mono le2 _ v hr h1
end avl
def u5{args:Array Value}{R R':Ending->FrameMode->World->Prop}(h:CallsDIn F n P f args u w R)(hr: ∀e u' w',R e u' w'->R' e u' w'):CallsDIn F n P f args u w R':=by
 refine⟨h.1,fun c cs hc hroom=> ?_⟩;obtain⟨e,u',w',fr,hR,rE⟩:=h.2 c cs hc hroom;exact⟨e,u',w',fr,hr _ _ _ hR,rE⟩
def afO(P:Program)(f:FuncId):Value->World->Array Value->(Ending->World->Prop)->Prop:=fun _ w vs R=>
 CallsDIn ct 0 P f vs .returning w fun e u' w'=> ∃r,e= .returned r/\settle u'= .returning/\R (.returned r) w'
def afP(P:Program)(f:FuncId):Value->World->Array Value->(Ending->World->Prop)->Prop:=fun _ w vs R=> ∀(vs0:Array Value)(v:Value),vs=vs0.push v->
 CallsDIn ct 0 P f vs0 (.panicking [{v,recovered:=false}]) w fun e u' w'=> ∃r,e= .returned r/\
  ((settle u'= .returning/\R (.returned r) w')\/ ∃v',settle u'= .panicking [{v:=v',recovered:=false}]/\R (.panicked [{v:=v',recovered:=false}]) w')
def abi:Va (afO P f):=⟨fun _ _ _ _ _ hr h=>u5 h fun _ _ _ ⟨r,h1,h2,h3⟩=>⟨r,h1,h2,hr _ _ h3⟩⟩
def abj:Va (afP P f):=⟨fun _ _ _ _ _ hr h vs0 v hv=>u5 (h vs0 v hv) fun _ _ _ ⟨r,h1,h2⟩=>⟨r,h1,h2.imp (fun ⟨h3,h4⟩=>⟨h3,hr _ _ h4⟩) fun ⟨v',h3,h4⟩=>⟨v',h3,hr _ _ h4⟩⟩⟩
def Z6 (P:Program) (fin:Option AV->jZ->Prop):List (FuncId×List AV)->Option AV->jZ->Prop
 |[],m,σ=>fin m σ
 |(f,args)::ds,none,σ=>enters P f=true/\Nt P (afO P f) 0 args {σ with df:=ds} (fun o H'=>match o with
    | .ret _=>Z6 P fin ds none {σ with heap:=H',df:=ds}
    | .panic _=>False)
 |(f,args)::ds,some x,σ=>enters P f=true/\Nt P (afP P f) 0 (args++[x]) {σ with df:=ds} (fun o H'=>match o with
    | .ret _=>Z6 P fin ds none {σ with heap:=H',df:=ds}
    | .panic x'=>Z6 P fin ds (some x') {σ with heap:=H',df:=ds})
section unw
variable {C:pX} {ds:List Deferred}
def mo.amL{v:Value}(S:mo C φ {σ with slots:=σ.slots++[x]} {tmps:=tmps.push v,defers:=ds} w)(hl:σ.slots.length=tmps.size):mo C φ σ {tmps,defers:=ds} w/\n8 (C.env φ σ.heap w) x v:=by
 have h1:=S.slots.take σ.slots.length;have h2:=S.slots.drop σ.slots.length;have hlen:tmps.toList.length=σ.slots.length:=by simp [hl]
 simp only[cC] at h1 h2;rw[cM rfl,cM hlen] at h1;rw[cN rfl,cN hlen] at h2;obtain⟨u,us,he2,r1,_⟩:=h2;simp only[dh] at he2;obtain⟨rfl,_⟩:=he2;exact⟨{S with slots:=h1,defers:=S.defers},r1⟩
def mo.ah4{v:Value}(S:mo C φ σ {tmps,defers:=ds} w)(h:n8 (C.env φ σ.heap w) x v):mo C φ {σ with slots:=σ.slots++[x]} {tmps:=tmps.push v,defers:=ds} w:=by
 refine {S with slots:= ?_,defers:=S.defers};have hv:kC (C.env φ σ.heap w) [x] [v]:=⟨v,[],rfl,h,rfl⟩;simp only[cC];exact S.slots.append hv
def mo.len(S:mo C φ σ {tmps,defers:=ds} w):σ.slots.length=tmps.size:=by
 have:=S.slots.length;simpa using this.symm
def mo.aAr{v:Value}(S:mo C φ {σ with slots:=σ.slots++[x]} {tmps:=tmps.push v,defers:=ds} w):σ.slots.length=tmps.size:=by
 have:=S.slots.length;simp at this;exact this.symm
def mo.pop{d:Deferred}(S:mo C φ σ {tmps,defers:=d::ds} w)(hm:ZI d=false):
 ∃f xs df' cap,σ.df=(f,xs)::df'/\d.target= .fn (.func f) cap/\kC (C.env φ σ.heap w) xs (d.args++cap).toList/\mo C φ {σ with df:=df'} {tmps,defers:=ds} w:=by
 obtain⟨h1,h2,h3⟩:=S.defers;simp only[dr,hm,Bool.not_false,jU,di,if_false] at h1 h3;cases Ug:σ.df with
 |nil=>rw[Ug] at h3;cases h3
 |cons p df'=>
  obtain⟨f,xs⟩:=p;rw[Ug] at h3;obtain⟨d',s,cap,he,ht,hr,rE⟩:=h3;simp only[dh] at he;obtain⟨rfl,rfl⟩:=he;exact⟨f,xs,df',cap,rfl,ht,hr,{S with slots:=S.slots,defers:=⟨h1,fun d' hd'=>h2 d' (List.mem_cons_of_mem _ hd'),rE⟩}⟩
def aeb{d:Deferred}{cap:Array Value}(ht:d.target= .fn (.func f) cap)(he:enters P f=true):(invoke d.target d.args).run P w= .ok (.enter f (d.args++cap)) w:=by
 unfold enters at he;split at he
 ·rename_i fn hfn;simp only[cj,bne_iff_ne,ne_eq] at he;have hnone:fn.body≠none:=by intro hb;simp [hb] at he
  simp [ht,invoke,callFunc,hfn,he.2,hnone]
 ·cases he
def YZ{fn:Func}{R:Ending->World->Prop}{fin:Option AV->jZ->Prop}
 (hr: ∀φ σ w,mo C φ σ {tmps,defers:=[]} w->fin none σ-> ∃v,(results fn tmps).run C.P w= .ok v w/\R (.returned v) w)
 (hp: ∀φ σ x v w,mo C φ σ {tmps,defers:=[]} w->n8 (C.env φ σ.heap w) x v->fin (some x) σ->R (.panicked [{v,recovered:=false}]) w):
 ∀ (ds:List Deferred),
   (∀φ σ w,mo C φ σ {tmps,defers:=ds} w->Z6 C.P fin σ.df none σ->LeavesInM ct 0 C.P fn tmps R ds .returning w)/\
   (∀φ σ x v w,mo C φ {σ with slots:=σ.slots++[x]} {tmps:=tmps.push v,defers:=ds} w->Z6 C.P fin σ.df (some x) σ->LeavesInM ct 0 C.P fn tmps R ds (.panicking [{v,recovered:=false}]) w)
 |[]=>by
  refine⟨fun φ σ w S h=> ?_,fun φ σ x v w S h=> ?_⟩
  ·have hd:σ.df=[]:=by
    have:=S.defers.2.2;cases Ug:σ.df with
    |nil=>rfl
    |cons p r=>rw[Ug] at this;obtain⟨_,_,_,h,_⟩:=this;cases h
   rw[hd] at h;exact hr φ σ w S h
  ·obtain⟨S',hx⟩:=S.amL S.aAr
   have hd:σ.df=[]:=by
    have:=S'.defers.2.2;cases Ug:σ.df with
    |nil=>rfl
    |cons p r=>rw[Ug] at this;obtain⟨_,_,_,h,_⟩:=this;cases h
   rw[hd] at h;exact hp φ σ x v w S' hx h
 |d::ds=>by
  obtain⟨ihr,ihp⟩:=YZ hr hp ds;refine⟨fun φ σ w S h=> ?_,fun φ σ x v w S h=> ?_⟩
  ·cases hm:ZI d with
   |true=>
    obtain⟨D,hD,_⟩:=S.defers.2.1 d (cO) hm;subst hD;obtain⟨h1,S'⟩:=S.Z2;exact⟨by simp,.inl ⟨D,_,rfl,run_takeDeferred h1,ihr φ σ _ S' h⟩⟩
   |false=>
    obtain⟨f,xs,df',cap,Ug,ht,hxs,S'⟩:=S.pop hm;rw[Ug] at h;obtain⟨he,hc⟩:=h;refine⟨by simp,.inr ⟨fun h=>by simp [ct] at h,_,cap,f,d.args++cap,ht,aeb ht he,fun _ _=>trivial,?_⟩⟩;refine u5 (hc C φ _ w rfl S' _ hxs) ?_;rintro e u' w' ⟨r,rfl,hs,o,φ',H',hK,S2,rF⟩;cases o with
    |ret r'=>
     simp only;rw[hs];exact ihr φ' _ w' S2 hK
    |panic _=>exact hK.elim
  ·cases hm:ZI d with
   |true=>
    obtain⟨D,hD,_⟩:=S.defers.2.1 d (cO) hm;subst hD;obtain⟨h1,S'⟩:=S.Z2;exact⟨by simp,.inl ⟨D,_,rfl,run_takeDeferred h1,ihp φ σ x v _ S' h⟩⟩
   |false=>
    obtain⟨S1,hx⟩:=S.amL S.aAr;obtain⟨f,xs,df',cap,Ug,ht,hxs,S'⟩:=S1.pop hm;rw[Ug] at h;obtain⟨he,hc⟩:=h;refine⟨by simp,.inr ⟨fun h=>by simp [ct] at h,_,cap,f,d.args++cap,ht,aeb ht he,fun _ _=>trivial,?_⟩⟩
    have hargs:kC (C.env φ σ.heap w) (xs++[x]) ((d.args++cap).push v).toList:=by
     have hv:kC (C.env φ σ.heap w) [x] [v]:=⟨v,[],rfl,hx,rfl⟩;rw[cC];exact hxs.append hv
    refine u5 (hc C φ _ w rfl S' _ hargs _ v rfl) ?_;rintro e u' w' ⟨r,rfl,⟨hs,o,φ',H',hK,S2,rF⟩|⟨v',hs,o,φ',H',hK,S2,rF⟩⟩
    ·cases o with
     |ret r'=>
      simp only;rw[hs];exact ihr φ' _ w' S2 hK
     |panic _=>exact rF.elim
    ·cases o with
     |ret r'=>exact rF.elim
     |panic x'=>
      simp only;rw[hs];obtain⟨v2,hv2,hr2⟩:=rF;simp only[dh,PanicEntry.mk.injEq,and_true] at hv2;subst hv2;exact ihp φ' _ x' _ w' (S2.ah4 hr2) hK
end unw
def abk(P:Program)(rs:List ResultVar)(V:sO->List kq->Prop):Option AV->jZ->Prop
 |none,σ=> ∃x,KJ P σ rs=some x/\ ∃r H',YY σ x r H'/\V (.ret r) H'
 |some x,σ=> ∃r H',YY σ x r H'/\V (.panic r) H'
def axX(P:Program)(rs:List ResultVar)(V:sO->List kq->Prop):mM->jZ->Prop
 | .normal,σ=>Z6 P (abk P rs V) σ.df none σ
 | .ret,σ=>Z6 P (abk P rs V) σ.df none σ
 | .panic x,σ=>Z6 P (abk P rs V) σ.df (some x) σ
 |_,_=>False
def ajW{fn:Func}(hf:P.funcs[f]? =some fn)(hb:fn.body=some c)(hne:(fn.name != "runtime.NumGoroutine")=true)(hnb:vK H.length args)
 (Ft: ∀x∈H,qk H.length x) (hn:fn.ntmps=n) (Ia:fn.results=rs.toArray)
 (h:awp P c (axX P rs V) {slots:=args++cq (n-args.length) .any,heap:=H,low:=H.length}):FnG P f args H V:=by
 refine⟨?_,hnb,Ft,fun C φ w hP h0 hN0 hφ0 hM HS vs hr=> ?_⟩
 ·unfold enters;rw[hf];simp only[hb,dJ,Bool.true_and];exact hne
 ·subst hP;refine(callsIn_wide (n:=0)).1 (callsIn_of_wp_marks hf hb trivial ?_);have hsz:vs.size=args.length:=by have:=hr.length;simpa using this
  have S:mo C φ {slots:=args++cq (n-args.length) .any,heap:=H,low:=H.length} {tmps:=vs++cn (fn.ntmps-vs.size) undef,defers:=[]} w:=by
   refine {HS with slots:= ?_,defers:=qT.nil};simp only[cT,cW];refine hr.append ?_;rw[hsz,hn];have:=kC.B4 (E:=C.env φ H w) (cq (n-args.length) undef);simpa using this
  refine wpIn_mono (vN (ro:=none) c _ φ _ _ w (.inl rfl) h S) ?_;intro e a' w' hq;have Ez: ∀{φ':Nat->Value}{σ':jZ}{a'':Act}{w'':World},mo C φ' σ' a'' w''->σ'.low=H.length:=fun S'=>by rw[<-S'.low.1];exact hN0
  have fin:=YZ (C:=C) (tmps:=a'.tmps) (fn:=fn) (R:=fun e w'=> ∃o φ' H',V o H'/\mo C φ' {slots:=[],heap:=H',low:=H.length} {tmps:= #[],defers:=[]} w'/\o.No (C.env φ' H' w') e) (fin:=abk C.P rs V)
   (by
     rintro φ' σ' w' S' ⟨x,hx,r,H',hex,hV⟩;obtain⟨v,hv,rv⟩:=Jy (fn:=fn) S' (by rw[Ia];exact hx);obtain⟨φ2,S2,hr2⟩:=hex C φ' _ w' S' v rv;rw[Ez S'] at S2;exact⟨v,hv,.ret r,φ2,H',hV,S2,hr2⟩)
   (by
     rintro φ' σ' x v w' S' hx ⟨r,H',hex,hV⟩;obtain⟨φ2,S2,hr2⟩:=hex C φ' _ w' S' v hx;rw[Ez S'] at S2;exact⟨.panic r,φ2,H',hV,S2,v,rfl,hr2⟩) a'.defers
  cases e with
  |normal=>obtain⟨φ',σ',S',hq⟩:=hq;exact fin.1 φ' σ' w' S' hq
  |ret=>obtain⟨φ',σ',S',hq⟩:=hq;exact fin.1 φ' σ' w' S' hq
  |exit id=>obtain⟨_,_,_,hq⟩:=hq;exact hq.elim
  |goto l=>obtain⟨_,_,_,hq⟩:=hq;exact hq.elim
  |panic chain=>
   obtain⟨φ',σ',x,v,S',hq,hch,rF⟩:=hq;subst hch;exact fin.2 φ' σ' x v w' (mo.ah4 (tmps:=a'.tmps) (ds:=a'.defers) S' rF) hq
  |outgrown=>exact hq.elim
def ap7(P:Program)(rs:List ResultVar)(V:AV->Prop):Option AV->jZ->Prop
 |none,σ=>ap6 V σ.heap (KJ P σ rs)
 |some _,_=>False
def ase(P:Program)(rs:List ResultVar)(V:AV->Prop):mM->jZ->Prop
 | .normal,σ=>Z6 P (ap7 P rs V) σ.df none σ
 | .ret,σ=>Z6 P (ap7 P rs V) σ.df none σ
 | .panic x,σ=>Z6 P (ap7 P rs V) σ.df (some x) σ
 |_,_=>False
def ah5 {fn:Func} {V:AV->Prop} (hf:P.funcs[f]? =some fn) (hb:fn.body=some c) (hne:(fn.name != "runtime.NumGoroutine")=true) (hnb:vK 0 args)
 (h:awp P c (ase P fn.results.toList V) {slots:=args++cq (fn.ntmps-args.length) .any,heap:=[]}):IR P f args V:=by
 refine⟨?_,hnb,fun C φ w hP h0 hN hM vs hr=> ?_⟩
 ·unfold enters;rw[hf];simp only[hb,dJ,Bool.true_and];exact hne
 ·subst hP;refine (callsIn_wide (n:=0)).1 (callsIn_of_wp_marks hf hb trivial ?_);have hsz:vs.size=args.length:=by have:=hr.length;simpa using this
  have S:mo C φ {slots:=args++cq (fn.ntmps-args.length) .any,heap:=[]} {tmps:=vs++cn (fn.ntmps-vs.size) undef,defers:=[]} w:=by
   refine {slots:= ?_,defers:=qT.nil,nN:=by simp,apart:=by simp,sE:=by simp,size:=by rw[h0];exact cm _,old:=fun b o _ _=>by rw[h0],nj:=fun b _ _=>by rw[h0],B8:=by simp,u1:=fun x _=>by rw[h0],rest:=by rw[h0];exact⟨rfl,rfl⟩,low:=⟨hN,cm _⟩,names:=fun l hl=>by rw[hN] at hl;exact absurd hl (cw _)};simp only[cT,cW];refine hr.append ?_;rw[hsz];have:=kC.B4 (E:=C.env φ [] w) (cq (fn.ntmps-args.length) undef);simpa using this
  refine wpIn_mono (vN (ro:=none) c _ φ _ _ w (.inl rfl) h S) ?_;intro e a' w' hq
  have fin:=YZ (C:=C) (tmps:=a'.tmps) (fn:=fn) (R:=fun e w'=> ∃r v φ',V r/\e= .returned v/\n8 (C.env φ' [] w') r v/\w.heap.size<=w'.heap.size/\(∀b,b<w.heap.size->w'.heap[b]? =w.heap[b]?)/\
        (∀x,x.block<w.heap.size->w'.frozen? x=w.frozen? x)/\w'.output=w.output/\w'.os=w.os) (fin:=ap7 C.P fn.results.toList V)
   (by
     intro φ' σ' w' S' hend;simp only[ap7] at hend;cases hx:KJ C.P σ' fn.results.toList with
     |none=>rw[hx] at hend;exact hend.elim
     |some x=>
     rw[hx] at hend;obtain⟨hn,r0,hsub,hV⟩:=hend;obtain⟨v,hv,rv⟩:=Jy S' hx;refine⟨v,hv,_,v,φ',hV,rfl,hsub _ _ (by have:=abd S' (S'.axQ (by rw[<-S'.low.1];exact hN)) x v;rw[<-S'.low.1,hN] at this;exact this hn rv),?_,?_,?_,?_⟩
     ·rw[<-h0];exact S'.size
     ·intro b hb;rw[<-h0];exact S'.nj b (by rw[h0];exact hb) (fun o=>hM b o)
     ·intro y hy;rw[<-h0];exact S'.u1 y (by rw[h0];exact hy)
     ·rw[<-h0];exact S'.rest)
   (by
     intro φ' σ' x v w' S' hx hend;exact hend.elim) a'.defers
  cases e with
  |normal=>obtain⟨φ',σ',S',hq⟩:=hq;exact fin.1 φ' σ' w' S' hq
  |ret=>obtain⟨φ',σ',S',hq⟩:=hq;exact fin.1 φ' σ' w' S' hq
  |exit id=>obtain⟨_,_,_,hq⟩:=hq;exact hq.elim
  |goto l=>obtain⟨_,_,_,hq⟩:=hq;exact hq.elim
  |panic chain=>
   obtain⟨φ',σ',x,v,S',hq,hch,rF⟩:=hq;subst hch;exact fin.2 φ' σ' x v w' (mo.ah4 (tmps:=a'.tmps) (ds:=a'.defers) S' rF) hq
  |outgrown=>exact hq.elim
attribute [go_sem] AV.pe qQ DI kq.pe sO.pe nv uB qw Q8 axX
def Px:List AV->List Tmp->List AV->List AV
 |s,p::ps,x::xs=>Px (s.set p x) ps xs
 |s,_,_=>s
def agY{E:Env}: ∀{ps:List Tmp}{xs:List AV}{vs:List Value}{s:List AV}{t:Array Value},kC E xs vs->kC E s t.toList->
 kC E (Px s ps xs) ((ps.zip vs).foldl (fun t (p:Tmp×Value)=>t.setIfInBounds p.1 p.2) t).toList
 |[],_,_,_,_,_,h=>by simpa [Px] using h
 |_::_,[],_,_,_,rfl,h=>by simpa [Px] using h
 |p::ps,x::xs,_,s,t,⟨u,us,rfl,r1,r2⟩,h=>by
  simp only[Px,List.zip_cons_cons,List.foldl_cons];refine agY r2 ?_;have:=h.set (i:=p) r1
  grind
def aec:mM->Option (Option Code)
 | .normal=>some none
 | .ret=>some (some .ret)
 | .exit id=>some (some (.exit id))
 |_=>none
def aoU(V:sO->List kq->Prop)(e:mM)(σ:jZ):Prop:=
 ∃j k s,aec e=some (pG k.js j)/\σ.heap[0]? =some (.loop k s .busy 0)/\ ∃r H',YY {σ with heap:=σ.heap.set 0 (.loop k s (stP (pG k.js j)) j)} (.bool (pG k.js j).isNone) r H'/\V (.ret r) H'
def ah6{k:wy}(hH:H[0]? =some (.loop k slots .ready 0))
 (hnb:vK H.length args) (Ft: ∀x∈H,qk H.length x) (hn:vM k.assign=true/\vM k.body=true)
 (h:awp P k.assign (mM.then (fun σ1=> ∃k1 s1,σ1.heap[0]? =some (.loop k1 s1 .ready 0)/\awp P k.body (aoU V) {σ1 with heap:=σ1.heap.set 0 (.loop k1 s1 .busy 0)}) (fun _ _=>False))
   {slots:=Px slots k.ps.toList args,heap:=H,low:=H.length}):FnT P (U2 P) args H V:=by
 refine⟨hnb,Ft,fun C φ w hP h0 hN hφ0 hM HS vs hr D rec hφ hw=> ?_⟩;subst hP;have hpos:0<H.length:=(b9.1 hH).1
 have asf: ∀{φ':Nat->Value}{σ':jZ}{a':Act}{w':World},mo C φ' σ' a' w'->φ' 0= .func (.yield (D+1)) #[] #[]:=by
  intro φ' σ' a' w' S';rcases S'.names 0 (by omega) with⟨h1,_⟩|⟨⟨n,h1,_⟩,_⟩
  ·rw[h1,(hφ0 0 hpos).1];exact hφ
  ·rw[(hφ0 0 hpos).2,hH] at h1;cases h1
 have Ez: ∀{φ':Nat->Value}{σ':jZ}{a':Act}{w':World},mo C φ' σ' a' w'->σ'.low=H.length:=fun S'=>by rw[<-S'.low.1];exact hN
 have Kq: ∀{φ':Nat->Value}{σ':jZ}{a':Act}{w':World}{k:wy}{s:List AV}{st:LoopState}{c:Int},mo C φ' σ' a' w'->σ'.heap[0]? =some (.loop k s st c)->
  ∃U9,w'.heap[D+1]? =some (.loop U9)/\(U9.params=k.ps/\U9.assign=k.assign/\U9.body=k.body/\U9.state=st/\U9.pending=pG k.js c/\U9.defers=D)/\kC (C.env φ' σ'.heap w') s U9.tmps.toList:=by
  intro φ' σ' a' w' k s st c S' h0;obtain⟨D',U9,e1,g1,g2,g3,rl⟩:=S'.nN 0 _ h0;rw[asf S'] at e1;simp only[cZ,Fn.yield.injEq,cJ,and_true] at e1;subst e1;exact⟨U9,g1,g3,rl⟩
 obtain⟨aDB,g1,g3,rl⟩:=Kq HS hH;rw[hw] at g1;cases g1;rw[g3.1,g3.2.1,g3.2.2.1];refine roundIn_of_wpIn (F:=ct) trivial ?_
 have S:mo C φ {slots:=Px slots k.ps.toList args,heap:=H,low:=H.length} {tmps:=(k.ps.zip vs).foldl (fun tmps (t,a)=>tmps.setIfInBounds t a) rec.tmps,defers:=[]} w:=by
  refine {HS with slots:= ?_,defers:=qT.nil};have:=agY (ps:=k.ps.toList) hr rl
  grind [Array.toList_zip]
 refine wpIn_mono (vN (ro:=some (D+1)) k.assign _ φ _ _ w (.inr hn.1) h S) ?_;intro e a1 w1 hq;cases e with
 |exit id=>obtain⟨_,_,_,hq⟩:=hq;exact hq.elim
 |goto l=>obtain⟨_,_,_,hq⟩:=hq;exact hq.elim
 |ret=>obtain⟨_,_,_,hq⟩:=hq;exact hq.elim
 |panic ch=>obtain⟨_,_,_,_,_,hq,_⟩:=hq;exact hq.elim
 |outgrown=>exact hq.elim
 |normal=>
  obtain⟨φ1,σ1,S1,k1,s1,hH1,hbody⟩:=hq;obtain⟨aAs,kk,k3,_⟩:=Kq S1 hH1;refine⟨_,run_beginRound kk k3.2.2.2.1,?_⟩;have S2:=S1.ah1 (st':= .busy) (Jz:=0) hH1 (asf S1) kk
  have e2:({aAs with state:= .busy,pending:=pG k1.js 0}:Loop)={aAs with state:= .busy}:=by
   rw[<-k3.2.2.2.2.1]
  rw[e2] at S2;refine wpIn_mono (vN (ro:=some (D+1)) k.body _ _ _ _ _ (.inr hn.2) hbody S2) ?_
  have fin: ∀(e:mM)(c:Option Code)(φ2:Nat->Value)(σ2:jZ)(a2:Act)(w3:World),aec e=some c->mo C φ2 σ2 a2 w3->aoU V e σ2->
   ∃v w',(Instr.endRound (D+1) c).run C.P w3= .ok v w'/\ ∃o φ' H',V o H'/\mo C φ' {slots:=[],heap:=H',low:=H.length} {tmps:= #[],defers:=[]} w'/\o.No (C.env φ' H' w') (.returned v):=by
   rintro e c φ2 σ2 a2 w3 hj S3 ⟨j,k2,s2,hj',hH2,r,H',hex,hV⟩;rw[hj] at hj';obtain rfl:c=pG k2.js j:=Option.some.inj hj';obtain⟨aDC,m1,m3,_⟩:=Kq S3 hH2;have S4:=S3.ah1 (st':=stP (pG k2.js j)) (Jz:=j) hH2 (asf S3) m1;have hend:=run_endRound (P:=C.P) (pG k2.js j) m1;have est:(if (pG k2.js j).isNone then LoopState.ready else .done)=stP (pG k2.js j):=by cases pG k2.js j<;>rfl
   rw[est] at hend;obtain⟨φ5,S5,hr5⟩:=hex C φ2 a2 _ S4 (.bool (pG k2.js j).isNone) rfl;rw[show σ2.low=H.length from Ez S3] at S5;exact⟨_,_,hend,.ret r,φ5,H',hV,S5,hr5⟩
  intro e a2 w3 hq;cases e with
  |normal=>obtain⟨φ2,σ2,S3,hq⟩:=hq;exact fin .normal none φ2 σ2 a2 w3 rfl S3 hq
  |ret=>obtain⟨φ2,σ2,S3,hq⟩:=hq;exact fin .ret _ φ2 σ2 a2 w3 rfl S3 hq
  |exit id=>obtain⟨φ2,σ2,S3,hq⟩:=hq;exact fin (.exit id) _ φ2 σ2 a2 w3 rfl S3 hq
  |goto l=>obtain⟨_,_,_,_,_,_,hq,_⟩:=hq;cases hq
  |panic ch=>obtain⟨_,_,_,_,_,⟨_,_,_,hq,_⟩,_⟩:=hq;cases hq
  |outgrown=>exact hq.elim
def child:Nat->Code->Code
 |0,.seq x _=>x
 |1,.seq _ y=>y
 |0,.cond _ x _=>x
 |1,.cond _ _ y=>y
 |0,.block _ x=>x
 |0,.loop x=>x
 |0,.scope x=>x
 |_,_=> .skip
def sub:List Nat->Code->Code
 |[],c=>c
 |d::p,c=>child d (sub p c)
inductive Kt where
 |at (p:List Nat)
 |cut (p:List Nat)
 |ops (ops:Array Oper) (rest:List Oper)
 |MV (p:List Nat) (rest:List Oper) (j:Nat) (tr:List Tr)
 |blk (id:Nat)
 |lp (m:Nat) (p:List Nat)
 |lq (m:Nat) (p:List Nat)
 |rb
 |rd
def amM(σ:jZ):Option kq->Option jZ
 |some (.loop k s .ready 0)=>some {σ with heap:=σ.heap.set 0 (.loop k s .busy 0)}
 |_=>none
def abl(σ:jZ):Option jZ:=amM σ σ.heap[0]?
section

def amN:Code->Array Oper
 | .region _ ops _=>ops
 |_=> #[]
def rj(M:kU R)(p:List Nat):Array Oper:=amN (sub p M.body)
def xu(M:kU R):Kt->jZ->Option (mM×jZ)
 | .at p,σ=>exec M (sub p M.body) p σ
 | .cut p,σ=>(M.cut p σ).map fun σ'=>(.normal,σ')
 | .ops ops rest,σ=>tA M ops rest σ
 | .MV p rest j tr,σ=>GJ M (rj M p) rest j tr σ
 | .blk _,σ=>some (.normal,σ)
 | .lp m p,σ=>(M.rG p σ).bind (lqN (M.rG p) (exec M (sub (0::p) M.body) (0::p)) m)
 | .lq m p,σ=>lqN (M.rG p) (exec M (sub (0::p) M.body) (0::p)) m σ
 | .rb,σ=>(abl σ).map fun σ'=>(.normal,σ')
 | .rd,_=>none
def fin(M:kU R):List Kt->mM->jZ->Option R
 |[],.normal,σ=>M.out σ
 |[],.ret,σ=>M.out σ
 |[],.panic x,σ=>M.oz x σ
 |[],_,_=>none
 | .rd::_,e,σ=>M.nH e σ
 | .blk id::k,.exit id',σ=>if id'=id then fin M k .normal σ else fin M k (.exit id') σ
 |x::k,.normal,σ=>match xu M x σ with
  |some (e,σ')=>fin M k e σ'
  |none=>none
 |_::k,e,σ=>fin M k e σ
def run(M:kU R)(k:List Kt)(σ:jZ):Option R:=fin M k .normal σ
variable {M:kU R} {k:List Kt}
def avn:run M [] σ=M.out σ:=rfl
def avo{id:Nat}:run M (.blk id::k) σ=run M k σ:=rfl
theorem pg{x:Kt}(h: ∀id,x≠ .blk id)(h2:x≠ .rd:=by simp):fin M (x::k) .normal σ=match xu M x σ with
 |some (e,σ')=>fin M k e σ'
 |none=>none:=by
 cases x<;>first|rfl|exact absurd rfl (h _)|exact absurd rfl h2
def ajX:run M (.ops ops []::k) σ=run M k σ:=rfl
def ah7:run M (.MV p [] j tr::k) σ=run M k σ:=rfl
def behind(id:Nat):List Kt->Option (List Kt)
 |[]=>none
 | .blk id'::k=>if id=id' then some k else behind id k
 | .rd::_=>none
 |_::k=>behind id k
def aAt:Kt->Bool
 | .rd=>true
 |_=>false
def ajY:List Kt->Bool
 |[]=>false
 |x::k=>aAt x||ajY k
def EB{id:Nat}: ∀{k k':List Kt},behind id k=some k'->fin M k (.exit id) σ=run M k' σ
 |[],_,h=>by simp [behind] at h
 | .blk id'::k,k',h=>by
   simp only[behind] at h;split at h
   ·rename_i e;cases h;subst e;simp only[fin,jU];rfl
   ·rename_i e;simp only[fin,e,if_false];exact EB h
 | .at _::k,k',h=>EB (k:=k) (by simpa [behind] using h)
 | .cut _::k,k',h=>EB (k:=k) (by simpa [behind] using h)
 | .ops _ _::k,k',h=>EB (k:=k) (by simpa [behind] using h)
 | .MV _ _ _ _::k,k',h=>EB (k:=k) (by simpa [behind] using h)
 | .lp _ _::k,k',h=>EB (k:=k) (by simpa [behind] using h)
 | .lq _ _::k,k',h=>EB (k:=k) (by simpa [behind] using h)
 | .rb::k,k',h=>EB (k:=k) (by simpa [behind] using h)
 | .rd::k,k',h=>by simp [behind] at h
def EC{id:Nat}: ∀{k:List Kt},behind id k=none->fin M k (.exit id) σ=bif ajY k then M.nH (.exit id) σ else none
 |[],_=>rfl
 | .blk id'::k,h=>by
   simp only[behind] at h;split at h
   ·cases h
   ·rename_i e;simp only[fin,e,if_false];exact EC h
 | .rb::k,h=>EC (k:=k) (by simpa [behind] using h)
 | .rd::k,h=>rfl
 | .at _::k,h=>EC (k:=k) (by simpa [behind] using h)
 | .cut _::k,h=>EC (k:=k) (by simpa [behind] using h)
 | .ops _ _::k,h=>EC (k:=k) (by simpa [behind] using h)
 | .MV _ _ _ _::k,h=>EC (k:=k) (by simpa [behind] using h)
 | .lp _ _::k,h=>EC (k:=k) (by simpa [behind] using h)
 | .lq _ _::k,h=>EC (k:=k) (by simpa [behind] using h)
def Ji: ∀{k:List Kt},fin M k .ret σ=bif ajY k then M.nH .ret σ else M.out σ
 |[]=>rfl
 | .rb::k=>Ji (k:=k)
 | .rd::k=>rfl
 | .blk _::k=>Ji (k:=k)
 | .at _::k=>Ji (k:=k)
 | .cut _::k=>Ji (k:=k)
 | .ops _ _::k=>Ji (k:=k)
 | .MV _ _ _ _::k=>Ji (k:=k)
 | .lp _ _::k=>Ji (k:=k)
 | .lq _ _::k=>Ji (k:=k)
def ah8(M:kU R)(x:AV)(σ:jZ)(k:List Kt):Option R:=bif ajY k then M.nH (.panic x) σ else M.oz x σ
theorem Ai{x:AV}: ∀{k:List Kt},fin M k (.panic x) σ=ah8 M x σ k
 |[]=>rfl
 | .rb::k=>Ai (k:=k)
 | .rd::k=>rfl
 | .blk _::k=>Ai (k:=k)
 | .at _::k=>Ai (k:=k)
 | .cut _::k=>Ai (k:=k)
 | .ops _ _::k=>Ai (k:=k)
 | .MV _ _ _ _::k=>Ai (k:=k)
 | .lp _ _::k=>Ai (k:=k)
 | .lq _ _::k=>Ai (k:=k)
def agZ(M:kU R)(σ:jZ)(id:Nat)(k:List Kt):Option (List Kt)->Option R
 |some k=>run M k σ
 |none=>bif ajY k then M.nH (.exit id) σ else none
def amO{id:Nat}{k k':List Kt}:agZ M σ id k (some k')=run M k' σ:=rfl
def amP{id:Nat}{k:List Kt}:agZ M σ id k none=bif ajY k then M.nH (.exit id) σ else none:=rfl
def asg(M:kU R)(σ:jZ)(k:List Kt):Option R:=bif ajY k then M.nH .ret σ else M.out σ
def aed(M:kU R)(k:List Kt)(σ:jZ):Option Code->Option R
 |none=>run M k σ
 |some .ret=>asg M σ k
 |some (.exit id)=>agZ M σ id k (behind id k)
 |_=>none
def aee(M:kU R)(k:List Kt)(σ:jZ)(H':List kq):Option kq->Option R
 |some (.loop lk _ st rQ)=>mA (st=stP (pG lk.js rQ)) (aed M k {σ with heap:=H'.set σ.heap.length .dead} (pG lk.js rQ))
 |_=>none
def Y0(M:kU R)(k:List Kt)(σ:jZ):Option (AV×List kq)->Option R
 |some (_,H')=>aee M k σ H' H'[σ.heap.length]?
 |none=>none
def aoV(M:kU R)(lk:wy)(k:List Kt)(σ:jZ):AV->Option R
 | .func (.func f) first cap=>Y0 M k σ (M.cl f (first++[.map σ.heap.length]++cap) (σ.heap++[.loop lk σ.slots .ready 0]))
 |_=>none
def amQ:aed M k σ none=run M k σ:=rfl
def ap8:aed M k σ (some .ret)=asg M σ k:=rfl
def amR{id:Nat}:aed M k σ (some (.exit id))=agZ M σ id k (behind id k):=rfl
theorem ajZ{st:LoopState}:aee M k σ H' (some (.loop lk s st rQ))=mA (st=stP (pG lk.js rQ)) (aed M k {σ with heap:=H'.set σ.heap.length .dead} (pG lk.js rQ)):=rfl
def aj0:Y0 M k σ (some (r,H'))=aee M k σ H' H'[σ.heap.length]? :=rfl
def aj1:Y0 M k σ none=none:=rfl
def aj2{o:Option α}{f:α->Option (AV×List kq)}:Y0 M k σ (o.bind f)=o.bind fun x=>Y0 M k σ (f x):=by cases o<;>rfl
def amS {cap:List AV}:aoV M lk k σ (.func (.func f) first cap)=Y0 M k σ (M.cl f (first++[.map σ.heap.length]++cap) (σ.heap++[.loop lk σ.slots .ready 0])):=rfl
def abm(M:kU R)(c:Operand)(p:List Nat)(k:List Kt)(σ:jZ):AV->Option R
 | .bool b=>bif b then run M (.at (0::p)::k) (ad5 c true σ) else run M (.at (1::p)::k) (ad5 c false σ)
 |_=>none
def aj3{c:Operand}:abm M c p k σ (.bool true)=run M (.at (0::p)::k) (ad5 c true σ):=rfl
def ah9{c:Operand}:abm M c p k σ (.bool false)=run M (.at (1::p)::k) (ad5 c false σ):=rfl
def amT{c:Operand}:abm M c p k σ (.bool b)=bif b then run M (.at (0::p)::k) (ad5 c true σ) else run M (.at (1::p)::k) (ad5 c false σ):=rfl
def tM(M:kU R)(p:List Nat):Bool:=
 match sub p M.body with
 | .region _ ops _=>Fq ops
 |_=>false
def avp(js:List (Int×Code)):Code->wy
 | .rangeFunc _ ps as body=>⟨ps,as,body,js⟩
 |_=>⟨#[],.skip,.skip,[]⟩
def lkM(M:kU R)(p:List Nat):wy:=avp (M.js p) (sub p M.body)
def CQ(M:kU R)(p:List Nat)(k:List Kt)(σ:jZ):Code->Option R
 | .skip=>run M k σ
 | .region _ ops false=>run M (.ops ops ops.toList::k) σ
 | .region _ ops true=>mA (M.P.follows .mixedOrders=true/\tM M p=true) (run M (.MV p ops.toList 0 []::k) σ)
 | .seq _ _=>run M (.at (0::p):: .cut (1::p):: .at (1::p)::k) σ
 | .cond c _ _=>abm M c p k σ (σ.ev c)
 | .block id _=>run M (.at (0::p):: .blk id::k) σ
 | .loop _=>run M (.lp M.n p::k) σ
 | .exit id=>agZ M σ id k (behind id k)
 | .scope _=>run M (.at (0::p)::k) σ
 | .label _=>run M k σ
 | .ret=>asg M σ k
 | .rangeFunc g _ _ _=>aoV M (lkM M p) k σ (σ.ev g)
 |_=>none
theorem ap9{id:Nat}{e:mM}:fin M (.blk id::k) e σ=match (match e with
 | .exit id'=>if id'=id then(mM.normal,σ) else(.exit id',σ)
 |e=>(e,σ)) with
 |(e,σ)=>fin M k e σ:=by
 cases e with
 |exit id'=>
  simp only[fin];split<;>rfl
 |_=>rfl
theorem aj4{x:Kt}{e:mM}(h: ∀id,x≠ .blk id)(he:e≠ .normal)(h2:x≠ .rd:=by simp):fin M (x::k) e σ=fin M k e σ:=by
 cases x<;>cases e<;>first|rfl|exact absurd rfl (h _)|exact absurd rfl he|exact absurd rfl h2
def ayt:run M (.at p::k) σ=CQ M p k σ (sub p M.body):=by
 show fin M (.at p::k) .normal σ=_;rw[pg (by simp)];simp only[xu];cases hc:sub p M.body with
 |skip=>rfl
 |region id ops b=>
  cases b with
  |false=>
   simp only[exec,CQ];show _=fin M (.ops ops ops.toList::k) .normal σ
   grind [pg,xu]
  |true=>
   simp only[exec,CQ];show _=mA _ (fin M (.MV p ops.toList 0 []::k) .normal σ)
   grind [pg,xu,tM,rj,amN,mA]
 |seq x y=>
  simp only[exec,CQ];show _=fin M (.at (0::p):: .cut (1::p):: .at (1::p)::k) .normal σ;rw[pg (by simp)];have h0:sub (0::p) M.body=x:=by simp [sub,hc,child]
  have h1:sub (1::p) M.body=y:=by simp [sub,hc,child]
  simp only[xu,h0];cases hx:exec M x (0::p) σ with
  |none=>rfl
  |some r=>
   obtain⟨e1,σ1⟩:=r;cases e1 with
   |normal=>
    simp only;rw[pg (by simp)];simp only[xu];cases ayu:M.cut (1::p) σ1 with
    |none=>rfl
    |some σ2=>
     grind [pg,xu]
   |_=>
    simp_all [aj4]
 |cond c x y=>
  simp only[exec,CQ];have h0:sub (0::p) M.body=x:=by simp [sub,hc,child]
  have h1:sub (1::p) M.body=y:=by simp [sub,hc,child]
  cases hv:σ.ev c with
  |bool b=>
   simp only[abm];cases b with
   |true=>
    simp only[jM];show _=fin M (.at (0::p)::k) .normal _
    grind [pg,xu]
   |false=>
    simp only[jN];show _=fin M (.at (1::p)::k) .normal _
    grind [pg,xu]
  |_=>rfl
 |block id x=>
  simp only[exec,CQ];have h0:sub (0::p) M.body=x:=by simp [sub,hc,child]
  show _=fin M (.at (0::p):: .blk id::k) .normal σ
  grind [pg,xu,ap9]
 |loop x=>
  simp only[exec,CQ];have h0:sub (0::p) M.body=x:=by simp [sub,hc,child]
  show _=fin M (.lp M.n p::k) .normal σ
  grind [pg,xu]
 |exit id=>
  simp only[exec,CQ];cases hb:behind id k with
  |none=>exact EC hb
  |some k'=>exact EB hb
 |scope x=>
  simp only[exec,CQ];have h0:sub (0::p) M.body=x:=by simp [sub,hc,child]
  show _=fin M (.at (0::p)::k) .normal σ
  grind [pg,xu]
 |label l=>rfl
 |ret=>exact Ji
 |goto l=>rfl
 |rangeFunc g ps as body=>
  have hlk:lkM M p=⟨ps,as,body,M.js p⟩:=by simp only[lkM,hc,avp]
  simp only[exec,CQ,hlk];cases hv:σ.ev g with
  |func fn first cap=>
   cases fn with
   |func f=>
    simp only[asa,aoV];cases hcl:M.cl f (first++[.map σ.heap.length]++cap) (σ.heap++[.loop ⟨ps,as,body,M.js p⟩ σ.slots .ready 0]) with
    |none=>rfl
    |some q=>
     obtain⟨r,H'⟩:=q;simp only[Y0];cases hH:H'[σ.heap.length]? with
     |none=>rfl
     |some x=>
      cases x with
      |loop lk s st rQ=>
       simp only[avi,aee];by_cases hst:st=stP (pG lk.js rQ)
       ·simp only[mA,if_pos hst];generalize pG lk.js rQ=pc;cases pc with
        |none=>rfl
        |some c=>
         cases c with
         |ret=>exact Ji
         |exit id=>
          simp only[ajR,aed];cases hb:behind id k with
          |none=>exact EC hb
          |some k'=>exact EB hb
         |_=>rfl
       ·simp only[mA,if_neg hst]
      |_=>rfl
   |_=>rfl
  |_=>rfl
 |refuse s=>rfl
def amU:CQ M p k σ .skip=run M k σ:=rfl
def aia{id:Nat}:CQ M p k σ (.region id ops false)=run M (.ops ops ops.toList::k) σ:=rfl
def amV{id:Nat}:CQ M p k σ (.region id ops true)=mA (M.P.follows .mixedOrders=true) (mA (tM M p=true) (run M (.MV p ops.toList 0 []::k) σ)):=by
 rw[<-Xb];rfl
def aqa{x y:Code}:CQ M p k σ (.seq x y)=run M (.at (0::p):: .cut (1::p):: .at (1::p)::k) σ:=rfl
def amW{c:Operand}{x y:Code}:CQ M p k σ (.cond c x y)=abm M c p k σ (σ.ev c):=rfl
def aj5{id:Nat}{x:Code}:CQ M p k σ (.block id x)=run M (.at (0::p):: .blk id::k) σ:=rfl
def amX{x:Code}:CQ M p k σ (.loop x)=run M (.lp M.n p::k) σ:=rfl
def amY{id:Nat}:CQ M p k σ (.exit id)=agZ M σ id k (behind id k):=rfl
def aj6 {as:Code}:CQ M p k σ (.rangeFunc g ps as body)=aoV M (lkM M p) k σ (σ.ev g):=rfl
def aj7{x:Code}:CQ M p k σ (.scope x)=run M (.at (0::p)::k) σ:=rfl
def aj8:CQ M p k σ (.label l)=run M k σ:=rfl
def aqb:CQ M p k σ .ret=asg M σ k:=rfl
def ayv:run M (.rb::k) σ=(abl σ).bind fun σ'=>run M k σ':=by
 show fin M (.rb::k) .normal σ=_;rw[pg (by simp)];simp only[xu];cases abl σ<;>rfl
def ayw:run M (.rd::k) σ=M.nH .normal σ:=rfl
def avq:run M (.cut p::k) σ=(M.cut p σ).bind fun σ'=>run M k σ':=by
 show fin M (.cut p::k) .normal σ=_;rw[pg (by simp)];simp only[xu];cases M.cut p σ<;>rfl
def ayx:run M (.lp m p::k) σ=(M.rG p σ).bind fun σ'=>run M (.lq m p::k) σ':=by
 show fin M (.lp m p::k) .normal σ=_;rw[pg (by simp)];simp only[xu];cases h:M.rG p σ with
 |none=>rfl
 |some σ'=>
  simp only[cv];show _=fin M (.lq m p::k) .normal σ'
  grind [pg,xu]
def JA:run M (.lq 0 p::k) σ=none:=by
 show fin M (.lq 0 p::k) .normal σ=_
 grind [pg,xu,lqN]
theorem CR:run M (.lq (m+1) p::k) σ=run M (.at (0::p):: .lp m p::k) σ:=by
 show fin M (.lq (m+1) p::k) .normal σ=fin M (.at (0::p):: .lp m p::k) .normal σ;rw[pg (by simp),pg (by simp)];simp only[xu,lqN];cases hx:exec M (sub (0::p) M.body) (0::p) σ with
 |none=>rfl
 |some r=>
  obtain⟨e1,σ1⟩:=r;cases e1 with
  |normal=>
   grind [pg,xu]
  |_=>
   grind [aj4]
def qU(M:kU R)(ops:Array Oper)(dst:Option Tmp)(rest:List Oper)(k:List Kt)(σ:jZ):Option ux->Option R
 |some e=>mA e.pre (run M (.ops ops rest::k) (σ.app dst e))
 |none=>none
def LQ(M:kU R)(ops:Array Oper)(dst:Option Tmp)(rest:List Oper)(k:List Kt)(σ:jZ):Option (AV×List kq)->Option R
 |some (r,H')=>run M (.ops ops rest::k) (jZ.put {σ with heap:=H'} dst r)
 |none=>none
def Nu(M:kU R)(ops:Array Oper)(dst:Option Tmp)(rest:List Oper)(k:List Kt)(σ:jZ):Option (sO×List kq)->Option R
 |some (.ret r,H')=>run M (.ops ops rest::k) (jZ.put {σ with heap:=H'} dst r)
 |some (.panic x,H')=>ah8 M x {σ with heap:=H'} k
 |none=>none
def aoW(M:kU R)(ops:Array Oper)(dst:Option Tmp)(rest:List Oper)(k:List Kt)(σ:jZ):Option (FuncId×List AV)->Option R
 |some p=>run M (.ops ops rest::k) (σ.dfr p dst)
 |none=>none
def aoX(M:kU R)(k:List Kt)(σ:jZ):Option AV->Option R
 |some x=>ah8 M x σ k
 |none=>none
def uv(M:kU R)(ops:Array Oper)(dst:Option Tmp)(rest:List Oper)(k:List Kt)(σ:jZ):Op->Option R
 | .defer c=>aoW M ops dst rest k σ (DH σ (.defer c))
 | .panic x=>aoX M k σ (Pq σ (.panic x))
 |o=>qU M ops dst rest k σ (k7 M.P σ o)
def ag0(M:kU R)(ops:Array Oper)(o:Oper)(rest:List Oper)(k:List Kt)(σ:jZ):Option (Nat×List AV)->Option R
 |some (l,args)=>LQ M ops o.dst rest k σ (M.cy l args σ.heap)
 |none=>uv M ops o.dst rest k σ o.op
def aef(M:kU R)(ops:Array Oper)(o:Oper)(rest:List Oper)(k:List Kt)(σ:jZ):Option (FuncId×List AV)->Option R
 |some (f,args)=>bif M.uR f then Nu M ops o.dst rest k σ (M.cp f args σ.heap) else LQ M ops o.dst rest k σ (M.cl f args σ.heap)
 |none=>ag0 M ops o rest k σ (yieldOf σ o.op)
def aj9(M:kU R)(ops:Array Oper)(o:Oper)(rest:List Oper)(k:List Kt)(σ:jZ):Option Bool->Option R
 |none=>none
 |some b=>bif b then aef M ops o rest k (tG ops o true σ) (mq (tG ops o true σ) o.op) else run M (.ops ops rest::k) ((tG ops o false σ).put o.dst (.raw undef))
def avr {rest:List Oper}:run M (.ops ops (o::rest)::k) σ=aj9 M ops o rest k σ (pm ops o σ):=by
 have hr: ∀σ,run M (.ops ops rest::k) σ=match tA M ops rest σ with|some (e,σ')=>fin M k e σ'|none=>none:=by
  intro σ;show fin M (.ops ops rest::k) .normal σ=_
  grind [pg,xu]
 have hl:run M (.ops ops (o::rest)::k) σ=match tA M ops (o::rest) σ with|some (e,σ')=>fin M k e σ'|none=>none:=by
  show fin M (.ops ops (o::rest)::k) .normal σ=_
  grind [pg,xu]
 rw[hl];simp only[tA];cases hw:pm ops o σ with
 |none=>rfl
 |some b=>
  simp only[aj9];cases b with
  |false=>simp only[jN,hr]
  |true=>
   simp only[jM];cases hc:mq (tG ops o true σ) o.op with
   |some q=>
    grind [aef,Nu,Ai,LQ]
   |none=>
    simp only[aef];cases hy:yieldOf (tG ops o true σ) o.op with
    |some q=>
     grind [ag0,LQ]
    |none=>
     simp only[ag0]
     have key:(∀c,o.op≠ .defer c)->(∀x,o.op≠ .panic x)->uv M ops o.dst rest k (tG ops o true σ) o.op=qU M ops o.dst rest k (tG ops o true σ) (k7 M.P (tG ops o true σ) o.op):=by
      simp_all [uv]
     by_cases h1: ∃c,o.op= .defer c
     ·obtain⟨c,hc'⟩:=h1;simp only[hc',k7,uv]
      grind [aoW,Pq]
     ·by_cases h2: ∃x,o.op= .panic x
      ·obtain⟨x,hx⟩:=h2;simp only[hx,k7,uv,DH]
       grind [aoX,Ai]
      ·rw[key (fun c hc'=>h1 ⟨c,hc'⟩) (fun x hx=>h2 ⟨x,hx⟩)];cases he:k7 M.P (tG ops o true σ) o.op with
       |none=>
        simp_all [qU,DH,Pq]
       |some e=>
        grind [qU,mA]
def amZ{rest:List Oper}:aj9 M ops o rest k σ (some true)=aef M ops o rest k (tG ops o true σ) (mq (tG ops o true σ) o.op):=rfl
def aka{rest:List Oper}:aj9 M ops o rest k σ (some false)=run M (.ops ops rest::k) ((tG ops o false σ).put o.dst (.raw undef)):=rfl
def aqc{rest:List Oper}:aj9 M ops o rest k σ (some b)=bif b then aef M ops o rest k (tG ops o true σ) (mq (tG ops o true σ) o.op) else run M (.ops ops rest::k) ((tG ops o false σ).put o.dst (.raw undef)):=rfl
def am0{rest:List Oper}:aef M ops o rest k σ (some (f,args))=bif M.uR f then Nu M ops o.dst rest k σ (M.cp f args σ.heap) else LQ M ops o.dst rest k σ (M.cl f args σ.heap):=rfl
def aqd{rest:List Oper}:Nu M ops dst rest k σ (some (.ret r,H'))=run M (.ops ops rest::k) (jZ.put {σ with heap:=H'} dst r):=rfl
def aqe{rest:List Oper}:Nu M ops dst rest k σ (some (.panic x,H'))=ah8 M x {σ with heap:=H'} k:=rfl
def am1{rest:List Oper}:Nu M ops dst rest k σ none=none:=rfl
def am2{rest:List Oper}{o:Option α}{f:α->Option (sO×List kq)}:Nu M ops dst rest k σ (o.bind f)=o.bind fun x=>Nu M ops dst rest k σ (f x):=by
 cases o<;>rfl
def am3{rest:List Oper}{x y:Option (sO×List kq)}:Nu M ops dst rest k σ (bif b then x else y)=bif b then Nu M ops dst rest k σ x else Nu M ops dst rest k σ y:=by cases b<;>rfl
def am4{rest:List Oper}{p:FuncId×List AV}:aoW M ops dst rest k σ (some p)=run M (.ops ops rest::k) (σ.dfr p dst):=rfl
def am5:aoX M k σ (some x)=ah8 M x σ k:=rfl
def am6{rest:List Oper}:aef M ops o rest k σ none=ag0 M ops o rest k σ (yieldOf σ o.op):=rfl
def am7{rest:List Oper}:ag0 M ops o rest k σ (some (l,args))=LQ M ops o.dst rest k σ (M.cy l args σ.heap):=rfl
def am8{rest:List Oper}:ag0 M ops o rest k σ none=uv M ops o.dst rest k σ o.op:=rfl
def am9{rest:List Oper}:qU M ops dst rest k σ none=none:=rfl
def ana{rest:List Oper}{up:List (Nat×kq)}{p:Prop}:
 qU M ops dst rest k σ (some {val:=x,rd,up,nw,pre:=p})=mA p (run M (.ops ops rest::k) {σ.put dst x with heap:=lU σ.heap up++nw}):=rfl
def anb{rest:List Oper}{o:Option α}{f:α->Option ux}:qU M ops dst rest k σ (o.bind f)=o.bind fun x=>qU M ops dst rest k σ (f x):=by
 cases o<;>rfl
def aqf{rest:List Oper}{p:Prop}[Decidable p]{a b:Option ux}:qU M ops dst rest k σ (if p then a else b)=bif decide p then qU M ops dst rest k σ a else qU M ops dst rest k σ b:=by
 by_cases h:p<;>simp [h]
def anc{rest:List Oper}:LQ M ops dst rest k σ (some (r,H'))=run M (.ops ops rest::k) (jZ.put {σ with heap:=H'} dst r):=rfl
theorem aeg{rest:List Oper}:LQ M ops dst rest k σ none=none:=rfl
def ane{rest:List Oper}{o:Option α}{f:α->Option (AV×List kq)}:LQ M ops dst rest k σ (o.bind f)=o.bind fun x=>LQ M ops dst rest k σ (f x):=by
 cases o<;>rfl
def Q9(M:kU R)(p:List Nat)(tr:List Tr)(j:Nat)(e:ux):Prop:=Q7 (rj M p) tr j e
def Py(M:kU R)(p:List Nat)(i j:Nat):Bool:=acK (rj M p) i j
def anf{e:ux}:Q9 M p tr j e=(e.idle=true\/(tr.all fun t=>Ag t e||Py M p t.j j)=true):=rfl
def xw(M:kU R)(p:List Nat)(dst:Option Tmp)(rest:List Oper)(j:Nat)(tr:List Tr)(k:List Kt)(σ:jZ):Option ux->Option R
 |some e=>mA (e.pre/\Q9 M p tr j e) (run M (.MV p rest (j+1) (IV tr j σ.heap.length e)::k) (σ.app dst e))
 |none=>none
def Y1(M:kU R)(p:List Nat)(dst:Option Tmp)(rest:List Oper)(j:Nat)(tr:List Tr)(k:List Kt)(σ:jZ):Option AV->Option R
 |some r=>run M (.MV p rest (j+1) tr::k) (σ.put dst r)
 |none=>none
def Vc(M:kU R)(p:List Nat)(c:Nat)(rest:List Oper)(j:Nat)(σ:jZ):Prop:=Pv M.P (rj M p) c rest j σ
def Oi(M:kU R)(p:List Nat)(c:Nat):Bool:=ajM (rj M p) c
def Kr(M:kU R)(p:List Nat)(dst:Option Tmp)(rest:List Oper)(j:Nat)(tr:List Tr)(k:List Kt)(σ:jZ):Option CO->Option R
 |some (.ret e)=>xw M p dst rest j tr k σ (some e)
 |some (.pan x H')=>mA (Oi M p j=true\/(LO tr=true/\Vc M p j rest (j+1) (σ.put dst (.raw undef)))) (ah8 M x {σ with slots:=Q6 (rj M p) σ.slots,heap:=H'} k)
 |none=>none
def Y2(M:kU R)(p:List Nat)(o:Oper)(rest:List Oper)(j:Nat)(tr:List Tr)(k:List Kt)(σ:jZ):Option (FuncId×List AV)->Option R
 |some (f,args)=>bif M.vf f then Kr M p o.dst rest j tr k σ (M.co f args σ.heap) else bif M.vJ f then xw M p o.dst rest j tr k σ (M.ce f args σ.heap) else Y1 M p o.dst rest j tr k σ (M.cd f args)
 |none=>xw M p o.dst rest j tr k σ (k7 M.P σ o.op)
def aeh(M:kU R)(p:List Nat)(o:Oper)(rest:List Oper)(j:Nat)(tr:List Tr)(k:List Kt)(σ:jZ):Option Bool->Option R
 |none=>none
 |some b=>bif b then Y2 M p o rest j tr k (tG (rj M p) o true σ) (mq (tG (rj M p) o true σ) o.op) else run M (.MV p rest (j+1) tr::k) ((tG (rj M p) o false σ).put o.dst (.raw undef))
def ash{rest:List Oper}:run M (.MV p (o::rest) j tr::k) σ=aeh M p o rest j tr k σ (pm (rj M p) o σ):=by
 have hr: ∀j tr σ,run M (.MV p rest j tr::k) σ=match GJ M (rj M p) rest j tr σ with|some (e,σ')=>fin M k e σ'|none=>none:=by
  intro j tr σ;show fin M (.MV p rest j tr::k) .normal σ=_
  grind [pg,xu]
 have hl:run M (.MV p (o::rest) j tr::k) σ=match GJ M (rj M p) (o::rest) j tr σ with|some (e,σ')=>fin M k e σ'|none=>none:=by
  show fin M (.MV p (o::rest) j tr::k) .normal σ=_
  grind [pg,xu]
 rw[hl];simp only[GJ];cases hw:pm (rj M p) o σ with
 |none=>rfl
 |some b=>
  simp only[aeh];cases b with
  |false=>simp only[jN,hr]
  |true=>
   simp only[jM];cases hc:mq (tG (rj M p) o true σ) o.op with
   |some q=>
    obtain⟨f,args⟩:=q;simp only[Y2];cases hic:M.vf f with
    |true=>
     grind [Kr,xw,Q9,mA,Vc,Oi,Ai]
    |false=>
    grind [xw,Q9,mA,Y1]
   |none=>
    grind [Y2,xw,Q9,mA]
def akb{rest:List Oper}:aeh M p o rest j tr k σ (some true)=Y2 M p o rest j tr k (tG (rj M p) o true σ) (mq (tG (rj M p) o true σ) o.op):=rfl
def aib{rest:List Oper}:aeh M p o rest j tr k σ (some false)=run M (.MV p rest (j+1) tr::k) ((tG (rj M p) o false σ).put o.dst (.raw undef)):=rfl
def ang{rest:List Oper}:aeh M p o rest j tr k σ (some b)=bif b then Y2 M p o rest j tr k (tG (rj M p) o true σ) (mq (tG (rj M p) o true σ) o.op) else run M (.MV p rest (j+1) tr::k) ((tG (rj M p) o false σ).put o.dst (.raw undef)):=rfl
def akc{rest:List Oper}:Y2 M p o rest j tr k σ (some (f,args))=bif M.vf f then Kr M p o.dst rest j tr k σ (M.co f args σ.heap) else bif M.vJ f then xw M p o.dst rest j tr k σ (M.ce f args σ.heap) else Y1 M p o.dst rest j tr k σ (M.cd f args):=rfl
def anh{rest:List Oper}{e:ux}:Kr M p dst rest j tr k σ (some (.ret e))=xw M p dst rest j tr k σ (some e):=rfl
def ani{rest:List Oper}:Kr M p dst rest j tr k σ (some (.pan x H'))=bif Oi M p j then ah8 M x {σ with slots:=Q6 (rj M p) σ.slots,heap:=H'} k else mA (LO tr=true) (mA (Vc M p j rest (j+1) (σ.put dst (.raw undef))) (ah8 M x {σ with slots:=Q6 (rj M p) σ.slots,heap:=H'} k)):=by
 grind [Kr,mA]
def akd{rest:List Oper}:Kr M p dst rest j tr k σ none=none:=rfl
def ake{rest:List Oper}{o:Option α}{f:α->Option CO}:Kr M p dst rest j tr k σ (o.bind f)=o.bind fun x=>Kr M p dst rest j tr k σ (f x):=by
 cases o<;>rfl
def aqg {c:Nat}:Vc M p c [] j σ=True:=rfl
def Ib(M:kU R)(p:List Nat)(c j:Nat):Bool:=ow (rj M p) c j
def anj {c:Nat}{rest:List Oper}(h:Ib M p c j=true):Vc M p c (o::rest) j σ=Vc M p c rest (j+1) (σ.put o.dst (.raw undef)):=by
 unfold Ib at h;show Pv M.P (rj M p) c (o::rest) j σ=Pv M.P (rj M p) c rest (j+1) (σ.put o.dst (.raw undef));simp only[Pv,h]
def akf{rest:List Oper}:xw M p dst rest j tr k σ none=none:=rfl
def akg{rest:List Oper}{up:List (Nat×kq)}:
 xw M p dst rest j tr k σ (some {val:=x,rd,up,nw,pre:=pr})=mA pr (mA (Q9 M p tr j {val:=x,rd,up,nw,pre:=pr}) (run M (.MV p rest (j+1) (IV tr j σ.heap.length {val:=x,rd,up,nw,pre:=pr})::k) {σ.put dst x with heap:=lU σ.heap up++nw})):=by
 rw[<-Xb];rfl
def akh{rest:List Oper}{o:Option α}{f:α->Option ux}:xw M p dst rest j tr k σ (o.bind f)=o.bind fun x=>xw M p dst rest j tr k σ (f x):=by
 cases o<;>rfl
def ank{rest:List Oper}[Decidable pr]{a b:Option ux}:xw M p dst rest j tr k σ (if pr then a else b)=bif decide pr then xw M p dst rest j tr k σ a else xw M p dst rest j tr k σ b:=by
 by_cases h:pr<;>simp [h]
def aki{rest:List Oper}:Y1 M p dst rest j tr k σ (some r)=run M (.MV p rest (j+1) tr::k) (σ.put dst r):=rfl
def akj{rest:List Oper}:Y1 M p dst rest j tr k σ none=none:=rfl
def akk{rest:List Oper}{o:Option α}{f:α->Option AV}:Y1 M p dst rest j tr k σ (o.bind f)=o.bind fun x=>Y1 M p dst rest j tr k σ (f x):=by
 cases o<;>rfl
def Ra(G:Good M){r:R}(h:run M [.at []] σ=some r)(hQ: ∀σ',M.out σ'=some r->Q .normal σ'/\Q .ret σ')(hP: ∀x σ',M.oz x σ'=some r->Q (.panic x) σ'):awp M.P M.body Q σ:=by
 have h':fin M [.at []] .normal σ=some r:=h;rw[pg (by simp)] at h';simp only[xu,sub] at h';cases hx:exec M M.body [] σ with
 |none=>simp only[hx] at h';cases h'
 |some q=>
  obtain⟨e,σ'⟩:=q;simp only[hx] at h';refine xq G _ [] Q σ e σ' hx ?_;cases e with
  |normal=>exact(hQ σ' h').1
  |ret=>exact(hQ σ' h').2
  |panic x=>exact hP x σ' h'
  |_=>simp only[fin] at h';cases h'
def aqh(G:Good M){r:R}(h:run M [.at []] σ=some r)(hQ: ∀σ',M.out σ'=some r->Q .normal σ'/\Q .ret σ')(hP: ∀x σ',M.oz x σ'=none):awp M.P M.body Q σ:=
 Ra G h hQ fun x σ' hx=>by rw[hP x σ'] at hx;cases hx
def aei:Op->Bool
 | .call {callee:= .value _,..}=>false
 | .panic _=>false
 |_=>true
def aej:Code->Bool
 | .skip=>true
 | .region _ ops _=>ops.toList.all fun o=>aei o.op
 | .seq x y=>aej x&&aej y
 |_=>false
theorem Vd{o:Op}(h:aei o=true):mq σ o=none:=by
 unfold mq;split
 ·cases h
 ·rfl
theorem akl{o:Op}(h:aei o=true):Pq σ o=none:=by
 unfold Pq;split
 ·cases h
 ·rfl
def Rb{M:kU R}{ops:Array Oper}: ∀(rest:List Oper)(σ:jZ)(e:mM)(σ':jZ),rest.all (fun o=>aei o.op)=true->tA M ops rest σ=some (e,σ')->e= .normal
 |[],σ,e,σ',_,h=>by grind [tA]
 |o::rest,σ,e,σ',hc,h=>by
  rw[List.all_cons,cj] at hc;have ih:=fun σ=>Rb (M:=M) (ops:=ops) rest σ e σ' hc.2
  simp only[tA] at h
  grind [Vd,akl,lV]
def aek{M:kU R}{ops:Array Oper}: ∀(rest:List Oper)(j:Nat)(tr:List Tr)(σ:jZ)(e:mM)(σ':jZ),rest.all (fun o=>aei o.op)=true->GJ M ops rest j tr σ=some (e,σ')->e= .normal
 |[],_,_,σ,e,σ',_,h=>by grind [GJ]
 |o::rest,j,tr,σ,e,σ',hc,h=>by
  rw[List.all_cons,cj] at hc;have ih:=fun tr σ=>aek (M:=M) (ops:=ops) rest (j+1) tr σ e σ' hc.2
  grind [GJ,Vd,lV]
def abn{M:kU R}: ∀(c:Code)(p:List Nat)(σ:jZ)(e:mM)(σ':jZ),aej c=true->exec M c p σ=some (e,σ')->e= .normal
 | .skip,_,_,e,_,_,h=>by grind [exec]
 | .region _ ops false,_,_,e,_,hp,h=>by
   simp only[exec] at h;exact Rb _ _ _ _ hp h
 | .region _ ops true,_,_,e,_,hp,h=>by
   simp only[exec] at h;rw[lV] at h;exact aek _ _ _ _ _ _ hp h.2
 | .seq x y,p,σ,e,σ',hp,h=>by
   simp only[aej,cj] at hp;simp only[exec] at h;cases hx:exec M x (0::p) σ with
   |none=>simp only[hx] at h;cases h
   |some r=>
    obtain⟨e1,σ1⟩:=r;have:=abn x _ _ _ _ hp.1 hx;subst this;simp only[hx] at h;cases hc:M.cut (1::p) σ1 with
    |none=>grind
    |some σ2=>
     simp only[hc,cv] at h;exact abn y _ _ _ _ hp.2 h
 | .cond _ _ _,_,_,_,_,hp,_=>by cases hp
 | .block _ _,_,_,_,_,hp,_=>by cases hp
 | .loop _,_,_,_,_,hp,_=>by cases hp
 | .exit _,_,_,_,_,hp,_=>by cases hp
 | .scope _,_,_,_,_,hp,_=>by cases hp
 | .label _,_,_,_,_,hp,_=>by cases hp
 | .ret,_,_,_,_,hp,_=>by cases hp
 | .goto _,_,_,_,_,hp,_=>by cases hp
 | .rangeFunc _ _ _ _,_,_,_,_,hp,_=>by cases hp
 | .refuse _,_,_,_,_,hp,_=>by cases hp
def aoY{r:R}(G:Good M)(hbody:M.body= .seq lk.assign lk.body)(hp:aej lk.assign=true)(hn:vM lk.assign=true/\vM lk.body=true)
 (hH:H[0]? =some (.loop lk slots .ready 0)) (hnb:vK H.length args) (Ft: ∀x∈H,qk H.length x) (hout: ∀e σ,M.nH e σ=some r->aoU V e σ)
 (h:run M [.at [0],.rb,.at [1],.rd] {slots:=Px slots lk.ps.toList args,heap:=H,low:=H.length}=some r):FnT M.P (U2 M.P) args H V:=by
 refine ah6 hH hnb Ft hn ?_;have h0:sub [0] M.body=lk.assign:=by rw[hbody];rfl
 have h1:sub [1] M.body=lk.body:=by rw[hbody];rfl
 have h':fin M [.at [0],.rb,.at [1],.rd] .normal {slots:=Px slots lk.ps.toList args,heap:=H,low:=H.length}=some r:=h;rw[pg (by simp)] at h';simp only[xu,h0] at h';cases hx:exec M lk.assign [0] {slots:=Px slots lk.ps.toList args,heap:=H,low:=H.length} with
 |none=>simp only[hx] at h';cases h'
 |some q=>
  obtain⟨e,σ'⟩:=q;have:=abn _ _ _ _ _ hp hx;subst this;simp only[hx] at h';refine xq G _ [0] _ _ .normal σ' hx ?_;rw[pg (by simp)] at h';simp only[xu] at h';cases hb:abl σ' with
  |none=>grind
  |some σ2=>
   simp only[hb,dw] at h';unfold abl amM at hb;split at hb
   ·rename_i k s hk;simp only[cc] at hb;subst hb;refine⟨k,s,hk,?_⟩;rw[pg (by simp)] at h';simp only[xu,h1] at h';cases Pm:exec M lk.body [1] {σ' with heap:=σ'.heap.set 0 (.loop k s .busy 0)} with
    |none=>simp only[Pm] at h';cases h'
    |some q=>
     obtain⟨e2,σ3⟩:=q;simp only[Pm] at h';refine xq G _ [1] _ _ e2 σ3 Pm ?_;exact hout e2 σ3 (by cases e2<;>exact h')
   ·cases hb
def adv{fn:Func}{V:AV->Prop}{r:R}(G:Good M)(hf:M.P.funcs[f]? =some fn)(hb:fn.body=some M.body)(hne:(fn.name != "runtime.NumGoroutine")=true)(hnb:vK 0 args)
 (hn:fn.ntmps=n) (Ia:fn.results=rs.toArray) (hout: ∀σ,M.out σ=some r->σ.df=[]/\ap6 V σ.heap (KJ M.P σ rs))
 (h:run M [.at []] {slots:=args++cq (n-args.length) .any,heap:=[]}=some r) (hP: ∀x σ',M.oz x σ'=none:=by intros;rfl):IR M.P f args V:=by
 refine ajP hf hb hne hnb ?_;rw[Ia,hn];refine aqh G h (fun σ' hs=> ?_) hP;have:=hout σ' hs;exact⟨this,this⟩
end
end Go.Abs
end
